/-
  The bytes of a text, written into; shifts, and bits.
-/
import Derived.Test.YtkijhejjnlmbmaaCrcBurst
import Derived.Test.YtkijhejjnlmbmaaByt
import Derived.Test.YtkijhejjnlmbmaaFnc
set_option linter.unusedVariables false
set_option linter.unusedSimpArgs false
namespace Go.Proofs.Ytkijhejjnlmbmaa
open Go.RowKit

/-- The bytes of a text, one's own. -/
def BytB (Z : Nat) (w : World) (A : Option Addr) (c : Nat) (t : List UInt8) : Prop :=
  ∃ (g : Nat) (R : List UInt8) (L : Nat), A = some ⟨g, 0, none⟩ ∧ Z ≤ g ∧ Blk w g (Crc.cells (t ++ R)) 5 (L, L + 1) ∧ t.length ≤ L ∧ t.length ≤ c ∧ c ≤ 9223372036854775807 ∧ t.length ≤ 140737488355328
section
variable {Z : Nat} {w w' : World} {A : Option Addr} {c : Nat} {t : List UInt8} {S : List Nat}
theorem BytB.lt (h : BytB Z w A c t) : ∀ q ∈ Rep.blkOf A, Z ≤ q ∧ q < w.heap.size := by
  obtain ⟨g, R, L, rfl, hz, hB, _⟩ := h
  intro q hq
  rw [List.mem_singleton.1 hq]; exact ⟨hz, hB.lt⟩
theorem BytB.mod (h : BytB Z w A c t) (m : Mod S w w') (hd : ∀ q ∈ Rep.blkOf A, q ∉ S) : BytB Z w' A c t := by
  obtain ⟨g, R, L, rfl, hz, hB, hr⟩ := h
  exact ⟨g, R, L, rfl, hz, (m.block g hB.lt (hd g (List.mem_singleton.2 rfl))).trans hB, hr⟩
theorem BytB.later (h : BytB Z w A c t) (x : Ext w w') : BytB Z w' A c t := by
  obtain ⟨g, R, L, rfl, hz, hB, hr⟩ := h
  exact ⟨g, R, L, rfl, hz, hB.later x, hr⟩
theorem all_bytes {w : World} : ∀ l : List UInt8, All2 (fun es a => repY.has w es a) (l.map fun b => [Value.int .u8 (b.toNat : Int)]) l
  | [] => trivial
  | b :: l => ⟨⟨rfl, trivial⟩, all_bytes l⟩
theorem bytes_flat : ∀ l : List UInt8, (l.map fun b => [Value.int .u8 (b.toNat : Int)]).flatten = Crc.cells l
  | [] => rfl
  | b :: l => by rw [List.map_cons, List.flatten_cons, bytes_flat l]; rfl
theorem BytB.has (h : BytB Z w A c t) : repY.SHas 1 w A c t := by
  obtain ⟨g, R, L, rfl, hz, hB, h1, h2, h3, h4⟩ := h
  refine ⟨h2, h3, by omega, (fun e => nomatch e), _, all_bytes t, ?_⟩
  rw [bytes_flat]
  refine ⟨by unfold Crc.cells; rw [List.length_map]; exact (Nat.mul_one _).symm, fun _ => ⟨g, 0, rfl, fun j u hu => ?_⟩⟩
  rw [Nat.zero_add, hB.cell j]
  unfold Crc.cells at hu ⊢
  rw [List.map_append, List.getElem?_append_left (by have := (List.getElem?_eq_some_iff.1 hu).1; exact this)]
  exact hu
end
section
variable {P : Program} {n : Nat} {E E' : List (Nat × Value)} {a : Act} {w w' w0 w1 : World} {Q : Exit → Act → World → Prop} {ops : Array Oper} {v : Value}
variable {d : Option Nat} {ty : TypeId} {pos : String} {af : Array Edge} {g : Option (Nat × Bool)} {x y z : Operand} {t u : TypeId} {rest : List Oper} {i j : Int} {k k' : IntKind}
theorem bsr {m : Nat} (hx : ev E x = some (.int k i)) (hy : ev E y = some (.int k' (m : Int))) (hm : m ≤ k.bits) (h0 : 0 ≤ i) : Runs P E ⟨d, .binOp .shr t x y u, ty, pos, af, g⟩ w (.int k (i / 2 ^ m)) w := run_bin hx hy (by rfl : binOp .shr t (.int k i) (.int k' (m : Int)) = Op.shift .shr k i k' (m : Int)) (by
  unfold Op.shift
  rw [if_neg (by omega)]
  show (pure (Value.int k (i.fdiv (2 ^ min (m : Int).toNat k.bits))) : Sem Value).run _ _ = _
  rw [Int.toNat_natCast, Nat.min_eq_left hm, Int.fdiv_eq_ediv_of_nonneg _ (by exact Int.le_of_lt (Int.pow_pos (by decide)))]; rfl)
theorem bsl {m : Nat} (hx : ev E x = some (.int k 1)) (hy : ev E y = some (.int k' j)) (hj : j = (m : Int)) (hm : m ≤ k.bits) : Runs P E ⟨d, .binOp .shl t x y u, ty, pos, af, g⟩ w (.int k (k.wrap (2 ^ m))) w := run_bin hx hy (by rfl : binOp .shl t (.int k 1) (.int k' j) = Op.shift .shl k 1 k' j) (by
  subst hj
  unfold Op.shift
  rw [if_neg (by omega)]
  show (pure (Value.int k (k.wrap (1 * 2 ^ min (m : Int).toNat k.bits))) : Sem Value).run _ _ = _
  rw [Int.toNat_natCast, Nat.min_eq_left hm, Int.one_mul]; rfl)
theorem ban (hx : ev E x = some (.int k i)) (hy : ev E y = some (.int k j)) : Runs P E ⟨d, .binOp .and t x y u, ty, pos, af, g⟩ w (.int k (bits .and k i j)) w := run_bin hx hy (binOp_and t k i j) rfl
theorem bxT {b : UInt8} {m : Nat} (hx : ev E x = some (.int .u8 (b.toNat : Int))) (hy : ev E y = some (.int .u8 (IntKind.u8.wrap (2 ^ m)))) (hm : m < 8) : Runs P E ⟨d, .binOp .xor t x y u, ty, pos, af, g⟩ w (.int .u8 ((b ^^^ Crc.bit8 m).toNat : Int)) w := run_bin hx hy (binOp_xor t .u8 _ _) (by rw [← Crc.toggle_num b m hm]; rfl)
theorem cvT {T : ByteArray} {dd : Nat} (hs : ev E x = some (.string T)) (hT : T.size ≤ 140737488351232) (hd : Nat.blt dd n = true)
    (h : ∀ w1 A C, Ext w w1 → BytB w.heap.size w1 A C T.data.toList → WL Try.prog n ops Q rest ((dd, .slice A T.size C) :: E) w1) :
    WL Try.prog n ops Q (⟨some dd, .convert 9 90 x, ty, pos, af, none⟩ :: rest) E w := by
  obtain ⟨C, w2, L, hrun, hB, hb, hL⟩ := Crc.bytes_of w T
  have hC : T.size ≤ C ∧ C ≤ 9223372036854775807 := by
    have h1 := run_bytes_of_string (P := Try.prog) w 9 90 5 T Try.underlying9 Try.underlying90 Try.underlying5
    rw [h1] at hrun
    injection hrun with e1 e2
    injection e1 with _ _ e3
    rw [← e3]
    exact ⟨grownCap_ge w T.size 0 _, grownCap_le_maxLen w T.size 0 _ (by simp only [maxLen]; omega)⟩
  refine vl (v := .slice (some ⟨w.heap.size, 0, none⟩) T.size C) (w' := w2) (fun m a ha => ?_) hd (h w2 _ _ hB ⟨w.heap.size, List.replicate (C - T.size) 0, L, rfl, Nat.le_refl _, hb, hL, hC.1, hC.2, by show T.size ≤ _; omega⟩)
  simp only [execOp, ha.ev hs, Sem.run_bind, hrun, Result.andThen_ok, Sem.run_pure]
theorem sbY {Z c i : Nat} {A : Option Addr} {t1 : List UInt8} {b : UInt8} (h : BytB Z w A c t1) (hi : i < t1.length) (hx : ev E x = some (.pointer (some ⟨bA A, oA A + i * 1, none⟩))) (hy : ev E y = some (.int .u8 (b.toNat : Int))) (hs : Sz P t 1)
    (hk : ∀ w1, Mod (Rep.blkOf A) w w1 → BytB Z w1 A c (t1.set i b) → WL P n ops Q rest E w1) : WL P n ops Q (⟨none, .store t x y, ty, pos, af, none⟩ :: rest) E w := by
  obtain ⟨g, R, L, rfl, hz, hB, h1, h2, h3, h4⟩ := h
  have hx' : ev E x = some (.pointer (some ⟨g, i, none⟩)) := by rw [hx]; simp [bA, oA]
  have hset := hB.set i (.int .u8 (b.toNat : Int))
  rw [Crc.cells_set t1 R i b hi] at hset
  have hf := hB.free i (.inl (by omega))
  have hm : w.cell? ⟨g, i, none⟩ = some (.int .u8 ((t1[i]).toNat : Int)) := by rw [hB.cell i]; exact Crc.cells_get t1 R i hi
  refine us (w' := w.setCell ⟨g, i, none⟩ (.int .u8 (b.toNat : Int))) (fun n a ha => ?_) (hk _ (show Mod [g] w _ from Mod.setCell w ⟨g, i, none⟩ _) ⟨g, R, L, rfl, hz, hset, by rw [List.length_set]; exact h1, by rw [List.length_set]; exact h2, h3, by rw [List.length_set]; exact h4⟩)
  have hst : (storeVar t ⟨g, i, none⟩ (.int .u8 (b.toNat : Int))).run P w = .ok () (w.setCell ⟨g, i, none⟩ (.int .u8 (b.toNat : Int))) := by
    have hcs : (Value.int .u8 (b.toNat : Int)).cells = #[.int .u8 (b.toNat : Int)] := rfl
    unfold storeVar
    simp only [hcs, Sem.run_bind, hs w, Result.andThen_ok, List.size_toArray, List.length_cons, List.length_nil, ne_eq, Nat.zero_add, not_true_eq_false, if_false, storeCells]
    have : (⟨g, i, none⟩ : Addr).add 0 = ⟨g, i, none⟩ := rfl
    rw [this, run_store P w _ (.int .u8 (b.toNat : Int)) _ rfl, hm]
    simp only [hf, Bool.false_eq_true, if_false, Result.andThen_ok, Sem.run_pure]
  simp only [execOp, ha.ev hx', ha.ev hy, Instr.storeAt, Instr.sureAddr, Sem.run_bind, Sem.run_pure, Result.andThen_ok, hst]
end
end Go.Proofs.Ytkijhejjnlmbmaa
