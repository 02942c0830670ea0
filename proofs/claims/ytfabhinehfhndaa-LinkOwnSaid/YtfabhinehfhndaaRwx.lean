/-
  Rows of one's own of which is known only what stands in each cell, loosely.
-/
import Derived.Test.YtfabhinehfhndaaLnO
set_option linter.unusedVariables false
set_option linter.unusedSimpArgs false
namespace Go.Proofs.Ytfabhinehfhndaa
open Go.RowKit

/-- A row of one's own: each of its c places holds something that G lets. -/
def RawX (Z size : Nat) (G : Nat → Value → Prop) (w : World) (A : Option Addr) (c : Nat) : Prop :=
  (A = none ∧ c = 0) ∨ ∃ (b o : Nat) (cur : List Value) (e : TypeId), A = some ⟨b, o, none⟩ ∧ Z ≤ b ∧ Blk w b cur e (0, 0) ∧ ∀ i, i < c → ∃ u, cur[o + i * size]? = some u ∧ G i u
section
variable {w w' : World} {Z size c i : Nat} {A : Option Addr} {S : List Nat} {G G' : Nat → Value → Prop}
theorem RawX.lt (h : RawX Z size G w A c) : ∀ q ∈ Rep.blkOf A, Z ≤ q ∧ q < w.heap.size := by
  intro q hq
  rcases h with ⟨rfl, _⟩ | ⟨b, o, cur, e, rfl, h1, h2, _⟩
  · simp [Rep.blkOf] at hq
  · obtain rfl : q = b := List.mem_singleton.1 hq
    exact ⟨h1, h2.lt⟩
theorem RawX.later (h : RawX Z size G w A c) (x : Ext w w') : RawX Z size G w' A c := by
  rcases h with h | ⟨b, o, cur, e, h1, h2, h3, h4⟩
  · exact .inl h
  · exact .inr ⟨b, o, cur, e, h1, h2, h3.later x, h4⟩
theorem RawX.mod (h : RawX Z size G w A c) (m : Mod S w w') (hd : ∀ q ∈ Rep.blkOf A, q ∉ S) : RawX Z size G w' A c := by
  rcases h with h | ⟨b, o, cur, e, h1, h2, h3, h4⟩
  · exact .inl h
  · exact .inr ⟨b, o, cur, e, h1, h2, h3.mod m (hd b (by rw [h1]; exact List.mem_singleton.2 rfl)), h4⟩
theorem RawX.adr (h : RawX Z size G w A c) (h0 : 0 < c) : A = some ⟨bA A, oA A, none⟩ := by
  rcases h with ⟨_, h⟩ | ⟨b, o, cur, e, rfl, _⟩
  · omega
  · rfl
theorem RawX.get (h : RawX Z size G w A c) (hi : i < c) : ∃ u, w.cell? ⟨bA A, oA A + i * size, none⟩ = some u ∧ G i u := by
  rcases h with ⟨_, h⟩ | ⟨b, o, cur, e, rfl, _, h3, h4⟩
  · omega
  · obtain ⟨u, hm, hG⟩ := h4 i hi
    exact ⟨u, by rw [show (⟨bA (some ⟨b, o, none⟩), oA (some ⟨b, o, none⟩) + i * size, none⟩ : Addr) = ⟨b, o + i * size, none⟩ from by simp [bA, oA], h3.cell, hm], hG⟩
theorem RawX.imp (h : RawX Z size G w A c) (hG : ∀ k v, G k v → G' k v) : RawX Z size G' w A c := by
  rcases h with h | ⟨b, o, cur, e, h1, h2, h3, h4⟩
  · exact .inl h
  · exact .inr ⟨b, o, cur, e, h1, h2, h3, fun k hk => by obtain ⟨u, h5, h6⟩ := h4 k hk; exact ⟨u, h5, hG k u h6⟩⟩
theorem RawX.set (h : RawX Z size G w A c) (hs : 0 < size) (hi : i < c) (v : Value) (hG : ∀ k v, k ≠ i → G k v → G' k v) (hv : G' i v) : RawX Z size G' (w.setCell ⟨bA A, oA A + i * size, none⟩ v) A c := by
  rcases h with ⟨_, h⟩ | ⟨b, o, cur, e, rfl, h1, h3, h4⟩
  · omega
  · rw [show (⟨bA (some ⟨b, o, none⟩), oA (some ⟨b, o, none⟩) + i * size, none⟩ : Addr) = ⟨b, o + i * size, none⟩ from by simp [bA, oA]]
    refine .inr ⟨b, o, _, e, rfl, h1, h3.set _ _, fun k hk => ?_⟩
    obtain ⟨u, hm, hu⟩ := h4 k hk
    by_cases he : i = k
    · subst he
      exact ⟨v, List.getElem?_set_self (List.getElem?_eq_some_iff.1 hm).1, hv⟩
    · have hne : o + i * size ≠ o + k * size := fun e => he (Nat.eq_of_mul_eq_mul_right hs (by omega))
      exact ⟨u, by rw [List.getElem?_set_ne hne, hm], hG k u (fun e => he e.symm) hu⟩
theorem RawX.free (h : RawX Z size G w A c) (hi : i < c) (k : Nat) : w.frozen? ⟨bA A, k, none⟩ = false := by
  rcases h with ⟨_, h⟩ | ⟨b, o, cur, e, rfl, h1, h3, h4⟩
  · omega
  · exact h3.free k (.inr (Nat.zero_le _))
end
/-- A store into such a row. -/
theorem srx {P : Program} {n : Nat} {E : List (Nat × Value)} {w : World} {Q : Exit → Act → World → Prop} {ops : Array Oper} {ty : TypeId} {pos : String} {af : Array Edge} {x y : Operand} {t : TypeId} {rest : List Oper} {Z size c i : Nat} {G G' : Nat → Value → Prop} {A : Option Addr} {v : Value}
    (h : RawX Z size G w A c) (hs0 : 0 < size) (hi : i < c) (hx : ev E x = some (.pointer (some ⟨bA A, oA A + i * size, none⟩))) (hy : ev E y = some v) (hcs : v.cells = #[v]) (hv1 : v.oneCell' = true) (hs : Sz P t 1) (hG : ∀ k v, k ≠ i → G k v → G' k v) (hv : G' i v)
    (hk : ∀ w1, Mod (Rep.blkOf A) w w1 → RawX Z size G' w1 A c → WL P n ops Q rest E w1) : WL P n ops Q (⟨none, .store t x y, ty, pos, af, none⟩ :: rest) E w := by
  obtain ⟨m, hm, _⟩ := h.get hi
  have hA := h.adr (by omega)
  have hf := h.free hi (oA A + i * size)
  have hmod : Mod (Rep.blkOf A) w (w.setCell ⟨bA A, oA A + i * size, none⟩ v) := by
    have := Mod.setCell w ⟨bA A, oA A + i * size, none⟩ v
    refine this.sub fun q hq => ?_
    rw [hA]; exact List.mem_singleton.2 (List.mem_singleton.1 hq)
  refine us (w' := w.setCell ⟨bA A, oA A + i * size, none⟩ v) (fun n a ha => ?_) (hk _ hmod (h.set hs0 hi v hG hv))
  have hst : (storeVar t ⟨bA A, oA A + i * size, none⟩ v).run P w = .ok () (w.setCell ⟨bA A, oA A + i * size, none⟩ v) := by
    unfold storeVar
    simp only [hcs, Sem.run_bind, hs w, Result.andThen_ok, List.size_toArray, List.length_cons, List.length_nil, ne_eq, Nat.zero_add, not_true_eq_false, if_false, storeCells]
    have : (⟨bA A, oA A + i * size, none⟩ : Addr).add 0 = ⟨bA A, oA A + i * size, none⟩ := rfl
    rw [this, run_store P w _ v _ hv1, hm]
    simp only [hf, Bool.false_eq_true, if_false, Result.andThen_ok, Sem.run_pure]
  simp only [execOp, ha.ev hx, ha.ev hy, Instr.storeAt, Instr.sureAddr, Sem.run_bind, Sem.run_pure, Result.andThen_ok, hst]
/-- Numbers; texts, of which those from k on are not too long. -/
def GI : Nat → Value → Prop := fun _ u => ∃ m : Int, u = .int .i64 m
def GS (k : Nat) : Nat → Value → Prop := fun i u => ∃ m : ByteArray, u = .string m ∧ (k ≤ i → m.size ≤ 140737488351232)
section
variable {w : World} {Z c i k : Nat} {A : Option Addr}
theorem RawX.getI (h : RawX Z 1 GI w A c) (hi : i < c) : ∃ m : Int, w.cell? ⟨bA A, oA A + i * 1, none⟩ = some (.int .i64 m) := by
  obtain ⟨_, h1, m, rfl⟩ := h.get hi; exact ⟨m, h1⟩
theorem RawX.getS (h : RawX Z 1 (GS k) w A c) (hi : k < c) : ∃ m : ByteArray, w.cell? ⟨bA A, oA A + k * 1, none⟩ = some (.string m) ∧ m.size ≤ 140737488351232 := by
  obtain ⟨_, h1, m, rfl, h2⟩ := h.get hi; exact ⟨m, h1, h2 (Nat.le_refl _)⟩
theorem GS.step {j : Nat} {v : Value} (h : GS k j v) : GS (k + 1) j v := by
  obtain ⟨m, h1, h2⟩ := h; exact ⟨m, h1, fun hk => h2 (by omega)⟩
theorem GS.done {m : ByteArray} : GS (k + 1) k (.string m) := ⟨m, rfl, fun h => by omega⟩
theorem RawX.ofOwn {α : Type} {R : Rep α} {e by_ : Nat} {l : List α} {G : Nat → Value → Prop} (h : R.SOwn e by_ w Z (Rep.blkOf A) A c l) (hz : R.size = 1) (hr : ∀ k u, R.raw 0 u → G k u) : RawX Z 1 G w A c := by
  obtain ⟨_, ps, _, _, ⟨_, ho⟩, _⟩ := h
  rcases ho with ⟨h1, _⟩ | ⟨b, cap, cur, h1, h2, h3, h4, h5, h6, h7, h8⟩
  · injection h1 with h1 _ h2; exact .inl ⟨h1, h2⟩
  · injection h1 with h1 _ h9
    subst h9
    refine .inr ⟨b, 0, cur.toList, e, h1, h2, by unfold Blk; simpa using h3, fun i hi => ?_⟩
    have hlt : 0 + i * 1 < cur.size := by
      rw [h6, hz]; omega
    refine ⟨cur[0 + i * 1], by simp only [Array.getElem?_toList, Array.getElem?_eq_getElem hlt], hr _ _ ?_⟩
    have := h8 (0 + i * 1) _ (Array.getElem?_eq_getElem hlt)
    rwa [hz, Nat.mod_one] at this
theorem RawX.ofI {l : List Int} {e : TypeId} (h : repI.SOwn e 8 w Z (Rep.blkOf A) A c l) : RawX Z 1 GI w A c := RawX.ofOwn h rfl fun _ _ h => h
theorem RawX.ofS {l : List ByteArray} {e : TypeId} (h : repS.SOwn e 16 w Z (Rep.blkOf A) A c l) : RawX Z 1 (GS 0) w A c := RawX.ofOwn h rfl fun _ _ h => by
  obtain ⟨m, h1, h2⟩ := h; exact ⟨m, h1, fun _ => h2⟩
theorem RawX.ofT {l : List Int} (h : TOwn w Z A c l) : RawX Z 1 GI w A c := by
  cases A with
  | none => exact .inl ⟨rfl, h.has.2.2.2.1 rfl⟩
  | some a =>
    obtain ⟨cur, h0, h1, h2, h3⟩ := h.row a rfl
    refine .inr ⟨a.block, a.off, cur, _, by rw [← h0], (h.lt a.block (List.mem_singleton.2 rfl)).1, h1, fun i hi => ?_⟩
    have hlt : a.off + i * 1 < cur.length := by omega
    exact ⟨cur[a.off + i * 1], List.getElem?_eq_getElem hlt, h3 _ (List.getElem_mem hlt)⟩
end
/-- Two texts, joined. -/
theorem sjn {P : Program} {E : List (Nat × Value)} {w : World} {d : Option Nat} {ty : TypeId} {pos : String} {af : Array Edge} {g : Option (Nat × Bool)} {x y : Operand} {t u : TypeId} {a b : ByteArray} (hx : ev E x = some (.string a)) (hy : ev E y = some (.string b)) (h : a.size + b.size ≤ 9223372036854775807) :
    Runs P E ⟨d, .binOp .add t x y u, ty, pos, af, g⟩ w (.string (a ++ b)) w := fun n act ha => by
  simp only [execOp, ha.ev hx, ha.ev hy, eqGuard, binOp_string_add, Sem.run_bind, Sem.run_pure, Result.andThen_ok]
  have hs : (Op.stringOp .add a b).run P w = .ok (.string (a ++ b)) w := by first | exact run_string_add_sum _ _ h | exact run_string_add_sum P w a b h | exact run_string_add_sum (P := P) (w := w) a b h
  simp [hs]
end Go.Proofs.Ytfabhinehfhndaa
