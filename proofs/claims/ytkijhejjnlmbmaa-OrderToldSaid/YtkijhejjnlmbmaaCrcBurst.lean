/-
  The walk of the law CrcBurst: for every text, place and bits it returns true; what was there stays.
-/
import Derived.Test.YtkijhejjnlmbmaaCrcBurstM
set_option linter.unusedVariables false
set_option linter.unusedSimpArgs false
namespace Go.Proofs.Ytkijhejjnlmbmaa.Crc
open Go.RowKit Go.Proofs.Ytkijhejjnlmbmaa.Bv

def cells (l : List UInt8) : List Value := l.map fun b => Value.int .u8 (b.toNat : Int)
theorem cells_get (l rest : List UInt8) (i : Nat) (h : i < l.length) : (cells (l ++ rest))[i]? = some (.int .u8 (l[i].toNat : Int)) := by
  unfold cells; simp [List.getElem?_append, h]
theorem cells_set (l rest : List UInt8) (i : Nat) (b : UInt8) (h : i < l.length) : (cells (l ++ rest)).set i (.int .u8 (b.toNat : Int)) = cells (l.set i b ++ rest) := by
  have e : Value.int .u8 (b.toNat : Int) = (fun b : UInt8 => Value.int .u8 (b.toNat : Int)) b := rfl
  unfold cells
  rw [e, ← List.map_set, List.set_append_left _ _ h]
theorem bytesRow_cells (s : ByteArray) (c : Nat) : bytesRow s c = (cells (s.data.toList ++ List.replicate (c - s.size) 0)).toArray := by
  unfold bytesRow cells
  apply Array.toList_inj.1
  simp

/-- What '[]byte(s)' leaves. -/
theorem bytes_of (w1 : World) (T : ByteArray) : ∃ C w2 L, (convert 9 90 (.string T)).run Try.prog w1 = .ok (.slice (some ⟨w1.heap.size, 0, none⟩) T.size C) w2 ∧ Below w1.heap.size w1 w2 ∧
    Blk w2 w1.heap.size (cells (T.data.toList ++ List.replicate (C - T.size) 0)) 5 (L, L + 1) ∧ T.size ≤ L := by
  refine ⟨grownCap w1 T.size 0 5, _, (bytesRow T (grownCap w1 T.size 0 5)).size, run_bytes_of_string (P := Try.prog) w1 9 90 5 T Try.underlying9 Try.underlying90 Try.underlying5, (Below.refl _ _).drew.alloc (Nat.le_refl _) _, ?_, ?_⟩
  · rw [bytesRow_cells]
    exact Blk.new w1.drew _ _ _
  · unfold bytesRow
    rw [Array.size_append, Array.size_map]
    exact Nat.le_add_right _ _

theorem bits_test (b : BitVec 32) (k : Nat) : (bits BinOp.and IntKind.u32 (U b / 2 ^ k) 1 == 1) = b.getLsbD k := by
  have h := b.isLt
  have e : U b / 2 ^ k = ((b.toNat / 2 ^ k : Nat) : Int) := by unfold U; rw [Int.natCast_ediv]; simp
  have hm := bits_mask .u32 32 (by decide) wraps_u32' 1 (by decide) (U b / 2 ^ k) (by rw [e]; exact Int.natCast_nonneg _) (by
    rw [e]
    have h2 : b.toNat / 2 ^ k ≤ b.toNat := Nat.div_le_self _ _
    omega)
  have hm' : bits BinOp.and IntKind.u32 (U b / 2 ^ k) 1 = (U b / 2 ^ k) % 2 := hm
  rw [hm', e]
  rw [BitVec.getLsbD, Nat.testBit, Nat.shiftRight_eq_div_pow]
  have h3 : b.toNat / 2 ^ k % 2 = 0 ∨ b.toNat / 2 ^ k % 2 = 1 := by omega
  rw [Nat.and_comm, Nat.and_one_is_mod]
  rcases h3 with h3 | h3
  · rw [h3]; have : ((b.toNat / 2 ^ k : Nat) : Int) % 2 = 0 := by omega
    rw [this]; rfl
  · rw [h3]; have : ((b.toNat / 2 ^ k : Nat) : Int) % 2 = 1 := by omega
    rw [this]; rfl

theorem shl_num : ∀ j : Fin 8, IntKind.u8.wrap ((2 : Int) ^ j.val) = ((bit8 j.val).toNat : Int) := by decide +kernel
theorem toggle_num (x : UInt8) (j : Nat) (hj : j < 8) : bits BinOp.xor IntKind.u8 (x.toNat : Int) (IntKind.u8.wrap ((2 : Int) ^ j)) = ((x ^^^ bit8 j).toNat : Int) := by
  have h1 := x.toNat_lt
  have h2 := (bit8 j).toNat_lt
  rw [shl_num ⟨j, hj⟩, u8_xor_nat _ _ (by omega) (by omega), ← UInt8.toNat_xor]

theorem open_u32 {x : Int} (h : (Lit.int .u32 x).wf = true) : ∃ s : BitVec 32, x = U s := by
  simp [Lit.wf, IntKind.min, IntKind.max, IntKind.signed, IntKind.bits] at h
  exact ⟨BitVec.ofInt 32 x, (U_of32 x (by omega) (by omega)).symm⟩
/-- What holds at each round. -/
structure Inv (T : ByteArray) (b : BitVec 32) (p N k : Nat) (t : List UInt8) : Prop where
  len : t.length = N
  low : ∀ j, j < k → b.getLsbD j = true → p + j < 8 * N
  sum : fold (~~~0#32) t = fold (~~~0#32) T.data.toList ^^^ steps (8 * N - p) (lowb b k)
theorem Inv.skip {T : ByteArray} {b : BitVec 32} {p N k : Nat} {t : List UInt8} (h : Inv T b p N k t) (hb : b.getLsbD k = false) : Inv T b p N (k + 1) t :=
  ⟨h.len, fun j hj hbj => by
    by_cases e : j = k
    · subst e; rw [hb] at hbj; cases hbj
    · exact h.low j (by omega) hbj, by rw [h.sum, lowb, hb]; simp⟩
theorem Inv.turn {T : ByteArray} {b : BitVec 32} {p N k : Nat} {t : List UInt8} (h : Inv T b p N k t) (hk : k < 32) (hb : b.getLsbD k = true) (hp : p + k < 8 * N) (hi : (p + k) / 8 < t.length) :
    Inv T b p N (k + 1) (t.set ((p + k) / 8) (t[(p + k) / 8] ^^^ bit8 ((p + k) % 8))) :=
  ⟨by rw [List.length_set]; exact h.len, fun j hj hbj => by
    by_cases e : j = k
    · subst e; exact hp
    · exact h.low j (by omega) hbj, by
    rw [fold_bit _ _ _ _ (Nat.mod_lt _ (by decide)) hi, h.sum, lowb, if_pos hb, steps_xor, pow_steps _ k hk (by omega), BitVec.xor_assoc]
    congr 2
    rw [h.len]
    congr 1
    omega⟩

end Go.Proofs.Ytkijhejjnlmbmaa.Crc
