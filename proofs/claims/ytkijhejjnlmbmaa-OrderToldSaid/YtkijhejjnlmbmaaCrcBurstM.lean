/-
  Turned bits and joined texts, as plain mathematics: a burst of bits changes a sum; sums of parts are joined by steps; whatever texts there are.
-/
import Derived.Test.YtkijhejjnlmbmaaCrcSeal
namespace Go.Proofs.Ytkijhejjnlmbmaa.Crc
open Go.Proofs.Ytkijhejjnlmbmaa.Bv

/-- The start's bits go on by themselves. -/
theorem fold_lin (a b : BitVec 32) (l : List UInt8) : fold (a ^^^ b) l = fold a l ^^^ steps (8 * l.length) b := by
  induction l generalizing a b with
  | nil => rfl
  | cons x l ih =>
    show fold (take (a ^^^ b) x) l = fold (take a x) l ^^^ _
    rw [take_zero, ih, ← steps_add]
    congr 2
    simp only [List.length_cons]
    omega
def bit8 (j : Nat) : UInt8 := 1 <<< UInt8.ofNat j
theorem bit8_steps : ∀ j : Fin 8, steps 8 ((bit8 j.val).toBitVec.setWidth 32) = steps (8 - j.val) 1#32 := by decide +kernel
theorem take_bit (r : BitVec 32) (x : UInt8) (j : Nat) (hj : j < 8) : take r (x ^^^ bit8 j) = take r x ^^^ steps (8 - j) 1#32 := by
  have h := take_xor r 0#32 x (bit8 j)
  rw [BitVec.xor_zero] at h
  rw [h]
  unfold take
  rw [BitVec.zero_xor, bit8_steps ⟨j, hj⟩]
/-- One bit is turned. -/
theorem fold_bit (r : BitVec 32) (t : List UInt8) (i j : Nat) (hj : j < 8) (hi : i < t.length) :
    fold r (t.set i (t[i] ^^^ bit8 j)) = fold r t ^^^ steps (8 * t.length - (8 * i + j)) 1#32 := by
  induction t generalizing r i with
  | nil => simp at hi
  | cons x t ih =>
    cases i with
    | zero =>
      show fold (take r (x ^^^ bit8 j)) t = fold (take r x) t ^^^ _
      rw [take_bit r x j hj, fold_lin, ← steps_add]
      congr 2
      simp only [List.length_cons]
      omega
    | succ i =>
      have hi' : i < t.length := by simpa using hi
      show fold (take r x) (t.set i (t[i] ^^^ bit8 j)) = fold (take r x) t ^^^ _
      rw [ih (take r x) i hi']
      congr 2
      simp only [List.length_cons]
      omega
/-- The lowest bits of a number. -/
def lowb (b : BitVec 32) : Nat → BitVec 32
  | 0 => 0#32
  | k + 1 => lowb b k ^^^ (if b.getLsbD k then 1#32 <<< k else 0#32)
theorem lowb_get (b : BitVec 32) (k i : Nat) (hi : i < 32) : (lowb b k).getLsbD i = (decide (i < k) && b.getLsbD i) := by
  induction k with
  | zero => simp [lowb]
  | succ k ih =>
    rw [lowb, BitVec.getLsbD_xor, ih]
    by_cases hb : b.getLsbD k
    · rw [if_pos hb, BitVec.getLsbD_shiftLeft]
      by_cases h : i = k
      · subst h; simp [hb, hi]
      · by_cases h2 : i < k
        · simp [h2, show i < k + 1 by omega]
        · have h3 : ¬ i < k + 1 := by omega
          have h4 : ¬ (i - k = 0) := by omega
          simp [h2, h3, h4]
    · rw [if_neg hb]
      by_cases h : i = k
      · subst h; simp [hb]
      · by_cases h2 : i < k
        · simp [h2, show i < k + 1 by omega]
        · have h3 : ¬ i < k + 1 := by omega
          simp [h2, h3]
theorem lowb_all (b : BitVec 32) : lowb b 32 = b := by
  apply BitVec.eq_of_getLsbD_eq
  intro i hi
  rw [lowb_get b 32 i hi]
  simp [hi]
theorem shl_steps : ∀ j : Fin 32, steps j.val (1#32 <<< j.val) = 1#32 := by decide +kernel
theorem pow_steps (m j : Nat) (hj : j < 32) (hm : j ≤ m) : steps m (1#32 <<< j) = steps (m - j) 1#32 := by
  have h : m = j + (m - j) := by omega
  rw [h, steps_add, shl_steps ⟨j, hj⟩]
  congr 1
  omega

/-! A sealed text's own rest. -/
theorem byte_shift : ∀ b : BitVec 8, steps 8 (b.setWidth 32 <<< 8) = b.setWidth 32 ∧ steps 8 (b.setWidth 32 <<< 16) = b.setWidth 32 <<< 8 ∧ steps 8 (b.setWidth 32 <<< 24) = b.setWidth 32 <<< 16 := by decide +kernel
theorem fold4 (r : BitVec 32) (a b c d : UInt8) : fold r [a, b, c, d] = steps 32 (r ^^^ (a.toBitVec.setWidth 32 ^^^ b.toBitVec.setWidth 32 <<< 8 ^^^ c.toBitVec.setWidth 32 <<< 16 ^^^ d.toBitVec.setWidth 32 <<< 24)) := by
  show take (take (take (take r a) b) c) d = _
  unfold take
  generalize a.toBitVec = a
  generalize b.toBitVec = b
  generalize c.toBitVec = c
  generalize d.toBitVec = d
  obtain ⟨b1, _, _⟩ := byte_shift b
  obtain ⟨c1, c2, _⟩ := byte_shift c
  obtain ⟨d1, d2, d3⟩ := byte_shift d
  have e : ∀ x, steps 32 x = steps 8 (steps 8 (steps 8 (steps 8 x))) := fun x => by
    rw [← steps_add, ← steps_add, ← steps_add]
  rw [e]
  simp only [steps_xor, b1, c1, c2, d1, d2, d3]
  ac_rfl
theorem le4_join (x : BitVec 32) : (le4 x)[0]!.toBitVec.setWidth 32 ^^^ (le4 x)[1]!.toBitVec.setWidth 32 <<< 8 ^^^ (le4 x)[2]!.toBitVec.setWidth 32 <<< 16 ^^^ (le4 x)[3]!.toBitVec.setWidth 32 <<< 24 = x := by
  have h : ∀ k, (UInt8.ofNat (x.toNat / 2 ^ k)).toBitVec = (x >>> k).setWidth 8 := by
    intro k
    apply BitVec.eq_of_toNat_eq
    rw [BitVec.toNat_setWidth, BitVec.toNat_ushiftRight, Nat.shiftRight_eq_div_pow]
    exact UInt8.toNat_ofNat'
  have h0 : (le4 x)[0]!.toBitVec = (x >>> 0).setWidth 8 := by rw [← h 0]; simp [le4]
  have h1 : (le4 x)[1]!.toBitVec = (x >>> 8).setWidth 8 := h 8
  have h2 : (le4 x)[2]!.toBitVec = (x >>> 16).setWidth 8 := h 16
  have h3 : (le4 x)[3]!.toBitVec = (x >>> 24).setWidth 8 := h 24
  rw [h0, h1, h2, h3]
  apply BitVec.eq_of_getLsbD_eq
  intro i hi
  simp only [BitVec.getLsbD_xor, BitVec.getLsbD_shiftLeft, BitVec.getLsbD_setWidth, BitVec.getLsbD_ushiftRight]
  by_cases i0 : i < 8
  · simp [i0, hi, show i < 16 by omega, show i < 24 by omega]
  · by_cases i1 : i < 16
    · simp [i0, i1, hi, show i < 24 by omega, show i - 8 < 8 by omega, show i - 8 < 32 by omega, show 8 + (i - 8) = i by omega]
    · by_cases i2 : i < 24
      · simp [i0, i1, i2, hi, show ¬ i - 8 < 8 by omega, show i - 16 < 8 by omega, show i - 16 < 32 by omega, show 16 + (i - 16) = i by omega]
      · simp [i0, i1, i2, hi, show ¬ i - 8 < 8 by omega, show ¬ i - 16 < 8 by omega, show i - 24 < 8 by omega, show i - 24 < 32 by omega, show 24 + (i - 24) = i by omega]
theorem fold_le4 (r x : BitVec 32) : fold r (le4 x) = steps 32 (r ^^^ x) := by
  have h := fold4 r (le4 x)[0]! (le4 x)[1]! (le4 x)[2]! (le4 x)[3]!
  rw [le4_join] at h
  exact h
theorem fold_seal (s : ByteArray) : fold (~~~0#32) (sealS s).data.toList = steps 32 (BitVec.allOnes 32) := by
  rw [sealS_list, fold_append, fold_le4]
  unfold of more
  generalize fold (~~~0#32) s.data.toList = r
  have e : r ^^^ ~~~r = BitVec.allOnes 32 := by rw [not_xor, ← BitVec.xor_assoc, BitVec.xor_self, BitVec.zero_xor]
  rw [e]
/-- A text whose sum has been turned isn't opened. -/
theorem open_turned (s t : ByteArray) (d : BitVec 32) (hd : d ≠ 0#32) (hl : 4 ≤ t.size) (h : fold (~~~0#32) t.data.toList = fold (~~~0#32) (sealS s).data.toList ^^^ d) : openS t = (⟨#[]⟩, 5) := by
  unfold openS
  rw [if_neg (by omega)]
  apply if_neg
  intro hs
  have h1 := fold_seal (t.extract 0 (t.size - 4))
  rw [hs, h, fold_seal] at h1
  apply hd
  have h2 : steps 32 (BitVec.allOnes 32) ^^^ (steps 32 (BitVec.allOnes 32) ^^^ d) = 0#32 := by rw [h1, BitVec.xor_self]
  rwa [← BitVec.xor_assoc, BitVec.xor_self, BitVec.zero_xor] at h2

/-! Sums of parts. -/
end Go.Proofs.Ytkijhejjnlmbmaa.Crc
