/-
  The sum of bytes as plain mathematics on words of 32 bits: one step is linear and can be undone; whatever words and texts there are.
-/
import Derived.Test.YtkijhejjnlmbmaaBas
namespace Go.Proofs.Ytkijhejjnlmbmaa.Crc
open Go.Proofs.Ytkijhejjnlmbmaa.Bv

/-- One bit's step. -/
def step (n : BitVec 32) : BitVec 32 := n >>> 1 ^^^ (3988292384#32 &&& -(n &&& 1#32))
def steps : Nat → BitVec 32 → BitVec 32
  | 0, n => n
  | k + 1, n => steps k (step n)
def take (n : BitVec 32) (b : UInt8) : BitVec 32 := steps 8 (n ^^^ b.toBitVec.setWidth 32)
def fold (n : BitVec 32) (l : List UInt8) : BitVec 32 := l.foldl take n
def more (n : BitVec 32) (l : List UInt8) : BitVec 32 := ~~~(fold (~~~n) l)
def of (l : List UInt8) : BitVec 32 := more 0#32 l

theorem wraps_u32' (n : Int) (h₀ : 0 ≤ n) (h₁ : n < 2 ^ 32) : IntKind.u32.wrap n = n := by rw [IntKind.wrap_u32]; omega
theorem xor_swap (a b c d : BitVec 32) : a ^^^ b ^^^ (c ^^^ d) = a ^^^ c ^^^ (b ^^^ d) := by
  rw [BitVec.xor_assoc, BitVec.xor_assoc, ← BitVec.xor_assoc b c d, BitVec.xor_comm b c, BitVec.xor_assoc c b d]

/-- The lowest bit, spread. -/
theorem spread (n : BitVec 32) : -(n &&& 1#32) = if n.getLsbD 0 then BitVec.allOnes 32 else 0#32 := by
  have h : n &&& 1#32 = if n.getLsbD 0 then 1#32 else 0#32 := by
    apply BitVec.eq_of_getLsbD_eq
    intro i hi
    rw [BitVec.getLsbD_and]
    cases i with
    | zero => cases h0 : n.getLsbD 0 <;> simp
    | succ j => cases h0 : n.getLsbD 0 <;> simp
  rw [h]; split <;> decide
theorem step_eq (n : BitVec 32) : step n = n >>> 1 ^^^ (if n.getLsbD 0 then 3988292384#32 else 0#32) := by
  unfold step; rw [spread]; split <;> simp
theorem step_xor (a b : BitVec 32) : step (a ^^^ b) = step a ^^^ step b := by
  simp only [step_eq, BitVec.ushiftRight_xor_distrib, BitVec.getLsbD_xor]
  generalize (3988292384#32 : BitVec 32) = c
  have h : a >>> 1 ^^^ c ^^^ (b >>> 1 ^^^ c) = a >>> 1 ^^^ b >>> 1 := by rw [xor_swap, BitVec.xor_self, BitVec.xor_zero]
  cases a.getLsbD 0 <;> cases b.getLsbD 0
  · simp
  · simp only [Bool.false_xor, if_true, Bool.false_eq_true, if_false, BitVec.xor_zero]; ac_rfl
  · simp only [Bool.xor_false, if_true, Bool.false_eq_true, if_false, BitVec.xor_zero]; ac_rfl
  · simp only [Bool.xor_true, Bool.not_true, if_true, Bool.false_eq_true, if_false, BitVec.xor_zero, h]
theorem step_zero : step 0#32 = 0#32 := by decide
theorem steps_xor (k : Nat) (a b : BitVec 32) : steps k (a ^^^ b) = steps k a ^^^ steps k b := by
  induction k generalizing a b with
  | zero => rfl
  | succ k ih => simp only [steps, step_xor, ih]
theorem steps_zero (k : Nat) : steps k 0#32 = 0#32 := by
  induction k with
  | zero => rfl
  | succ k ih => simp only [steps, step_zero, ih]
theorem steps_add (j k : Nat) (a : BitVec 32) : steps (j + k) a = steps k (steps j a) := by
  induction j generalizing a with
  | zero => rw [Nat.zero_add]; rfl
  | succ j ih => rw [Nat.succ_add]; simp only [steps, ih]

/-- A step can be undone: what comes of it is nought only of nought. -/
theorem step_top (a : BitVec 32) : (step a).getLsbD 31 = a.getLsbD 0 := by
  rw [step_eq, BitVec.getLsbD_xor, BitVec.getLsbD_ushiftRight]
  cases h : a.getLsbD 0 <;> simp
theorem step_eq_zero {a : BitVec 32} (h : step a = 0#32) : a = 0#32 := by
  have h0 : a.getLsbD 0 = false := by rw [← step_top, h]; simp
  rw [step_eq, h0] at h
  simp at h
  apply BitVec.eq_of_getLsbD_eq
  intro i hi
  cases i with
  | zero => rw [h0]; simp
  | succ j =>
    have := congrArg (fun x : BitVec 32 => x.getLsbD j) h
    simp only [BitVec.getLsbD_ushiftRight, BitVec.getLsbD_zero] at this
    rw [Nat.add_comm 1 j] at this
    rw [this]; simp
theorem steps_eq_zero {k : Nat} {a : BitVec 32} (h : steps k a = 0#32) : a = 0#32 := by
  induction k generalizing a with
  | zero => exact h
  | succ k ih => exact step_eq_zero (ih h)
theorem take_xor (a b : BitVec 32) (x y : UInt8) : take (a ^^^ b) (x ^^^ y) = take a x ^^^ take b y := by
  unfold take
  rw [← steps_xor, UInt8.toBitVec_xor, BitVec.setWidth_xor, xor_swap]
theorem take_zero (a b : BitVec 32) (x : UInt8) : take (a ^^^ b) x = take a x ^^^ steps 8 b := by
  unfold take
  rw [← steps_xor, BitVec.xor_assoc, BitVec.xor_assoc, BitVec.xor_comm b]

theorem not_xor (a : BitVec 32) : ~~~a = a ^^^ BitVec.allOnes 32 := by rw [BitVec.xor_allOnes]
theorem fold_append (n : BitVec 32) (l m : List UInt8) : fold n (l ++ m) = fold (fold n l) m := by
  unfold fold; rw [List.foldl_append]
theorem fold_snoc (n : BitVec 32) (l : List UInt8) (b : UInt8) : fold n (l ++ [b]) = take (fold n l) b := by
  rw [fold_append]; rfl

/-! The step as the program's numbers show it. -/
theorem step_num (m : BitVec 32) : bits BinOp.xor IntKind.u32 (U m / 2) (bits BinOp.and IntKind.u32 3988292384 (-bits BinOp.and IntKind.u32 (U m) 1 % 4294967296)) = U (step m) := by
  refine eq32 (bits32_nonneg _ _ _) (bits32_lt _ _ _) ?_
  have h1 := of_shr (n := 32) (U m) 1 (U_nonneg m) (by have := U32_lt m; omega)
  rw [of_xor32, of_and32, of_emod32, of_neg, of_and32, of_U]
  rw [show (U m / 2 : Int) = U m / 2 ^ 1 by rfl, h1, of_U]
  rfl
theorem in_num (x y : Int) (h0 : 0 ≤ y) (h1 : y < 256) : bits BinOp.xor IntKind.u32 x y = U (BitVec.ofInt 32 x ^^^ (BitVec.ofInt 8 y).setWidth 32) := by
  refine eq32 (bits32_nonneg _ _ _) (bits32_lt _ _ _) ?_
  rw [of_xor32]
  obtain ⟨m, rfl⟩ := Int.eq_ofNat_of_zero_le h0
  congr 1
  rw [BitVec.ofInt_natCast, BitVec.ofInt_natCast]
  apply BitVec.eq_of_toNat_eq
  simp only [BitVec.toNat_ofNat, BitVec.toNat_setWidth]
  omega
end Go.Proofs.Ytkijhejjnlmbmaa.Crc
