/-
  The sum of bytes as plain mathematics on words of 32 bits: one step is linear and can be undone; whatever words and texts there are.
-/
import Derived.Test.YtfabhinehfhndaaBas
namespace Go.Proofs.Ytfabhinehfhndaa.Crc
open Go.Proofs.Ytfabhinehfhndaa.Bv

/-- One bit's step. -/
def step (n : BitVec 32) : BitVec 32 := n >>> 1 ^^^ (3988292384#32 &&& -(n &&& 1#32))
def steps : Nat → BitVec 32 → BitVec 32
  | 0, n => n
  | k + 1, n => steps k (step n)
def take (n : BitVec 32) (b : UInt8) : BitVec 32 := steps 8 (n ^^^ b.toBitVec.setWidth 32)
def fold (n : BitVec 32) (l : List UInt8) : BitVec 32 := l.foldl take n
def more (n : BitVec 32) (l : List UInt8) : BitVec 32 := ~~~(fold (~~~n) l)
def of (l : List UInt8) : BitVec 32 := more 0#32 l

theorem fold_append (n : BitVec 32) (l m : List UInt8) : fold n (l ++ m) = fold (fold n l) m := by
  unfold fold; rw [List.foldl_append]
theorem fold_snoc (n : BitVec 32) (l : List UInt8) (b : UInt8) : fold n (l ++ [b]) = take (fold n l) b := by
  rw [fold_append]; rfl

/-! The step as the program's numbers show it. -/
theorem step_num (m : BitVec 32) : bits BinOp.xor IntKind.u32 (U m / 2) (bits BinOp.and IntKind.u32 3988292384 (-bits BinOp.and IntKind.u32 (U m) 1 % 4294967296)) = U (step m) := by
  refine eq32 (bits32_nonneg _ _ _) (bits32_lt _ _ _) ?_
  have h1 := of_shr (n := 32) (U m) 1 (U_nonneg m) (by have := U32_lt m; omega)
  rw [of_xor32, of_and32, of_emod32, of_neg, of_and32, of_U]
  rw [show (U m / 2 : Int) = U m / 2 ^ 1 by rfl, h1, of_U]
  rfl
theorem in_num (x y : Int) (h0 : 0 ≤ y) (h1 : y < 256) : bits BinOp.xor IntKind.u32 x y = U (BitVec.ofInt 32 x ^^^ (BitVec.ofInt 8 y).setWidth 32) := by
  refine eq32 (bits32_nonneg _ _ _) (bits32_lt _ _ _) ?_
  rw [of_xor32]
  obtain ⟨m, rfl⟩ := Int.eq_ofNat_of_zero_le h0
  congr 1
  rw [BitVec.ofInt_natCast, BitVec.ofInt_natCast]
  apply BitVec.eq_of_toNat_eq
  simp only [BitVec.toNat_ofNat, BitVec.toNat_setWidth]
  omega
end Go.Proofs.Ytfabhinehfhndaa.Crc
