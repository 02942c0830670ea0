/-
  Sets of players: bit by bit.
-/
import Derived.Test.YtclobldldddjnaaVoteM
import Derived.Test.YtclobldldddjnaaBv
set_option linter.unusedVariables false
namespace Go.Proofs.Ytclobldldddjnaa.Vote
open Go.RowKit Go.Proofs.Ytclobldldddjnaa.Bv

/-- Those of a who are not in b. -/
def diff (a b : Nat) : Nat := (BitVec.ofNat 32 a &&& ~~~BitVec.ofNat 32 b).toNat
theorem diff_lt (a b : Nat) : diff a b < 4294967296 := (BitVec.ofNat 32 a &&& ~~~BitVec.ofNat 32 b).isLt
theorem diff_bit (a b i : Nat) (ha : a < 4294967296) (hi : i < 32) : (diff a b).testBit i = (a.testBit i && !b.testBit i) := by
  unfold diff
  rw [BitVec.testBit_toNat, BitVec.getLsbD_and, BitVec.getLsbD_not, BitVec.getLsbD_ofNat, BitVec.getLsbD_ofNat]
  simp [hi]
theorem diff_top (a b i : Nat) (hi : ¬ i < 32) : (diff a b).testBit i = false := Nat.testBit_lt_two_pow (Nat.lt_of_lt_of_le (diff_lt a b) (Nat.pow_le_pow_right (n := 2) (by decide) (by omega : 32 ≤ i)))
theorem ofInt_nat (a : Nat) : BitVec.ofInt 32 (a : Int) = BitVec.ofNat 32 a := of_nat a
theorem diff_num (a b : Nat) : bits .andNot .u32 (a : Int) (b : Int) = (diff a b : Int) := by
  have h := eq32 (x := bits .andNot .u32 (a : Int) (b : Int)) (b := BitVec.ofNat 32 a &&& ~~~BitVec.ofNat 32 b) (bits32_nonneg _ _ _) (bits32_lt _ _ _) (by rw [of_andNot32, ofInt_nat, ofInt_nat])
  exact h
theorem wraps_u32 (n : Int) (h₀ : 0 ≤ n) (h₁ : n < 2 ^ 32) : IntKind.u32.wrap n = n := by simp [IntKind.wrap, IntKind.signed, IntKind.bits]; omega
theorem or_num (a b : Nat) (ha : a < 4294967296) (hb : b < 4294967296) : bits .or .u32 (a : Int) (b : Int) = ((a ||| b : Nat) : Int) := (bits_nat .u32 32 (by decide) wraps_u32 a b ha hb).2
theorem and_num (a b : Nat) (ha : a < 4294967296) (hb : b < 4294967296) : bits .and .u32 (a : Int) (b : Int) = ((a &&& b : Nat) : Int) := (bits_nat .u32 32 (by decide) wraps_u32 a b ha hb).1
theorem bit_num (a k : Nat) (ha : a < 4294967296) : bits .and .u32 ((a / 2 ^ k : Nat) : Int) 1 = if a.testBit k then 1 else 0 := by
  have h1 : a / 2 ^ k < 4294967296 := Nat.lt_of_le_of_lt (Nat.div_le_self _ _) ha
  have h := and_num (a / 2 ^ k) 1 h1 (by decide)
  rw [Nat.and_one_is_mod] at h
  rw [show (1 : Int) = ((1 : Nat) : Int) from rfl, h, Nat.testBit_eq_decide_div_mod_eq]
  rcases Nat.mod_two_eq_zero_or_one (a / 2 ^ k) with e | e <;> simp [e]
theorem lt_or {a b : Nat} (ha : a < 4294967296) (hb : b < 4294967296) : a ||| b < 4294967296 := Nat.or_lt_two_pow (n := 32) ha hb
theorem one_lt {k : Nat} (hk : k < 32) : 2 ^ k < 4294967296 := Nat.pow_lt_pow_right (a := 2) (by decide) hk
theorem eq_of_bits {a b : Nat} (h : ∀ i, a.testBit i = b.testBit i) : a = b := Nat.eq_of_testBit_eq h
end Go.Proofs.Ytclobldldddjnaa.Vote
