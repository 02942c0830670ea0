/-
  Numbers of the model as bit vectors: what each operation on words does, told of BitVec; for every number.
-/
import Derived.WalkKit
namespace Go.Proofs.Yticfnngppcmidaa.Bv
open Go.RowKit

/-- A word as the number that the model holds. -/
def U {n : Nat} (b : BitVec n) : Int := (b.toNat : Int)

theorem U_nonneg {n : Nat} (b : BitVec n) : 0 ≤ U b := Int.natCast_nonneg _
theorem U32_lt (b : BitVec 32) : U b < 4294967296 := by have := b.isLt; unfold U; omega
theorem U64_lt (b : BitVec 64) : U b < 18446744073709551616 := by have := b.isLt; unfold U; omega
theorem U8_lt (b : BitVec 8) : U b < 256 := by have := b.isLt; unfold U; omega
theorem U32_le (b : BitVec 32) : U b ≤ 4294967295 := by have := b.isLt; unfold U; omega
theorem U64_le (b : BitVec 64) : U b ≤ 18446744073709551615 := by have := b.isLt; unfold U; omega
theorem U8_le (b : BitVec 8) : U b ≤ 255 := by have := b.isLt; unfold U; omega

theorem of_U {n : Nat} (b : BitVec n) : BitVec.ofInt n (U b) = b := by
  unfold U; rw [BitVec.ofInt_natCast, BitVec.ofNat_toNat, BitVec.setWidth_eq]
theorem U_of32 (x : Int) (h0 : 0 ≤ x) (h1 : x < 4294967296) : U (BitVec.ofInt 32 x) = x := by
  obtain ⟨m, rfl⟩ := Int.eq_ofNat_of_zero_le h0
  unfold U; rw [BitVec.ofInt_natCast, BitVec.toNat_ofNat]; omega
theorem U_of64 (x : Int) (h0 : 0 ≤ x) (h1 : x < 18446744073709551616) : U (BitVec.ofInt 64 x) = x := by
  obtain ⟨m, rfl⟩ := Int.eq_ofNat_of_zero_le h0
  unfold U; rw [BitVec.ofInt_natCast, BitVec.toNat_ofNat]; omega
theorem U_of8 (x : Int) (h0 : 0 ≤ x) (h1 : x < 256) : U (BitVec.ofInt 8 x) = x := by
  obtain ⟨m, rfl⟩ := Int.eq_ofNat_of_zero_le h0
  unfold U; rw [BitVec.ofInt_natCast, BitVec.toNat_ofNat]; omega
theorem U_inj {n : Nat} {a b : BitVec n} (h : U a = U b) : a = b := by
  unfold U at h; exact BitVec.eq_of_toNat_eq (by omega)
theorem eq32 {x : Int} {b : BitVec 32} (h0 : 0 ≤ x) (h1 : x < 4294967296) (h : BitVec.ofInt 32 x = b) : x = U b := by
  rw [← h, U_of32 x h0 h1]
theorem eq64 {x : Int} {b : BitVec 64} (h0 : 0 ≤ x) (h1 : x < 18446744073709551616) (h : BitVec.ofInt 64 x = b) : x = U b := by
  rw [← h, U_of64 x h0 h1]
theorem eq8 {x : Int} {b : BitVec 8} (h0 : 0 ≤ x) (h1 : x < 256) (h : BitVec.ofInt 8 x = b) : x = U b := by
  rw [← h, U_of8 x h0 h1]

/-! What an operation leaves lies in its kind's range. -/
theorem bits_u_range (k : IntKind) (op : BinOp) (a b : Int) (hs : k.signed = false) : 0 ≤ bits op k a b ∧ bits op k a b < 2 ^ k.bits := by
  have hp : (0 : Int) < 2 ^ k.bits := Int.pow_pos (by decide)
  have key : ∀ n : Int, 0 ≤ k.wrap n ∧ k.wrap n < 2 ^ k.bits := by
    intro n
    simp only [IntKind.wrap, hs, Bool.false_and, Bool.false_eq_true, if_false]
    exact ⟨Int.emod_nonneg _ (by omega), Int.emod_lt_of_pos _ hp⟩
  unfold bits
  exact key _
theorem bits32_nonneg (op : BinOp) (a b : Int) : 0 ≤ bits op .u32 a b := (bits_u_range .u32 op a b rfl).1
theorem bits32_lt (op : BinOp) (a b : Int) : bits op .u32 a b < 4294967296 := (bits_u_range .u32 op a b rfl).2
theorem bits64_nonneg (op : BinOp) (a b : Int) : 0 ≤ bits op .u64 a b := (bits_u_range .u64 op a b rfl).1
theorem bits64_lt (op : BinOp) (a b : Int) : bits op .u64 a b < 18446744073709551616 := (bits_u_range .u64 op a b rfl).2
theorem bits8_nonneg (op : BinOp) (a b : Int) : 0 ≤ bits op .u8 a b := (bits_u_range .u8 op a b rfl).1
theorem bits8_lt (op : BinOp) (a b : Int) : bits op .u8 a b < 256 := (bits_u_range .u8 op a b rfl).2

/-! The words behind them. -/
theorem ofInt_wrap (k : IntKind) (n : Int) : BitVec.ofInt k.bits (k.wrap n) = BitVec.ofInt k.bits n := by
  apply BitVec.eq_of_toInt_eq
  simp only [BitVec.toInt_ofInt]
  have h : (k.wrap n) % (2 ^ k.bits : Int) = n % (2 ^ k.bits : Int) := by
    unfold IntKind.wrap
    dsimp only
    split
    · rw [Int.sub_emod, Int.emod_self, Int.sub_zero, Int.emod_emod_of_dvd _ (Int.dvd_refl _), Int.emod_emod_of_dvd _ (Int.dvd_refl _)]
    · rw [Int.emod_emod_of_dvd _ (Int.dvd_refl _)]
  have e : ((2 ^ k.bits : Nat) : Int) = (2 : Int) ^ k.bits := by simp
  simp only [Int.bmod, e, h]

theorem of_emod32 (n : Int) : BitVec.ofInt 32 (n % 4294967296) = BitVec.ofInt 32 n := by
  have := ofInt_wrap .u32 n; rw [IntKind.wrap_u32] at this; exact this
theorem of_emod64 (n : Int) : BitVec.ofInt 64 (n % 18446744073709551616) = BitVec.ofInt 64 n := by
  have := ofInt_wrap .u64 n; rw [IntKind.wrap_u64] at this; exact this
theorem of_emod8 (n : Int) : BitVec.ofInt 8 (n % 256) = BitVec.ofInt 8 n := by
  have := ofInt_wrap .u8 n; rw [IntKind.wrap_u8] at this; exact this
theorem of_wrap32 (n : Int) : BitVec.ofInt 32 (IntKind.u32.wrap n) = BitVec.ofInt 32 n := ofInt_wrap .u32 n
theorem of_wrap64 (n : Int) : BitVec.ofInt 64 (IntKind.u64.wrap n) = BitVec.ofInt 64 n := ofInt_wrap .u64 n
theorem of_wrapi64 (n : Int) : BitVec.ofInt 64 (IntKind.i64.wrap n) = BitVec.ofInt 64 n := ofInt_wrap .i64 n
theorem of_wrap64' (n : Int) : BitVec.ofInt 64 (wrap64 n) = BitVec.ofInt 64 n := by
  have h := ofInt_wrap .i64 n; rw [IntKind.wrap_i64] at h; unfold wrap64; exact h
theorem of_wrap8 (n : Int) : BitVec.ofInt 8 (IntKind.u8.wrap n) = BitVec.ofInt 8 n := ofInt_wrap .u8 n

theorem of_xor (k : IntKind) (a b : Int) : BitVec.ofInt k.bits (bits .xor k a b) = BitVec.ofInt k.bits a ^^^ BitVec.ofInt k.bits b := by
  unfold bits; rw [ofInt_wrap, BitVec.ofInt_natCast]; dsimp only; rw [BitVec.ofNat_toNat, BitVec.setWidth_eq]
theorem of_and (k : IntKind) (a b : Int) : BitVec.ofInt k.bits (bits .and k a b) = BitVec.ofInt k.bits a &&& BitVec.ofInt k.bits b := by
  unfold bits; rw [ofInt_wrap, BitVec.ofInt_natCast]; dsimp only; rw [BitVec.ofNat_toNat, BitVec.setWidth_eq]
theorem of_or (k : IntKind) (a b : Int) : BitVec.ofInt k.bits (bits .or k a b) = BitVec.ofInt k.bits a ||| BitVec.ofInt k.bits b := by
  unfold bits; rw [ofInt_wrap, BitVec.ofInt_natCast]; dsimp only; rw [BitVec.ofNat_toNat, BitVec.setWidth_eq]
theorem of_andNot (k : IntKind) (a b : Int) : BitVec.ofInt k.bits (bits .andNot k a b) = BitVec.ofInt k.bits a &&& ~~~(BitVec.ofInt k.bits b) := by
  unfold bits; rw [ofInt_wrap, BitVec.ofInt_natCast]; dsimp only; rw [BitVec.ofNat_toNat, BitVec.setWidth_eq]

theorem of_xor32 (a b : Int) : BitVec.ofInt 32 (bits .xor .u32 a b) = BitVec.ofInt 32 a ^^^ BitVec.ofInt 32 b := of_xor .u32 a b
theorem of_and32 (a b : Int) : BitVec.ofInt 32 (bits .and .u32 a b) = BitVec.ofInt 32 a &&& BitVec.ofInt 32 b := of_and .u32 a b
theorem of_or32 (a b : Int) : BitVec.ofInt 32 (bits .or .u32 a b) = BitVec.ofInt 32 a ||| BitVec.ofInt 32 b := of_or .u32 a b
theorem of_andNot32 (a b : Int) : BitVec.ofInt 32 (bits .andNot .u32 a b) = BitVec.ofInt 32 a &&& ~~~(BitVec.ofInt 32 b) := of_andNot .u32 a b
theorem of_xor64 (a b : Int) : BitVec.ofInt 64 (bits .xor .u64 a b) = BitVec.ofInt 64 a ^^^ BitVec.ofInt 64 b := of_xor .u64 a b
theorem of_and64 (a b : Int) : BitVec.ofInt 64 (bits .and .u64 a b) = BitVec.ofInt 64 a &&& BitVec.ofInt 64 b := of_and .u64 a b
theorem of_or64 (a b : Int) : BitVec.ofInt 64 (bits .or .u64 a b) = BitVec.ofInt 64 a ||| BitVec.ofInt 64 b := of_or .u64 a b
theorem of_xori64 (a b : Int) : BitVec.ofInt 64 (bits .xor .i64 a b) = BitVec.ofInt 64 a ^^^ BitVec.ofInt 64 b := of_xor .i64 a b
theorem of_andi64 (a b : Int) : BitVec.ofInt 64 (bits .and .i64 a b) = BitVec.ofInt 64 a &&& BitVec.ofInt 64 b := of_and .i64 a b
theorem of_xor8 (a b : Int) : BitVec.ofInt 8 (bits .xor .u8 a b) = BitVec.ofInt 8 a ^^^ BitVec.ofInt 8 b := of_xor .u8 a b
theorem of_and8 (a b : Int) : BitVec.ofInt 8 (bits .and .u8 a b) = BitVec.ofInt 8 a &&& BitVec.ofInt 8 b := of_and .u8 a b
theorem of_or8 (a b : Int) : BitVec.ofInt 8 (bits .or .u8 a b) = BitVec.ofInt 8 a ||| BitVec.ofInt 8 b := of_or .u8 a b

theorem of_shr {n : Nat} (x : Int) (s : Nat) (h0 : 0 ≤ x) (h1 : x < 2 ^ n) : BitVec.ofInt n (x / 2 ^ s) = BitVec.ofInt n x >>> s := by
  obtain ⟨m, rfl⟩ := Int.eq_ofNat_of_zero_le h0
  have h1' : m < 2 ^ n := by exact_mod_cast h1
  have e : ((m : Int) / 2 ^ s) = ((m / 2 ^ s : Nat) : Int) := by rw [Int.natCast_ediv]; simp
  rw [e, BitVec.ofInt_natCast, BitVec.ofInt_natCast]
  apply BitVec.eq_of_toNat_eq
  rw [BitVec.toNat_ushiftRight, BitVec.toNat_ofNat, BitVec.toNat_ofNat, Nat.mod_eq_of_lt h1', Nat.shiftRight_eq_div_pow]
  exact Nat.mod_eq_of_lt (Nat.lt_of_le_of_lt (Nat.div_le_self _ _) h1')

theorem of_add {n : Nat} (a b : Int) : BitVec.ofInt n (a + b) = BitVec.ofInt n a + BitVec.ofInt n b := BitVec.ofInt_add ..
theorem of_mul {n : Nat} (a b : Int) : BitVec.ofInt n (a * b) = BitVec.ofInt n a * BitVec.ofInt n b := BitVec.ofInt_mul ..
theorem of_neg {n : Nat} (a : Int) : BitVec.ofInt n (-a) = -BitVec.ofInt n a := BitVec.ofInt_neg ..
theorem of_sub {n : Nat} (a b : Int) : BitVec.ofInt n (a - b) = BitVec.ofInt n a - BitVec.ofInt n b := by rw [Int.sub_eq_add_neg, BitVec.ofInt_add, BitVec.ofInt_neg, BitVec.sub_eq_add_neg]
theorem of_nat {n : Nat} (a : Nat) : BitVec.ofInt n (a : Int) = BitVec.ofNat n a := BitVec.ofInt_natCast ..

theorem wraps_i64 (n : Int) (h₀ : 0 ≤ n) (h₁ : n < 2 ^ 63) : IntKind.i64.wrap n = n := by rw [IntKind.wrap_i64]; omega
theorem and_i64 (a b : Nat) (ha : a < 9223372036854775808) (hb : b < 9223372036854775808) : bits .and .i64 (a : Int) (b : Int) = ((a &&& b : Nat) : Int) :=
  (bits_nat .i64 63 (by decide) wraps_i64 a b ha hb).1
theorem and1_i64 (a : Nat) (ha : a < 9223372036854775808) : bits .and .i64 (a : Int) 1 = ((a % 2 : Nat) : Int) := by
  rw [show (1 : Int) = ((1 : Nat) : Int) from rfl, and_i64 a 1 ha (by omega), Nat.and_one_is_mod]
end Go.Proofs.Yticfnngppcmidaa.Bv
