/-
  The walk of mark.Mix.
-/
import Derived.Test.YtmooknaljkeaaaaProg
import Derived.Test.YtmooknaljkeaaaaBase
import Derived.Test.YtmooknaljkeaaaaMarkM
set_option linter.unusedVariables false
namespace Go.Proofs.Ytmooknaljkeaaaa.Mark
open Go.RowKit Go.Proofs.Ytmooknaljkeaaaa.Bv

theorem ret_u64 {a b : Int} (h : a = b) : Ending.returned (.int .u64 a) = .returned (.int .u64 b) := by rw [h]

theorem wrap_u (x : Int) : IntKind.u64.wrap x = U (BitVec.ofInt 64 x) := by
  refine eq64 ?_ ?_ (of_wrap64 x)
  · rw [IntKind.wrap_u64]; omega
  · rw [IntKind.wrap_u64]; omega
theorem add_num (a : W) : IntKind.u64.wrap (U a + 11400714819323198485) = U (a + gold) := by
  rw [wrap_u, of_add, of_U]; rfl
theorem sub_num (a : W) : IntKind.u64.wrap (U a - 11400714819323198485) = U (a - gold) := by
  rw [wrap_u, of_sub, of_U]; rfl
theorem mul1_num (a : W) : IntKind.u64.wrap (U a * 13787848793156543929) = U (a * c1) := by
  rw [wrap_u, of_mul, of_U]; rfl
theorem mul2_num (a : W) : IntKind.u64.wrap (U a * 10723151780598845931) = U (a * c2) := by
  rw [wrap_u, of_mul, of_U]; rfl
theorem mul_num (a b : W) : IntKind.u64.wrap (U a * U b) = U (a * b) := by
  rw [wrap_u, of_mul, of_U, of_U]
theorem xs_num (k : Nat) (a : W) : bits BinOp.xor IntKind.u64 (U a) (U a / 2 ^ k) = U (xs k a) := by
  refine eq64 (bits64_nonneg _ _ _) (bits64_lt _ _ _) ?_
  rw [of_xor64, of_shr (n := 64) (U a) k (U_nonneg a) (by have := U64_lt a; omega), of_U]
  rfl
theorem xs30 (a : W) : bits BinOp.xor IntKind.u64 (U a) (U a / 1073741824) = U (xs 30 a) := xs_num 30 a
theorem xs27 (a : W) : bits BinOp.xor IntKind.u64 (U a) (U a / 134217728) = U (xs 27 a) := xs_num 27 a
theorem xs31 (a : W) : bits BinOp.xor IntKind.u64 (U a) (U a / 2147483648) = U (xs 31 a) := xs_num 31 a
theorem xs60 (a : W) : bits BinOp.xor IntKind.u64 (U a) (U a / 1152921504606846976) = U (xs 60 a) := xs_num 60 a
theorem xs54 (a : W) : bits BinOp.xor IntKind.u64 (U a) (U a / 18014398509481984) = U (xs 54 a) := xs_num 54 a
theorem xs62 (a : W) : bits BinOp.xor IntKind.u64 (U a) (U a / 4611686018427387904) = U (xs 62 a) := xs_num 62 a

theorem mix_any (x : Int) (n : W) (hx : x = U n) (w : World) :
    Calls Try.prog 49 #[.int .u64 x] w fun e w' => e = .returned (.int .u64 (U (mix n))) ∧ w = w' := by
  subst hx
  go_enter Try.func49, Try.ntmps49
  go_wp2
  go_ret
  refine ⟨ret_u64 ?_, rfl⟩
  rw [add_num, xs30, mul1_num, xs27, mul2_num, xs31]
  rfl

end Go.Proofs.Ytmooknaljkeaaaa.Mark
