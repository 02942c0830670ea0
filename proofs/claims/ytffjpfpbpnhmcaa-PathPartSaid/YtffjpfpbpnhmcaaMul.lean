/-
  math/bits.Mul, from the shelf's contract.
-/
import Derived.Test.YtffjpfpbpnhmcaaGolC
import Derived.Shelf.Bits.Mul64
set_option linter.unusedVariables false
set_option linter.unusedSimpArgs false
namespace Go.Proofs.Ytffjpfpbpnhmcaa
open Go.RowKit

def mulRen : Go.Shelf.Ren := ⟨fun | 212 => 110 | 263 => 124 | 264 => 125 | n => n, fun | 46 => 160 | 53 => 77 | 51 => 179 | 146 => 180 | 148 => 182 | n => n, fun | n => n⟩
theorem laysMul : Go.Proofs.Lays.n212 Try.prog mulRen := {
  mixed := by kernel_rfl
  f212 := Try.func110.trans (congrArg some (by kernel_rfl))
  f263 := Try.func124.trans (congrArg some (by kernel_rfl))
  f264 := Try.func125.trans (congrArg some (by kernel_rfl))
  t46 := Try.underlying160
  a46 := Try.isAgg160
  z46 := Try.sizeOf160
  v46 := Try.zeroValue160
  t51 := Try.underlying179
  a51 := Try.isAgg179
  z51 := Try.sizeOf179
  v51 := Try.zeroValue179
  t53 := Try.underlying77
  a53 := Try.isAgg77
  z53 := Try.sizeOf77
  v53 := Try.zeroValue77
  t146 := Try.underlying180
  a146 := Try.isAgg180
  z146 := Try.sizeOf180
  v146 := Try.zeroValue180
  t148 := Try.underlying182
  a148 := Try.isAgg182
  z148 := Try.sizeOf182
  v148 := Try.zeroValue182 }
theorem mul_one (n : Nat) (hn : n < 18446744073709551616) (w : World) : Calls Try.prog 110 #[.int .u64 1, .int .u64 (n : Int)] w (fun e w' => e = .returned (.tuple #[.int .u64 0, .int .u64 (n : Int)]) ∧ Ext w w') := by
  refine (Any.bits_Mul laysMul 1 n (by decide) hn w).mono fun e w' ⟨h1, h2⟩ => ?_
  subst h2
  rw [h1]
  refine ⟨?_, Ext.rf _⟩
  rw [Nat.one_mul, Nat.div_eq_of_lt hn, Nat.mod_eq_of_lt hn]; rfl
end Go.Proofs.Ytffjpfpbpnhmcaa
