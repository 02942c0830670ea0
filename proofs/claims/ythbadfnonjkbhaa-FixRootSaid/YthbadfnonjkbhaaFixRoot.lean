/-
  FixRoot.
-/
import Derived.Test.YthbadfnonjkbhaaFixL
import Derived.Test.YthbadfnonjkbhaaBase
set_option linter.unusedVariables false
namespace Go.Proofs.Ythbadfnonjkbhaa.Fix
open Go.RowKit Go.Proofs.Ythbadfnonjkbhaa Go.Proofs.Ythbadfnonjkbhaa.Bv

theorem fixRoot_any (a0 : Int) (w : World) (w0 : (Lit.int .i64 a0).wf = true) :
    Calls Try.prog 6 #[.int .i64 a0] w fun e w' => e = .returned (.bool true) ∧ Below w.heap.size w w' := by
  have hk := keep_bd a0
  have hb : Below w.heap.size w w := Below.refl _ _
  by_cases h0 : a0 < 0
  · go_enter Try.func6, Try.ntmps6
    go_wp2_with fail
    refine (root_bad a0 h0 _).mono ?_
    rintro e w' ⟨rfl, rfl⟩
    go_wp2_with (go_at_call 16; (with_reducible refine (lives_any _).mono ?_); rintro e w' ⟨rfl, rfl⟩)
    go_ret
    exact ⟨rfl, hb⟩
  · have hk0 : 0 ≤ keep a0 := by have := keep_neg a0; omega
    obtain ⟨K, HK⟩ := Int.eq_ofNat_of_zero_le hk0
    have hK : K ≤ 2147483647 := by omega
    have e1 : (keep a0 * 65536).toNat = K * 65536 := by rw [HK]; omega
    have HK := Lib.hid HK
    have HE := Lib.hid e1
    clear hk hk0 e1
    go_enter Try.func6, Try.ntmps6
    go_wp2_with fail
    refine (root_any a0 (by omega) _).mono ?_
    rintro e w' ⟨r, hr, hr2, rfl, rfl⟩
    rw [HE.out] at hr
    obtain ⟨h1, h2⟩ := hr
    have e1 : (r : Int) * (r : Int) = ((r * r : Nat) : Int) := by push_cast; rfl
    have e2 : ((r : Int) + 1) * ((r : Int) + 1) = (((r + 1) * (r + 1) : Nat) : Int) := by push_cast; rfl
    have b1 : r * r ≤ 500000000000000 := Nat.le_trans (Nat.mul_le_mul hr2 hr2) (by decide)
    have b2 : (r + 1) * (r + 1) ≤ 500000000000000 := Nat.le_trans (Nat.mul_le_mul (show r + 1 ≤ 11863284 by omega) (show r + 1 ≤ 11863284 by omega)) (by decide)
    have e3 : mul (r : Int) (r : Int) = ((r * r : Nat) : Int) / 65536 := by
      unfold mul
      rw [keep_in (show -2147483647 ≤ (r : Int) by omega) (by omega), e1, keep_in (by omega) (by omega)]
    generalize r * r = p at *
    generalize (r + 1) * (r + 1) = q at *
    go_wp2_with (first | (go_at_call 16; (with_reducible refine (lives_any _).mono ?_); rintro e w' ⟨rfl, rfl⟩) | (go_at_call 19; (with_reducible refine (keep_any _ _).mono ?_); rintro e w' ⟨rfl, rfl⟩; rw [HK.out])| (go_at_call 18; (with_reducible refine (mul_any _ _ _).mono ?_); rintro e w' ⟨rfl, rfl⟩))
    go_ret
    exact ⟨ret_true (decide_eq_true (by omega)), hb⟩
end Go.Proofs.Ythbadfnonjkbhaa.Fix
