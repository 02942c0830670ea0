/-
  mustkeep.fixLives holds.
-/
import Derived.Test.YthbadfnonjkbhaaFixW
set_option linter.unusedVariables false
namespace Go.Proofs.Ythbadfnonjkbhaa.Fix
open Go.RowKit Go.Proofs.Ythbadfnonjkbhaa.Bv

theorem keep_vals : keep 65536 = 65536 ∧ keep 131072 = 131072 ∧ keep 262144 = 262144 ∧ mul 32768 196608 = 98304 ∧ add 2147483647 1 = 2147483647 := by decide +kernel

theorem div_half (w : World) : Calls Try.prog 21 #[.int .i64 65536, .int .i64 131072] w fun e w' => e = .returned (.tuple #[.int .i64 32768, .int .i64 0]) ∧ w = w' := by
  refine (div_any 65536 131072 (by rw [keep_vals.2.1]; decide) w).mono ?_
  rintro e w' ⟨q, hq, rfl, rfl⟩
  rw [keep_vals.1, keep_vals.2.1] at hq
  have : q = 32768 := by unfold Down at hq; omega
  subst this
  exact ⟨by rw [keep_in (by decide) (by decide)], rfl⟩
theorem root_two (w : World) : Calls Try.prog 20 #[.int .i64 262144] w fun e w' => e = .returned (.tuple #[.int .i64 131072, .int .i64 0]) ∧ w = w' := by
  refine (root_any 262144 (by decide) w).mono ?_
  rintro e w' ⟨r, hr, _, rfl, rfl⟩
  rw [keep_vals.2.2.1] at hr
  have : r = 131072 := root_uniq hr.1 hr.2 (by decide) (by decide)
  subst this
  exact ⟨rfl, rfl⟩
theorem lives_any (w : World) : Calls Try.prog 16 #[] w fun e w' => e = .returned (.bool true) ∧ w = w' := by
  have hm := keep_vals.2.2.2.1
  have ha := keep_vals.2.2.2.2
  go_enter Try.func16, Try.ntmps16
  go_wp2_with fail
  refine (div_half _).mono ?_
  rintro e w' ⟨rfl, rfl⟩
  go_wp2_with fail
  refine (root_two _).mono ?_
  rintro e w' ⟨rfl, rfl⟩
  go_wp2_with (first | (go_at_call 18; (with_reducible refine (mul_any _ _ _).mono ?_); rintro e w' ⟨rfl, rfl⟩) | (go_at_call 17; (with_reducible refine (add_any _ _ _).mono ?_); rintro e w' ⟨rfl, rfl⟩))
  go_ret
  exact ⟨rfl, rfl⟩
end Go.Proofs.Ythbadfnonjkbhaa.Fix
