/-
  FixBack.
-/
import Derived.Test.YthbadfnonjkbhaaFixL
import Derived.Test.YthbadfnonjkbhaaBase
set_option linter.unusedVariables false
namespace Go.Proofs.Ythbadfnonjkbhaa.Fix
open Go.RowKit Go.Proofs.Ythbadfnonjkbhaa Go.Proofs.Ythbadfnonjkbhaa.Bv

theorem fixBack_any (a0 : Int) (a1 : Int) (w : World) (w0 : (Lit.int .i64 a0).wf = true) (w1 : (Lit.int .i64 a1).wf = true) :
    Calls Try.prog 7 #[.int .i64 a0, .int .i64 a1] w fun e w' => e = .returned (.bool true) ∧ Below w.heap.size w w' := by
  have hb : Below w.heap.size w w := Below.refl _ _
  by_cases h0 : keep a1 = 0
  · go_enter Try.func7, Try.ntmps7
    go_wp2_with fail
    refine (div_bad a0 a1 h0 _).mono ?_
    rintro e w' ⟨rfl, rfl⟩
    clear h0
    go_wp2_with (go_at_call 16; (with_reducible refine (lives_any _).mono ?_); rintro e w' ⟨rfl, rfl⟩)
    go_ret
    exact ⟨rfl, hb⟩
  · have hk := keep_bd a0
    have hl := keep_bd a1
    have H0 := Lib.hid h0
    clear h0
    go_enter Try.func7, Try.ntmps7
    go_wp2_with fail
    refine (div_any a0 a1 H0.out _).mono ?_
    rintro e w' ⟨q, hq, rfl, rfl⟩
    by_cases h1 : keep q = 2147483647
    · have hx : (keep q == 2147483647) = true := by simp [h1]
      clear h1 hq
      go_wp2_with (go_at_call 16; (with_reducible refine (lives_any _).mono ?_); rintro e w' ⟨rfl, rfl⟩)
      go_ret
      exact ⟨rfl, hb⟩
    · by_cases h2 : keep q = -2147483647
      · have hx : (keep q == 2147483647) = false := by simp [h1]
        have hy : (keep q == -2147483647) = true := by simp [h2]
        clear h1 h2 hq
        go_wp2_with (go_at_call 16; (with_reducible refine (lives_any _).mono ?_); rintro e w' ⟨rfl, rfl⟩)
        go_ret
        exact ⟨rfl, hb⟩
      · have hq2 : keep q = q ∧ -2147483647 ≤ q ∧ q ≤ 2147483647 := by
          have := keep_bd q
          revert h1 h2
          unfold keep
          split <;> (try split) <;> omega
        rw [hq2.1] at h1 h2 ⊢
        have hx : (q == 2147483647) = false := by simp [h1]
        have hy : (q == -2147483647) = false := by simp [h2]
        obtain ⟨x, HX⟩ : ∃ x, Hid (keep a0 = x) := ⟨_, Lib.hid rfl⟩
        obtain ⟨y, HY⟩ : ∃ y, Hid (keep a1 = y) := ⟨_, Lib.hid rfl⟩
        obtain ⟨p, HP⟩ : ∃ p, Hid (q * y = p) := ⟨_, Lib.hid rfl⟩
        rw [HX.out] at hk hq
        rw [HY.out] at hl hq
        have hp := HP.out
        unfold Down at hq
        rw [hp] at hq
        have h3 := hq2.2
        clear h1 h2 hq2
        rcases hq with ⟨q1, q2, q3⟩ | ⟨q1, q2, q3⟩
        · go_wp2_with (first | (go_at_call 16; (with_reducible refine (lives_any _).mono ?_); rintro e w' ⟨rfl, rfl⟩) | (go_at_call 19; (with_reducible refine (keep_any _ _).mono ?_); rintro e w' ⟨rfl, rfl⟩; (first | rw [HX.out] | rw [HY.out])))
          go_ret
          exact ⟨by first | rfl | exact ret_true (decide_eq_true (by omega)), hb⟩
        · go_wp2_with (first | (go_at_call 16; (with_reducible refine (lives_any _).mono ?_); rintro e w' ⟨rfl, rfl⟩) | (go_at_call 19; (with_reducible refine (keep_any _ _).mono ?_); rintro e w' ⟨rfl, rfl⟩; (first | rw [HX.out] | rw [HY.out])))
          go_ret
          exact ⟨by first | rfl | exact ret_true (decide_eq_true (by omega)), hb⟩
end Go.Proofs.Ythbadfnonjkbhaa.Fix
