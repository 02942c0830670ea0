/-
  FixOrder.
-/
import Derived.Test.YthbadfnonjkbhaaFixL
import Derived.Test.YthbadfnonjkbhaaBase
set_option linter.unusedVariables false
namespace Go.Proofs.Ythbadfnonjkbhaa.Fix
open Go.RowKit Go.Proofs.Ythbadfnonjkbhaa Go.Proofs.Ythbadfnonjkbhaa.Bv

/-- What a root comes to, of every number. -/
def RootOf (a r k : Int) : Prop := (a < 0 ∧ k = 1) ∨ (0 ≤ a ∧ k = 0 ∧ ∃ n : Nat, r = (n : Int) ∧ IsRoot (keep a * 65536).toNat n)
theorem root_all (a : Int) (w : World) : Calls Try.prog 20 #[.int .i64 a] w fun e w' => ∃ r k : Int, e = .returned (.tuple #[.int .i64 r, .int .i64 k]) ∧ w = w' ∧ RootOf a r k := by
  by_cases h : a < 0
  · refine (root_bad a h w).mono ?_
    rintro e w' ⟨rfl, rfl⟩
    exact ⟨0, 1, rfl, rfl, .inl ⟨h, rfl⟩⟩
  · refine (root_any a (by omega) w).mono ?_
    rintro e w' ⟨r, hr, _, rfl, rfl⟩
    exact ⟨r, 0, rfl, rfl, .inr ⟨by omega, rfl, r, rfl, hr⟩⟩
theorem roots {a b r k s m : Int} (h : keep a ≤ keep b) (hr : RootOf a r k) (hs : RootOf b s m) : k = 1 ∨ k = 0 ∧ m = 0 ∧ r ≤ s := by
  rcases hr with ⟨_, h1⟩ | ⟨h1, h2, n, rfl, hn⟩
  · exact .inl h1
  · rcases hs with ⟨h3, _⟩ | ⟨h3, h4, n', rfl, hn'⟩
    · have := keep_neg a
      have := keep_neg b
      omega
    · exact .inr ⟨h2, h4, by have := root_mono (by omega) hn hn'; omega⟩
theorem add_bd (a b : Int) : -2147483647 ≤ add a b ∧ add a b ≤ 2147483647 := keep_bd _

theorem fixOrder_any (a0 : Int) (a1 : Int) (a2 : Int) (w : World) (w0 : (Lit.int .i64 a0).wf = true) (w1 : (Lit.int .i64 a1).wf = true) (w2 : (Lit.int .i64 a2).wf = true) :
    Calls Try.prog 5 #[.int .i64 a0, .int .i64 a1, .int .i64 a2] w fun e w' => e = .returned (.bool true) ∧ Below w.heap.size w w' := by
  have hb : Below w.heap.size w w := Below.refl _ _
  have c1 : (add a0 a1 == add a1 a0) = true := by rw [add_comm a0 a1]; simp
  have c2 : (mul a0 a1 == mul a1 a0) = true := by rw [mul_comm a0 a1]; simp
  have c3 : (mul a0 65536 == keep a0) = true := by rw [mul_one]; simp
  have c4 : (add a0 0 == keep a0) = true := by rw [add_zero]; simp
  have d1 : (add a0 a1 != add a1 a0) = false := by rw [add_comm a0 a1]; simp
  have d2 : (mul a0 a1 != mul a1 a0) = false := by rw [mul_comm a0 a1]; simp
  have d3 : (mul a0 65536 != keep a0) = false := by rw [mul_one]; simp
  have d4 : (add a0 0 != keep a0) = false := by rw [add_zero]; simp
  go_enter Try.func5, Try.ntmps5
  by_cases hle : keep a1 < keep a0
  · have hk : keep a1 ≤ keep a0 := by omega
    have HA := Lib.hid (add_mono a2 hk)
    have HM := Lib.hid (fun (hc : 0 ≤ a2) => mul_mono hk hc)
    have HR := Lib.hid hk
    clear hk
    go_wp2_with (first | (go_at_call 16; (with_reducible refine (lives_any _).mono ?_); rintro e w' ⟨rfl, rfl⟩) | (go_at_call 19; (with_reducible refine (keep_any _ _).mono ?_); rintro e w' ⟨rfl, rfl⟩) | (go_at_call 17; (with_reducible refine (add_any _ _ _).mono ?_); rintro e w' ⟨rfl, rfl⟩) | (go_at_call 18; (with_reducible refine (mul_any _ _ _).mono ?_); rintro e w' ⟨rfl, rfl⟩))
    refine (root_all a1 _).mono ?_
    rintro e w' ⟨r, k, rfl, rfl, hr⟩
    have HX := Lib.hid hr
    clear hr
    go_wp2_with fail
    refine (root_all a0 _).mono ?_
    rintro e w' ⟨s, m, rfl, rfl, hs⟩
    have HY := Lib.hid hs
    have hq := roots HR.out HX.out HY.out
    clear hs
    have ha := HA.out
    have g1 := add_bd a1 a2
    have g2 := add_bd a0 a2
    by_cases hc : a2 < 0
    · rcases hq with hk1 | ⟨hk0, hm0, hrs⟩
      · subst hk1
        go_wp2_with (first | (go_at_call 16; (with_reducible refine (lives_any _).mono ?_); rintro e w' ⟨rfl, rfl⟩) | (go_at_call 19; (with_reducible refine (keep_any _ _).mono ?_); rintro e w' ⟨rfl, rfl⟩) | (go_at_call 17; (with_reducible refine (add_any _ _ _).mono ?_); rintro e w' ⟨rfl, rfl⟩) | (go_at_call 18; (with_reducible refine (mul_any _ _ _).mono ?_); rintro e w' ⟨rfl, rfl⟩))
        go_ret
        exact ⟨by first | rfl | exact ret_true (by simp [ha]), hb⟩
      · subst hk0 hm0
        go_wp2_with (first | (go_at_call 16; (with_reducible refine (lives_any _).mono ?_); rintro e w' ⟨rfl, rfl⟩) | (go_at_call 19; (with_reducible refine (keep_any _ _).mono ?_); rintro e w' ⟨rfl, rfl⟩) | (go_at_call 17; (with_reducible refine (add_any _ _ _).mono ?_); rintro e w' ⟨rfl, rfl⟩) | (go_at_call 18; (with_reducible refine (mul_any _ _ _).mono ?_); rintro e w' ⟨rfl, rfl⟩))
        go_ret
        exact ⟨by first | rfl | exact ret_true (decide_eq_true hrs), hb⟩
    · have hm := HM.out (by omega)
      rcases hq with hk1 | ⟨hk0, hm0, hrs⟩
      · subst hk1
        go_wp2_with (first | (go_at_call 16; (with_reducible refine (lives_any _).mono ?_); rintro e w' ⟨rfl, rfl⟩) | (go_at_call 19; (with_reducible refine (keep_any _ _).mono ?_); rintro e w' ⟨rfl, rfl⟩) | (go_at_call 17; (with_reducible refine (add_any _ _ _).mono ?_); rintro e w' ⟨rfl, rfl⟩) | (go_at_call 18; (with_reducible refine (mul_any _ _ _).mono ?_); rintro e w' ⟨rfl, rfl⟩))
        go_ret
        exact ⟨by first | rfl | exact ret_true (by simp [ha]), hb⟩
      · subst hk0 hm0
        go_wp2_with (first | (go_at_call 16; (with_reducible refine (lives_any _).mono ?_); rintro e w' ⟨rfl, rfl⟩) | (go_at_call 19; (with_reducible refine (keep_any _ _).mono ?_); rintro e w' ⟨rfl, rfl⟩) | (go_at_call 17; (with_reducible refine (add_any _ _ _).mono ?_); rintro e w' ⟨rfl, rfl⟩) | (go_at_call 18; (with_reducible refine (mul_any _ _ _).mono ?_); rintro e w' ⟨rfl, rfl⟩))
        go_ret
        exact ⟨by first | rfl | exact ret_true (decide_eq_true hrs), hb⟩
  · have hk : keep a0 ≤ keep a1 := by omega
    have HA := Lib.hid (add_mono a2 hk)
    have HM := Lib.hid (fun (hc : 0 ≤ a2) => mul_mono hk hc)
    have HR := Lib.hid hk
    clear hk
    go_wp2_with (first | (go_at_call 16; (with_reducible refine (lives_any _).mono ?_); rintro e w' ⟨rfl, rfl⟩) | (go_at_call 19; (with_reducible refine (keep_any _ _).mono ?_); rintro e w' ⟨rfl, rfl⟩) | (go_at_call 17; (with_reducible refine (add_any _ _ _).mono ?_); rintro e w' ⟨rfl, rfl⟩) | (go_at_call 18; (with_reducible refine (mul_any _ _ _).mono ?_); rintro e w' ⟨rfl, rfl⟩))
    refine (root_all a0 _).mono ?_
    rintro e w' ⟨r, k, rfl, rfl, hr⟩
    have HX := Lib.hid hr
    clear hr
    go_wp2_with fail
    refine (root_all a1 _).mono ?_
    rintro e w' ⟨s, m, rfl, rfl, hs⟩
    have HY := Lib.hid hs
    have hq := roots HR.out HX.out HY.out
    clear hs
    have ha := HA.out
    have g1 := add_bd a0 a2
    have g2 := add_bd a1 a2
    by_cases hc : a2 < 0
    · rcases hq with hk1 | ⟨hk0, hm0, hrs⟩
      · subst hk1
        go_wp2_with (first | (go_at_call 16; (with_reducible refine (lives_any _).mono ?_); rintro e w' ⟨rfl, rfl⟩) | (go_at_call 19; (with_reducible refine (keep_any _ _).mono ?_); rintro e w' ⟨rfl, rfl⟩) | (go_at_call 17; (with_reducible refine (add_any _ _ _).mono ?_); rintro e w' ⟨rfl, rfl⟩) | (go_at_call 18; (with_reducible refine (mul_any _ _ _).mono ?_); rintro e w' ⟨rfl, rfl⟩))
        go_ret
        exact ⟨by first | rfl | exact ret_true (by simp [ha]), hb⟩
      · subst hk0 hm0
        go_wp2_with (first | (go_at_call 16; (with_reducible refine (lives_any _).mono ?_); rintro e w' ⟨rfl, rfl⟩) | (go_at_call 19; (with_reducible refine (keep_any _ _).mono ?_); rintro e w' ⟨rfl, rfl⟩) | (go_at_call 17; (with_reducible refine (add_any _ _ _).mono ?_); rintro e w' ⟨rfl, rfl⟩) | (go_at_call 18; (with_reducible refine (mul_any _ _ _).mono ?_); rintro e w' ⟨rfl, rfl⟩))
        go_ret
        exact ⟨by first | rfl | exact ret_true (decide_eq_true hrs), hb⟩
    · have hm := HM.out (by omega)
      rcases hq with hk1 | ⟨hk0, hm0, hrs⟩
      · subst hk1
        go_wp2_with (first | (go_at_call 16; (with_reducible refine (lives_any _).mono ?_); rintro e w' ⟨rfl, rfl⟩) | (go_at_call 19; (with_reducible refine (keep_any _ _).mono ?_); rintro e w' ⟨rfl, rfl⟩) | (go_at_call 17; (with_reducible refine (add_any _ _ _).mono ?_); rintro e w' ⟨rfl, rfl⟩) | (go_at_call 18; (with_reducible refine (mul_any _ _ _).mono ?_); rintro e w' ⟨rfl, rfl⟩))
        go_ret
        exact ⟨by first | rfl | exact ret_true (by simp [ha]), hb⟩
      · subst hk0 hm0
        go_wp2_with (first | (go_at_call 16; (with_reducible refine (lives_any _).mono ?_); rintro e w' ⟨rfl, rfl⟩) | (go_at_call 19; (with_reducible refine (keep_any _ _).mono ?_); rintro e w' ⟨rfl, rfl⟩) | (go_at_call 17; (with_reducible refine (add_any _ _ _).mono ?_); rintro e w' ⟨rfl, rfl⟩) | (go_at_call 18; (with_reducible refine (mul_any _ _ _).mono ?_); rintro e w' ⟨rfl, rfl⟩))
        go_ret
        exact ⟨by first | rfl | exact ret_true (decide_eq_true hrs), hb⟩
end Go.Proofs.Ythbadfnonjkbhaa.Fix
