/-
  The walk of the law LuckSkips: for every word and numbers it returns true; what was there stays.
-/
import Derived.Test.YtnbelagjgmjehaaLuckW
set_option linter.unusedVariables false
namespace Go.Proofs.Ytnbelagjgmjehaa.Luck
open Go.RowKit Go.Proofs.Ytnbelagjgmjehaa.Bv

theorem back_next_any (s : W) (w : World) : Calls Try.prog 19 #[.int .u32 (U (next s))] w fun e w' => e = .returned (.int .u32 (U s)) ∧ w = w' :=
  (back_any _ (next s) rfl w).mono fun e w' ⟨he, hw⟩ => ⟨he.trans (ret_u32 (by rw [back_next])), hw⟩
theorem next_back_any (s : W) (w : World) : Calls Try.prog 20 #[.int .u32 (U (back s))] w fun e w' => e = .returned (.int .u32 (U s)) ∧ w = w' :=
  (next_any _ (back s) rfl w).mono fun e w' ⟨he, hw⟩ => ⟨he.trans (ret_u32 (by rw [next_back])), hw⟩

theorem open_u32 {x : Int} (h : (Lit.int .u32 x).wf = true) : ∃ s : W, x = U s := by
  simp [Lit.wf, IntKind.min, IntKind.max, IntKind.signed, IntKind.bits] at h
  exact ⟨BitVec.ofInt 32 x, (U_of32 x (by omega) (by omega)).symm⟩
theorem open_i64 {x : Int} (h : (Lit.int .i64 x).wf = true) : -9223372036854775808 ≤ x ∧ x ≤ 9223372036854775807 := by
  simp [Lit.wf, IntKind.min, IntKind.max, IntKind.signed, IntKind.bits] at h
  omega

set_option maxRecDepth 100000 in
theorem skips_walk (a0 : Int) (a1 : Int) (a2 : Int) (w : World) (w0 : (Lit.int .u32 a0).wf = true) (w1 : (Lit.int .i64 a1).wf = true) (w2 : (Lit.int .i64 a2).wf = true) :
    Calls Try.prog 4 #[.int .u32 a0, .int .i64 a1, .int .i64 a2] w fun e w' => e = .returned (.bool true) ∧ Below w.heap.size w w' := by
  obtain ⟨s, rfl⟩ := open_u32 w0
  have b1 := open_i64 w1
  have b2 := open_i64 w2
  clear w0 w1 w2
  have HS : (U s == U s) = true := by simp
  by_cases h1 : a1 < 0 ∨ 4294967296 < a1
  · have H1 := Lib.hid h1
    clear h1
    by_cases h2 : a2 < 0 ∨ 4294967296 < a2
    · have H2 := Lib.hid h2
      clear h2
      go_enter Try.func4, Try.ntmps4
      go_wp2_with (first | (go_at_call 17; (with_reducible refine (skip_bad a1 _ H1.out _).mono ?_); rintro e w' ⟨rfl, rfl⟩) | (go_at_call 17; (with_reducible refine (skip_bad a2 _ H2.out _).mono ?_); rintro e w' ⟨rfl, rfl⟩) | (go_at_call 18; (with_reducible refine (lives_any _).mono ?_); rintro e w' ⟨rfl, rfl⟩) | (go_at_call 19; (with_reducible refine (back_next_any s _).mono ?_); rintro e w' ⟨rfl, rfl⟩) | (go_at_call 19; (with_reducible refine (back_any _ s rfl _).mono ?_); rintro e w' ⟨rfl, rfl⟩) | (go_at_call 20; (with_reducible refine (next_any _ s rfl _).mono ?_); rintro e w' ⟨rfl, rfl⟩) | (go_at_call 20; (with_reducible refine (next_back_any s _).mono ?_); rintro e w' ⟨rfl, rfl⟩))
      go_ret
      exact ⟨rfl, Below.refl _ _⟩
    · obtain ⟨m, rfl⟩ := Int.eq_ofNat_of_zero_le (show 0 ≤ a2 by omega)
      have h3 : m ≤ 4294967296 := by omega
      clear h2
      go_enter Try.func4, Try.ntmps4
      go_wp2_with (first | (go_at_call 17; (with_reducible refine (skip_bad a1 _ H1.out _).mono ?_); rintro e w' ⟨rfl, rfl⟩) | (go_at_call 17; (with_reducible refine (skip_ok 0#32 m h3 0 _ rfl rfl _).mono ?_); rintro e w' ⟨rfl, rfl⟩) | (go_at_call 18; (with_reducible refine (lives_any _).mono ?_); rintro e w' ⟨rfl, rfl⟩) | (go_at_call 19; (with_reducible refine (back_next_any s _).mono ?_); rintro e w' ⟨rfl, rfl⟩) | (go_at_call 19; (with_reducible refine (back_any _ s rfl _).mono ?_); rintro e w' ⟨rfl, rfl⟩) | (go_at_call 20; (with_reducible refine (next_any _ s rfl _).mono ?_); rintro e w' ⟨rfl, rfl⟩) | (go_at_call 20; (with_reducible refine (next_back_any s _).mono ?_); rintro e w' ⟨rfl, rfl⟩))
      go_ret
      exact ⟨rfl, Below.refl _ _⟩
  · obtain ⟨n, rfl⟩ := Int.eq_ofNat_of_zero_le (show 0 ≤ a1 by omega)
    have h5 : n ≤ 4294967296 := by omega
    clear h1
    by_cases h2 : a2 < 0 ∨ 4294967296 < a2
    · have H2 := Lib.hid h2
      clear h2
      go_enter Try.func4, Try.ntmps4
      go_wp2_with (first | (go_at_call 17; (with_reducible refine (skip_ok s n h5 _ _ rfl rfl _).mono ?_); rintro e w' ⟨rfl, rfl⟩) | (go_at_call 17; (with_reducible refine (skip_bad a2 _ H2.out _).mono ?_); rintro e w' ⟨rfl, rfl⟩) | (go_at_call 18; (with_reducible refine (lives_any _).mono ?_); rintro e w' ⟨rfl, rfl⟩) | (go_at_call 19; (with_reducible refine (back_next_any s _).mono ?_); rintro e w' ⟨rfl, rfl⟩) | (go_at_call 19; (with_reducible refine (back_any _ s rfl _).mono ?_); rintro e w' ⟨rfl, rfl⟩) | (go_at_call 20; (with_reducible refine (next_any _ s rfl _).mono ?_); rintro e w' ⟨rfl, rfl⟩) | (go_at_call 20; (with_reducible refine (next_back_any s _).mono ?_); rintro e w' ⟨rfl, rfl⟩))
      go_ret
      exact ⟨rfl, Below.refl _ _⟩
    · obtain ⟨m, rfl⟩ := Int.eq_ofNat_of_zero_le (show 0 ≤ a2 by omega)
      have h3 : m ≤ 4294967296 := by omega
      clear h2
      by_cases h4 : (4294967296 : Int) ≤ (n : Int) + m
      · go_enter Try.func4, Try.ntmps4
        go_wp2_with (first | (go_at_call 17; (with_reducible refine (skip_ok s n h5 _ _ rfl rfl _).mono ?_); rintro e w' ⟨rfl, rfl⟩) | (go_at_call 17; (with_reducible refine (skip_ok (iter next n s) m h3 _ _ rfl rfl _).mono ?_); rintro e w' ⟨rfl, rfl⟩) | (go_at_call 18; (with_reducible refine (lives_any _).mono ?_); rintro e w' ⟨rfl, rfl⟩) | (go_at_call 19; (with_reducible refine (back_next_any s _).mono ?_); rintro e w' ⟨rfl, rfl⟩) | (go_at_call 19; (with_reducible refine (back_any _ s rfl _).mono ?_); rintro e w' ⟨rfl, rfl⟩) | (go_at_call 20; (with_reducible refine (next_any _ s rfl _).mono ?_); rintro e w' ⟨rfl, rfl⟩) | (go_at_call 20; (with_reducible refine (next_back_any s _).mono ?_); rintro e w' ⟨rfl, rfl⟩))
        go_ret
        exact ⟨rfl, Below.refl _ _⟩
      · have e1 : iter next (n + m) s = iter next m (iter next n s) := iter_add _ _ _ _
        have e2 : iter next (n + 1) s = next (iter next n s) := iter_succ' _ _ _
        have E1 := Lib.hid e1
        have E2 := Lib.hid e2
        clear e1 e2
        have h6 : decide ((4294967296 : Int) ≤ (n : Int) + m) = false := by simpa using h4
        have H7 := Lib.hid (show n + m ≤ 4294967296 by omega)
        have H8 := Lib.hid (show n + 1 ≤ 4294967296 by omega)
        have hfin : (U (iter next m (iter next n s)) == U (iter next (n + m) s)) = true := by rw [E1.out]; simp
        have hfin2 : (U (iter next (n + 1) s) == U (next (iter next n s))) = true := by rw [E2.out]; simp
        clear h4
        go_enter Try.func4, Try.ntmps4
        go_wp2_with (first | (go_at_call 17; (with_reducible refine (skip_ok s n h5 _ _ rfl rfl _).mono ?_); rintro e w' ⟨rfl, rfl⟩) | (go_at_call 17; (with_reducible refine (skip_ok (iter next n s) m h3 _ _ rfl rfl _).mono ?_); rintro e w' ⟨rfl, rfl⟩) | (go_at_call 17; (with_reducible refine (skip_ok s (n + m) H7.out _ ((n : Int) + m) rfl (by omega) _).mono ?_); rintro e w' ⟨rfl, rfl⟩) | (go_at_call 17; (with_reducible refine (skip_ok s (n + 1) H8.out _ ((n : Int) + 1) rfl (by omega) _).mono ?_); rintro e w' ⟨rfl, rfl⟩) | (go_at_call 20; (with_reducible refine (next_any _ (iter next n s) rfl _).mono ?_); rintro e w' ⟨rfl, rfl⟩) | (go_at_call 18; (with_reducible refine (lives_any _).mono ?_); rintro e w' ⟨rfl, rfl⟩) | (go_at_call 19; (with_reducible refine (back_next_any s _).mono ?_); rintro e w' ⟨rfl, rfl⟩) | (go_at_call 19; (with_reducible refine (back_any _ s rfl _).mono ?_); rintro e w' ⟨rfl, rfl⟩) | (go_at_call 20; (with_reducible refine (next_any _ s rfl _).mono ?_); rintro e w' ⟨rfl, rfl⟩) | (go_at_call 20; (with_reducible refine (next_back_any s _).mono ?_); rintro e w' ⟨rfl, rfl⟩))
        go_ret
        exact ⟨ret_true (by first | rfl | simp [hfin, hfin2]), Below.refl _ _⟩
end Go.Proofs.Ytnbelagjgmjehaa.Luck
