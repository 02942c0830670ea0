/-
  The walk of the law LuckPicks: for every word and number it returns true; what was there stays.
-/
import Derived.Test.YtnbelagjgmjehaaLuckSkips
set_option linter.unusedVariables false
namespace Go.Proofs.Ytnbelagjgmjehaa.Luck
open Go.RowKit Go.Proofs.Ytnbelagjgmjehaa.Bv

theorem pick_lt (s : W) (n : Nat) (h : 1 ≤ n) : pickN s n < n := by
  have h0 := s.isLt
  unfold pickN
  have h1 : s.toNat / 65536 < 65536 := by omega
  have h2 : s.toNat / 65536 * n ≤ 65535 * n := Nat.mul_le_mul_right _ (by omega)
  omega
theorem pick_mono (s : W) (n m : Nat) (h : n ≤ m) : pickN s n ≤ pickN s m :=
  Nat.div_le_div_right (Nat.mul_le_mul_left _ h)

theorem picks_walk (a0 : Int) (a1 : Int) (a2 : Int) (w : World) (w0 : (Lit.int .u32 a0).wf = true) (w1 : (Lit.int .i64 a1).wf = true) (w2 : (Lit.int .i64 a2).wf = true) :
    Calls Try.prog 8 #[.int .u32 a0, .int .i64 a1, .int .i64 a2] w fun e w' => e = .returned (.bool true) ∧ Below w.heap.size w w' := by
  obtain ⟨s, rfl⟩ := open_u32 w0
  have b1 := open_i64 w1
  have b2 := open_i64 w2
  clear w0 w1 w2
  by_cases h1 : a1 < 1 ∨ 65536 < a1
  · have H1 := Lib.hid h1
    clear h1
    by_cases h2 : a2 < 1 ∨ 65536 < a2
    · have H2 := Lib.hid h2
      clear h2
      go_enter Try.func8, Try.ntmps8
      go_wp2_with (first | (go_at_call 26; (with_reducible refine (pick_bad a1 _ H1.out _).mono ?_); rintro e w' ⟨rfl, rfl⟩) | (go_at_call 26; (with_reducible refine (pick_bad a2 _ H2.out _).mono ?_); rintro e w' ⟨rfl, rfl⟩) | (go_at_call 18; (with_reducible refine (lives_any _).mono ?_); rintro e w' ⟨rfl, rfl⟩))
      go_ret
      exact ⟨rfl, Below.refl _ _⟩
    · obtain ⟨m, rfl⟩ := Int.eq_ofNat_of_zero_le (show 0 ≤ a2 by omega)
      have h3 : 1 ≤ m := by omega
      have h4 : m ≤ 65536 := by omega
      clear h2
      go_enter Try.func8, Try.ntmps8
      go_wp2_with (first | (go_at_call 26; (with_reducible refine (pick_bad a1 _ H1.out _).mono ?_); rintro e w' ⟨rfl, rfl⟩) | (go_at_call 26; (with_reducible refine (pick_ok s m h3 h4 _ rfl _).mono ?_); rintro e w' ⟨rfl, rfl⟩) | (go_at_call 18; (with_reducible refine (lives_any _).mono ?_); rintro e w' ⟨rfl, rfl⟩))
      go_ret
      exact ⟨rfl, Below.refl _ _⟩
  · obtain ⟨n, rfl⟩ := Int.eq_ofNat_of_zero_le (show 0 ≤ a1 by omega)
    have h5 : 1 ≤ n := by omega
    have h6 : n ≤ 65536 := by omega
    clear h1
    by_cases h2 : a2 < 1 ∨ 65536 < a2
    · have H2 := Lib.hid h2
      clear h2
      go_enter Try.func8, Try.ntmps8
      go_wp2_with (first | (go_at_call 26; (with_reducible refine (pick_ok s n h5 h6 _ rfl _).mono ?_); rintro e w' ⟨rfl, rfl⟩) | (go_at_call 26; (with_reducible refine (pick_bad a2 _ H2.out _).mono ?_); rintro e w' ⟨rfl, rfl⟩) | (go_at_call 18; (with_reducible refine (lives_any _).mono ?_); rintro e w' ⟨rfl, rfl⟩))
      go_ret
      exact ⟨rfl, Below.refl _ _⟩
    · obtain ⟨m, rfl⟩ := Int.eq_ofNat_of_zero_le (show 0 ≤ a2 by omega)
      have h3 : 1 ≤ m := by omega
      have h4 : m ≤ 65536 := by omega
      clear h2
      have l1 := pick_lt (next s) n h5
      have l2 : (n > m) ∨ pickN (next s) n ≤ pickN (next s) m := by
        by_cases h : n ≤ m
        · exact .inr (pick_mono _ _ _ h)
        · exact .inl (by omega)
      generalize hp : pickN (next s) n = p at *
      generalize hq : pickN (next s) m = q at *
      have HP := Lib.hid hp
      have HQ := Lib.hid hq
      have Hp := fun w => (pick_ok s n h5 h6 _ rfl w)
      have Hq := fun w => (pick_ok s m h3 h4 _ rfl w)
      rw [hp] at Hp
      rw [hq] at Hq
      have HP1 := Lib.hid Hp
      have HQ1 := Lib.hid Hq
      clear hp hq Hp Hq
      by_cases h7 : n > m
      · go_enter Try.func8, Try.ntmps8
        go_wp2_with (first | (go_at_call 26; (with_reducible refine (HP1.out _).mono ?_); rintro e w' ⟨rfl, rfl⟩) | (go_at_call 26; (with_reducible refine (HQ1.out _).mono ?_); rintro e w' ⟨rfl, rfl⟩) | (go_at_call 18; (with_reducible refine (lives_any _).mono ?_); rintro e w' ⟨rfl, rfl⟩) | (go_at_call 20; (with_reducible refine (next_any _ s rfl _).mono ?_); rintro e w' ⟨rfl, rfl⟩))
        go_ret
        exact ⟨rfl, Below.refl _ _⟩
      · have h8 : p ≤ q := by omega
        go_enter Try.func8, Try.ntmps8
        go_wp2_with (first | (go_at_call 26; (with_reducible refine (HP1.out _).mono ?_); rintro e w' ⟨rfl, rfl⟩) | (go_at_call 26; (with_reducible refine (HQ1.out _).mono ?_); rintro e w' ⟨rfl, rfl⟩) | (go_at_call 18; (with_reducible refine (lives_any _).mono ?_); rintro e w' ⟨rfl, rfl⟩) | (go_at_call 20; (with_reducible refine (next_any _ s rfl _).mono ?_); rintro e w' ⟨rfl, rfl⟩))
        go_ret
        exact ⟨ret_true (by first | rfl | (simp; omega) | simp), Below.refl _ _⟩
end Go.Proofs.Ytnbelagjgmjehaa.Luck
