/-
  The walk of the law LuckWhole: for every word it returns true; what was there stays.
-/
import Derived.Test.YtnbelagjgmjehaaLuckSkips
set_option linter.unusedVariables false
namespace Go.Proofs.Ytnbelagjgmjehaa.Luck
open Go.RowKit Go.Proofs.Ytnbelagjgmjehaa.Bv

theorem skip_whole (s : W) (w : World) : Calls Try.prog 17 #[.int .u32 (U s), .int .i64 4294967296] w fun e w' => e = .returned (.tuple #[.int .u32 (U s), .int .i64 0]) ∧ w = w' :=
  (skip_ok s 4294967296 (Nat.le_refl _) _ _ rfl rfl w).mono fun e w' ⟨he, hw⟩ => ⟨he.trans (ret_ue (by rw [whole])), hw⟩

theorem pow_not (s : W) (k : Nat) (hk : k < 32) : (U (iter next (2 ^ k) s) == U s) = false := by
  rw [beq_eq_false_iff_ne]
  intro h
  have h1 := U_inj h
  have h2 := apart (k + 1) (2 ^ k) (by omega) (Nat.two_pow_pos k) (Nat.pow_lt_pow_right (by decide) (by omega)) s
  rw [h1] at h2
  exact h2 rfl

theorem pow_le (k : Nat) (hk : k < 32) : 2 ^ k ≤ 4294967296 :=
  Nat.pow_le_pow_right (n := 2) (by decide) (show k ≤ 32 by omega)

theorem pow_num (k : Nat) (hk : k < 32) : wrap64 ((2 : Int) ^ k) = ((2 ^ k : Nat) : Int) := by
  have h := pow_le k hk
  have e : ((2 : Int) ^ k) = ((2 ^ k : Nat) : Int) := by simp
  rw [e]
  unfold wrap64
  generalize 2 ^ k = p at *
  omega

theorem whole_walk (a0 : Int) (w : World) (w0 : (Lit.int .u32 a0).wf = true) :
    Calls Try.prog 6 #[.int .u32 a0] w fun e w' => e = .returned (.bool true) ∧ Below w.heap.size w w' := by
  obtain ⟨s, rfl⟩ := open_u32 w0
  clear w0
  go_enter Try.func6, Try.ntmps6
  go_wp2_with (first | (go_at_call 17; (with_reducible refine (skip_whole s _).mono ?_); rintro e w' ⟨rfl, rfl⟩) | (go_at_call 18; (with_reducible refine (lives_any _).mono ?_); rintro e w' ⟨rfl, rfl⟩))
  go_loop [24] (fun i => ∃ k : Nat, k ≤ 32 ∧ i = .int .i64 k) (fun i => 32 - (intOf i).toNat)
  case atStart => exact ⟨0, by omega, rfl⟩
  case round =>
    obtain ⟨k, hk, rfl⟩ := hrel
    by_cases hlt : k < 32
    · have hp := Lib.hid (pow_le k hlt)
      have hn := pow_not s k hlt
      have HW := Lib.hid (pow_num k hlt)
      go_wp2_with (go_at_call 17; (with_reducible refine (skip_ok s (2 ^ k) hp.out _ _ rfl HW.out _).mono ?_); rintro e w' ⟨rfl, rfl⟩)
      go_round
      case rel => exact ⟨k + 1, by omega, by go_num⟩
      case measure => simp [intOf]; omega
    · go_wp2_with fail
      go_ret
      exact ⟨rfl, Below.refl _ _⟩
end Go.Proofs.Ytnbelagjgmjehaa.Luck
