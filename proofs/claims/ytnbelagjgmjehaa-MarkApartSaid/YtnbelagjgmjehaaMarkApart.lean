/-
  The walk of the law MarkApart: for every two words it returns true; what was there stays.
-/
import Derived.Test.YtnbelagjgmjehaaMarkW
set_option linter.unusedVariables false
namespace Go.Proofs.Ytnbelagjgmjehaa.Mark
open Go.RowKit Go.Proofs.Ytnbelagjgmjehaa.Bv

theorem down31_any (x : W) (w : World) :
    Calls Try.prog 22 #[.int .u64 (U x), .int .i64 31] w fun e w' => e = .returned (.int .u64 (U (down 31 x))) ∧ w = w' := by
  go_enter Try.func22, Try.ntmps22
  go_wp2
  refine wp_loop_rounds 3 ?_
  rw [rounds_succ]
  go_wp2
  rw [rounds_succ]
  go_wp2
  rw [rounds_succ]
  go_wp2
  go_ret
  exact ⟨ret_u64 (by rw [xs31, xs62]; rfl), rfl⟩
theorem down27_any (x : W) (w : World) :
    Calls Try.prog 22 #[.int .u64 (U x), .int .i64 27] w fun e w' => e = .returned (.int .u64 (U (down 27 x))) ∧ w = w' := by
  go_enter Try.func22, Try.ntmps22
  go_wp2
  refine wp_loop_rounds 3 ?_
  rw [rounds_succ]
  go_wp2
  rw [rounds_succ]
  go_wp2
  rw [rounds_succ]
  go_wp2
  go_ret
  exact ⟨ret_u64 (by rw [xs27, xs54]; rfl), rfl⟩
theorem down30_any (x : W) (w : World) :
    Calls Try.prog 22 #[.int .u64 (U x), .int .i64 30] w fun e w' => e = .returned (.int .u64 (U (down 30 x))) ∧ w = w' := by
  go_enter Try.func22, Try.ntmps22
  go_wp2
  refine wp_loop_rounds 3 ?_
  rw [rounds_succ]
  go_wp2
  rw [rounds_succ]
  go_wp2
  rw [rounds_succ]
  go_wp2
  go_ret
  exact ⟨ret_u64 (by rw [xs30, xs60]; rfl), rfl⟩

theorem newton_num (x y : W) : IntKind.u64.wrap (U y * IntKind.u64.wrap (2 - IntKind.u64.wrap (U x * U y))) = U (newton x y) := by
  rw [mul_num, wrap_u (2 - _), of_sub, of_U, mul_num]; rfl
def newtons : Nat → W → W → W
  | 0, _, y => y
  | k + 1, x, y => newton x (newtons k x y)
theorem other_any (x : W) (w : World) :
    Calls Try.prog 23 #[.int .u64 (U x)] w fun e w' => e = .returned (.int .u64 (U (newtons 6 x x))) ∧ w = w' := by
  go_enter Try.func23, Try.ntmps23
  go_wp2
  go_loop [3, 5] (fun v i => ∃ k : Nat, k ≤ 6 ∧ i = .int .i64 k ∧ v = .int .u64 (U (newtons k x x))) (fun _ i => 6 - (intOf i).toNat)
  case atStart => exact ⟨0, by decide, rfl, rfl⟩
  case round =>
    obtain ⟨k, hk, rfl, rfl⟩ := hrel
    by_cases hlt : k < 6
    · go_wp2
      go_round
      case rel => exact ⟨k + 1, by omega, by go_num, by rw [newton_num]; rfl⟩
      case measure => simp [intOf]; omega
    · have hk6 : 6 = k := by omega
      subst hk6
      go_wp2
      go_ret
      exact ⟨rfl, rfl⟩
theorem other1_any (w : World) : Calls Try.prog 23 #[.int .u64 13787848793156543929] w fun e w' => e = .returned (.int .u64 (U (other c1))) ∧ w = w' :=
  other_any c1 w
theorem other2_any (w : World) : Calls Try.prog 23 #[.int .u64 10723151780598845931] w fun e w' => e = .returned (.int .u64 (U (other c2))) ∧ w = w' :=
  other_any c2 w

theorem back_any (n : W) (w : World) :
    Calls Try.prog 21 #[.int .u64 (U n)] w fun e w' => e = .returned (.int .u64 (U (back n))) ∧ w = w' := by
  go_enter Try.func21, Try.ntmps21
  go_wp2_with fail
  refine (down31_any _ _).mono ?_
  rintro e w' ⟨rfl, rfl⟩
  go_wp2_with fail
  refine (other2_any _).mono ?_
  rintro e w' ⟨rfl, rfl⟩
  go_wp2_with fail
  rw [mul_num]
  refine (down27_any _ _).mono ?_
  rintro e w' ⟨rfl, rfl⟩
  go_wp2_with fail
  refine (other1_any _).mono ?_
  rintro e w' ⟨rfl, rfl⟩
  go_wp2_with fail
  rw [mul_num]
  refine (down30_any _ _).mono ?_
  rintro e w' ⟨rfl, rfl⟩
  go_wp2_with fail
  go_ret
  exact ⟨ret_u64 (by rw [sub_num]; rfl), rfl⟩

theorem open_u64 {x : Int} (h : (Lit.int .u64 x).wf = true) : ∃ s : W, x = U s := by
  simp [Lit.wf, IntKind.min, IntKind.max, IntKind.signed, IntKind.bits] at h
  exact ⟨BitVec.ofInt 64 x, (U_of64 x (by omega) (by omega)).symm⟩

theorem mix_is {n m : W} (h : mix n = m) (w : World) :
    Calls Try.prog 25 #[.int .u64 (U n)] w fun e w' => e = .returned (.int .u64 (U m)) ∧ w = w' := by
  rw [← h]; exact mix_any _ n rfl w
theorem back_is {n m : W} (h : mix n = m) (w : World) :
    Calls Try.prog 21 #[.int .u64 (U m)] w fun e w' => e = .returned (.int .u64 (U n)) ∧ w = w' :=
  (back_any m w).mono fun e w' ⟨he, hw⟩ => ⟨he.trans (ret_u64 (by rw [← h, back_mix])), hw⟩

theorem apart_walk (a0 : Int) (a1 : Int) (w : World) (w0 : (Lit.int .u64 a0).wf = true) (w1 : (Lit.int .u64 a1).wf = true) :
    Calls Try.prog 7 #[.int .u64 a0, .int .u64 a1] w fun e w' => e = .returned (.bool true) ∧ Below w.heap.size w w' := by
  obtain ⟨a, rfl⟩ := open_u64 w0
  obtain ⟨b, rfl⟩ := open_u64 w1
  clear w0 w1
  have h1 : (U (mix a) == U (mix b)) = (U a == U b) := by
    rw [Bool.eq_iff_iff, beq_iff_eq, beq_iff_eq]
    exact ⟨fun h => by rw [mix_inj (U_inj h)], fun h => by rw [U_inj h]⟩
  obtain ⟨m, HA⟩ : ∃ m, Hid (mix a = m) := ⟨_, Lib.hid rfl⟩
  obtain ⟨n, HB⟩ : ∃ n, Hid (mix b = n) := ⟨_, Lib.hid rfl⟩
  rw [HA.out, HB.out] at h1
  by_cases hab : U a = U b
  · have e1 : (U a == U b) = true := by simp [hab]
    have e2 : (U m == U n) = true := by rw [h1, e1]
    have e3 : (U a == U a) = true := by simp
    clear h1 hab
    go_enter Try.func7, Try.ntmps7
    go_wp2_with fail
    refine (lives_any _).mono ?_
    rintro e w' ⟨rfl, hb⟩
    go_wp2_with fail
    refine (mix_is HA.out _).mono ?_
    rintro e w' ⟨rfl, rfl⟩
    go_wp2_with fail
    refine (mix_is HB.out _).mono ?_
    rintro e w' ⟨rfl, rfl⟩
    go_wp2_with fail
    refine (mix_is HA.out _).mono ?_
    rintro e w' ⟨rfl, rfl⟩
    go_wp2_with fail
    refine (back_is HA.out _).mono ?_
    rintro e w' ⟨rfl, rfl⟩
    go_wp2_with fail
    go_ret
    exact ⟨rfl, hb⟩
  · have e1 : (U a == U b) = false := by simp [hab]
    have e2 : (U m == U n) = false := by rw [h1, e1]
    have e3 : (U a == U a) = true := by simp
    clear h1 hab
    go_enter Try.func7, Try.ntmps7
    go_wp2_with fail
    refine (lives_any _).mono ?_
    rintro e w' ⟨rfl, hb⟩
    go_wp2_with fail
    refine (mix_is HA.out _).mono ?_
    rintro e w' ⟨rfl, rfl⟩
    go_wp2_with fail
    refine (mix_is HB.out _).mono ?_
    rintro e w' ⟨rfl, rfl⟩
    go_wp2_with fail
    refine (mix_is HA.out _).mono ?_
    rintro e w' ⟨rfl, rfl⟩
    go_wp2_with fail
    refine (back_is HA.out _).mono ?_
    rintro e w' ⟨rfl, rfl⟩
    go_wp2_with fail
    go_ret
    exact ⟨rfl, hb⟩
end Go.Proofs.Ytnbelagjgmjehaa.Mark
