/-
  The walks of luck.Next, luck.Back, luck.Skip and luck.Pick: each returns what the plain mathematics says; for every word and number.
-/
import Derived.Test.YtkijhejjnlmbmaaProg
import Derived.Test.YtkijhejjnlmbmaaBas
import Derived.Test.YtkijhejjnlmbmaaLuckM
set_option linter.unusedVariables false
set_option linter.unusedSimpArgs false
namespace Go.Proofs.Ytkijhejjnlmbmaa.Luck
open Go.RowKit Go.Proofs.Ytkijhejjnlmbmaa.Bv

theorem ret_u32 {a b : Int} (h : a = b) : Ending.returned (.int .u32 a) = .returned (.int .u32 b) := by rw [h]
theorem ret_ue {a b : Int} {k : Int} (h : a = b) : Ending.returned (.tuple #[.int .u32 a, .int .i64 k]) = .returned (.tuple #[.int .u32 b, .int .i64 k]) := by rw [h]

theorem next_num (x : Int) : ((1664525 * x) % 4294967296 + 1013904223) % 4294967296 = U (next (BitVec.ofInt 32 x)) := by
  refine eq32 (by omega) (by omega) ?_
  rw [of_emod32, of_add, of_emod32, of_mul]
  rfl
theorem back_num (x : Int) : (4276115653 * ((x - 1013904223) % 4294967296)) % 4294967296 = U (back (BitVec.ofInt 32 x)) := by
  refine eq32 (by omega) (by omega) ?_
  rw [of_emod32, of_mul, of_emod32, of_sub]
  rfl

theorem next_any (x : Int) (s : W) (hx : x = U s) (w : World) :
    Calls Try.prog 83 #[.int .u32 x] w fun e w' => e = .returned (.int .u32 (U (next s))) ∧ w = w' := by
  have HN := Lib.hid (next_num x)
  have hs : BitVec.ofInt 32 x = s := by rw [hx, of_U]
  have HS := Lib.hid hs
  clear hx hs
  go_enter Try.func83, Try.ntmps83
  go_wp2
  go_ret
  exact ⟨ret_u32 (by rw [← HS.out]; exact HN.out), rfl⟩

theorem back_any (x : Int) (s : W) (hx : x = U s) (w : World) :
    Calls Try.prog 84 #[.int .u32 x] w fun e w' => e = .returned (.int .u32 (U (back s))) ∧ w = w' := by
  have HN := Lib.hid (back_num x)
  have hs : BitVec.ofInt 32 x = s := by rw [hx, of_U]
  have HS := Lib.hid hs
  clear hx hs
  go_enter Try.func84, Try.ntmps84
  go_wp2
  go_ret
  exact ⟨ret_u32 (by rw [← HS.out]; exact HN.out), rfl⟩

theorem mul_num (f g : W) : (U f * U g) % 4294967296 = U (f * g) := by
  refine eq32 (by omega) (by omega) ?_
  rw [of_emod32, of_mul, of_U, of_U]
theorem ma_num (a g b : W) : (U a * U g % 4294967296 + U b) % 4294967296 = U (a * g + b) := by
  rw [mul_num]
  refine eq32 (by omega) (by omega) ?_
  rw [of_emod32, of_add, of_U, of_U]

/-- The loop's state: what has been done, what is left. -/
def Done (n m k r : Nat) (f a : W) : Prop := n = m + 2 ^ k * r ∧ ∀ x, f * x + a = iter next m x
theorem Done.one {n m k r : Nat} {f a : W} (h : Done n m k r f a) (hr : r % 2 = 1) : Done n (m + 2 ^ k) (k + 1) (r / 2) (f * (pow2 k).1) (a * (pow2 k).1 + (pow2 k).2) := by
  refine ⟨?_, skip_step m k f a h.2⟩
  have h1 := h.1
  have h2 := Nat.div_add_mod r 2
  rw [hr] at h2
  rw [Nat.pow_succ, Nat.mul_assoc]
  generalize r / 2 = q at *
  subst h2
  rw [h1, Nat.mul_add, Nat.mul_one]
  omega
theorem Done.nil {n m k r : Nat} {f a : W} (h : Done n m k r f a) (hr : ¬ r % 2 = 1) : Done n m (k + 1) (r / 2) f a := by
  refine ⟨?_, h.2⟩
  have h1 := h.1
  have h2 := Nat.div_add_mod r 2
  have h3 : r % 2 = 0 := by omega
  rw [h3] at h2
  rw [Nat.pow_succ, Nat.mul_assoc]
  generalize r / 2 = q at *
  subst h2
  exact h1

theorem skip_ok (s : W) (n : Nat) (hn : n ≤ 4294967296) (y x : Int) (hy : y = U s) (hx : x = n) (w : World) :
    Calls Try.prog 82 #[.int .u32 y, .int .i64 x] w fun e w' => e = .returned (.tuple #[.int .u32 (U (iter next n s)), .int .i64 0]) ∧ w = w' := by
  subst hx hy
  go_enter Try.func82, Try.ntmps82
  go_wp2
  go_loop [1, 6, 7, 8, 9] (fun v1 v6 v7 v8 v9 => ∃ (m k r : Nat) (f a g b : W), v1 = .int .i64 (r : Int) ∧ v6 = .int .u32 (U f) ∧ v7 = .int .u32 (U a) ∧ v8 = .int .u32 (U g) ∧ v9 = .int .u32 (U b) ∧ r ≤ 4294967296 ∧ Hid ((pow2 k) = (g, b)) ∧ Done n m k r f a) (fun v1 _ _ _ _ => (intOf v1).toNat)
  case atStart =>
    refine ⟨0, 0, n, 1#32, 0#32, _, _, rfl, rfl, rfl, rfl, rfl, hn, pow2_zero, ?_⟩
    exact ⟨by omega, fun x => by rw [BitVec.one_mul, iter_zero, BitVec.add_zero]⟩
  case round =>
    obtain ⟨m, k, r, f, a, g, b, rfl, rfl, rfl, rfl, rfl, hr, HP, hd⟩ := hrel
    by_cases h0 : 0 < r
    · have hx := and1_i64 r (by omega)
      have HX := Lib.hid hx
      have hp := HP.out
      have hg : g = (pow2 k).1 := by rw [hp]
      have hb : b = (pow2 k).2 := by rw [hp]
      have H2 : Hid (pow2 (k + 1) = (g * g, b * g + b)) := by rw [hg, hb]; exact pow2_succ k
      have H3 := Lib.hid (show g = (pow2 k).1 ∧ b = (pow2 k).2 from ⟨hg, hb⟩)
      clear hx hp hg hb
      go_wp2
      · go_round
        case rel =>
          have ht : (bits BinOp.and IntKind.i64 (r : Int) 1 == 1) = true := by assumption
          rw [HX.out, beq_iff_eq] at ht
          have hd' := hd.one (by omega)
          rw [← H3.out.1, ← H3.out.2] at hd'
          exact ⟨_, _, r / 2, _, _, _, _, rfl, by rw [mul_num], by rw [ma_num], by rw [mul_num], by rw [ma_num], by omega, H2, hd'⟩
        case measure => simp [intOf]; omega
      · go_round
        case rel =>
          have ht : (bits BinOp.and IntKind.i64 (r : Int) 1 == 1) = false := by assumption
          rw [HX.out, beq_eq_false_iff_ne] at ht
          exact ⟨_, _, r / 2, _, _, _, _, rfl, rfl, rfl, by rw [mul_num], by rw [ma_num], by omega, H2, hd.nil (by omega)⟩
        case measure => simp [intOf]; omega
    · have hr0 : r = 0 := by omega
      subst hr0
      have hd2 := hd.2 s
      have hd1 : m = n := by have := hd.1; omega
      rw [hd1] at hd2
      have HD := Lib.hid hd2
      clear hd2 hd1 hd h0
      go_wp2
      go_ret2
      exact ⟨ret_ue (by rw [← HD.out]; refine eq32 (by omega) (by omega) ?_; rw [of_emod32, of_add, of_mul, of_U, of_U, of_U]), rfl⟩

/-- The number that is picked. -/
def pickN (s : W) (n : Nat) : Nat := s.toNat / 65536 * n / 65536
theorem pick_num (s : W) (n : Nat) (h2 : n ≤ 65536) : wrap64 (wrap64 (U s / 65536) * (n : Int)) / 65536 = (pickN s n : Int) := by
  have h0 := s.isLt
  have e1 : wrap64 (U s / 65536) = ((s.toNat / 65536 : Nat) : Int) := by unfold wrap64 U; omega
  have h3 : s.toNat / 65536 * n ≤ 65536 * 65536 := Nat.mul_le_mul (by omega) h2
  rw [e1, ← Int.natCast_mul]
  unfold pickN wrap64
  generalize s.toNat / 65536 * n = p at *
  omega
theorem ret_pick {a b : Int} {c : Int} (h : a = b) : Ending.returned (.tuple #[.int .i64 a, .int .u32 c, .int .i64 0]) = .returned (.tuple #[.int .i64 b, .int .u32 c, .int .i64 0]) := by rw [h]
theorem pick_ok (s : W) (n : Nat) (h1 : 1 ≤ n) (h2 : n ≤ 65536) (x : Int) (hx : x = n) (w : World) :
    Calls Try.prog 51 #[.int .u32 (U s), .int .i64 x] w fun e w' => e = .returned (.tuple #[.int .i64 (pickN (next s) n), .int .u32 (U (next s)), .int .i64 0]) ∧ w = w' := by
  subst hx
  go_enter Try.func51, Try.ntmps51
  go_wp2_with (go_at_call 83; refine (next_any _ s rfl _).mono ?_; rintro e w' ⟨rfl, rfl⟩)
  go_ret3
  exact ⟨ret_pick (pick_num _ _ h2), rfl⟩
theorem skip_one (w : World) : Calls Try.prog 82 #[.int .u32 0, .int .i64 1] w fun e w' => e = .returned (.tuple #[.int .u32 1013904223, .int .i64 0]) ∧ w = w' :=
  (skip_ok 0#32 1 (by decide) 0 1 rfl rfl w).mono fun e w' ⟨he, hw⟩ => ⟨he.trans (ret_ue (by rw [iter_one]; decide +kernel)), hw⟩
theorem next_zero (w : World) : Calls Try.prog 83 #[.int .u32 0] w fun e w' => e = .returned (.int .u32 1013904223) ∧ w = w' :=
  (next_any 0 0#32 rfl w).mono fun e w' ⟨he, hw⟩ => ⟨he.trans (ret_u32 (by decide +kernel)), hw⟩
theorem back_one (w : World) : Calls Try.prog 84 #[.int .u32 1013904223] w fun e w' => e = .returned (.int .u32 0) ∧ w = w' :=
  (back_any 1013904223 1013904223#32 (by decide +kernel) w).mono fun e w' ⟨he, hw⟩ => ⟨he.trans (ret_u32 (by decide +kernel)), hw⟩
theorem lives_any (w : World) :
    Calls Try.prog 50 #[] w fun e w' => e = .returned (.bool true) ∧ w = w' := by
  go_enter Try.func50, Try.ntmps50
  go_wp2_with (first | (go_at_call 82; refine (skip_one _).mono ?_; rintro e w' ⟨rfl, rfl⟩) | (go_at_call 83; refine (next_zero _).mono ?_; rintro e w' ⟨rfl, rfl⟩) | (go_at_call 84; refine (back_one _).mono ?_; rintro e w' ⟨rfl, rfl⟩))
  go_ret
  exact ⟨rfl, rfl⟩
end Go.Proofs.Ytkijhejjnlmbmaa.Luck
