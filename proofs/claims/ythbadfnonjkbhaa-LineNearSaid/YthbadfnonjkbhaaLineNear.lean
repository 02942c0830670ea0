/-
  LineNear.
-/
import Derived.Test.YthbadfnonjkbhaaLineL
set_option linter.unusedVariables false
namespace Go.Proofs.Ythbadfnonjkbhaa.Line
open Go.RowKit Go.Proofs.Ythbadfnonjkbhaa

/-- How far a point is aside of the straight line, times its length. -/
theorem aside_bd (dx dy k : Nat) (a b sx sy : Int) (hsx : -1 ≤ sx ∧ sx ≤ 1) (hsy : -1 ≤ sy ∧ sy ≤ 1) (hl : 0 < long dx dy) :
    2 * ((X dx dy a sx k - a) * (sy * (dy : Int)) - (Y dx dy b sy k - b) * (sx * (dx : Int))) ≤ long dx dy ∧ -(long dx dy : Int) ≤ 2 * ((X dx dy a sx k - a) * (sy * (dy : Int)) - (Y dx dy b sy k - b) * (sx * (dx : Int))) := by
  have key : ∀ m n : Nat, 2 * ((m : Int) * dy - (n : Int) * dx) ≤ long dx dy → -(long dx dy : Int) ≤ 2 * ((m : Int) * dy - (n : Int) * dx) →
      2 * ((a + sx * (m : Int) - a) * (sy * (dy : Int)) - (b + sy * (n : Int) - b) * (sx * (dx : Int))) ≤ long dx dy ∧ -(long dx dy : Int) ≤ 2 * ((a + sx * (m : Int) - a) * (sy * (dy : Int)) - (b + sy * (n : Int) - b) * (sx * (dx : Int))) := by
    intro m n h1 h2
    have e1 : a + sx * (m : Int) - a = sx * m := by omega
    have e2 : b + sy * (n : Int) - b = sy * n := by omega
    rw [e1, e2]
    have e3 : sx * (m : Int) * (sy * (dy : Int)) = (sx * sy) * ((m : Int) * dy) := by rw [Int.mul_assoc, Int.mul_assoc]; congr 1; rw [← Int.mul_assoc, ← Int.mul_assoc, Int.mul_comm (m : Int) sy]
    have e4 : sy * (n : Int) * (sx * (dx : Int)) = (sx * sy) * ((n : Int) * dx) := by rw [Int.mul_assoc, ← Int.mul_assoc (n : Int), Int.mul_comm (n : Int) sx, Int.mul_assoc sx, ← Int.mul_assoc, Int.mul_comm sy sx]
    rw [e3, e4]
    generalize (m : Int) * dy = p at *
    generalize (n : Int) * dx = q at *
    obtain h | h | h : sx = -1 ∨ sx = 0 ∨ sx = 1 := by omega
    all_goals (obtain h' | h' | h' : sy = -1 ∨ sy = 0 ∨ sy = 1 := by omega)
    all_goals subst h h'
    all_goals omega
  unfold X Y
  by_cases h : dx < dy
  · rw [if_pos h, if_pos h]
    have ho := off_bd dx dy k (by omega)
    unfold off at ho
    have e : (long dx dy : Int) = dy := by unfold long; rw [if_pos h]
    have e5 : ((J dx dy k : Nat) : Int) * (dy : Int) = ((dy * J dx dy k : Nat) : Int) := by rw [Nat.mul_comm]; push_cast; rfl
    have e6 : (k : Int) * (dx : Int) = ((k * dx : Nat) : Int) := by push_cast; rfl
    exact key _ _ (by rw [e, e5, e6]; omega) (by rw [e, e5, e6]; omega)
  · rw [if_neg h, if_neg h]
    have e : (long dx dy : Int) = dx := by unfold long; rw [if_neg h]
    have ho := off_bd dy dx k (by unfold long at hl; rw [if_neg h] at hl; exact hl)
    unfold off at ho
    have e5 : ((J dy dx k : Nat) : Int) * (dx : Int) = ((dx * J dy dx k : Nat) : Int) := by rw [Nat.mul_comm]; push_cast; rfl
    have e6 : (k : Int) * (dy : Int) = ((k * dy : Nat) : Int) := by push_cast; rfl
    exact key _ _ (by rw [e, e5, e6]; omega) (by rw [e, e5, e6]; omega)
theorem aside_bd' (a b c d : Int) (k : Nat) (hk : k ≤ long (dX a c) (dX b d)) :
    2 * ((X (dX a c) (dX b d) a (c - a).sign k - a) * (d - b) - (Y (dX a c) (dX b d) b (d - b).sign k - b) * (c - a)) ≤ long (dX a c) (dX b d) ∧
    -(long (dX a c) (dX b d) : Int) ≤ 2 * ((X (dX a c) (dX b d) a (c - a).sign k - a) * (d - b) - (Y (dX a c) (dX b d) b (d - b).sign k - b) * (c - a)) := by
  have e1 : (c - a).sign * (dX a c : Int) = c - a := Int.sign_mul_natAbs _
  have e2 : (d - b).sign * (dX b d : Int) = d - b := Int.sign_mul_natAbs _
  by_cases hl : 0 < long (dX a c) (dX b d)
  · have h := aside_bd (dX a c) (dX b d) k a b (c - a).sign (d - b).sign (sign_bd _) (sign_bd _) hl
    rw [e1, e2] at h
    exact h
  · obtain rfl : k = 0 := by omega
    rw [X_zero, Y_zero]
    simp
theorem pbd (x y : Int) (hx : -4000 ≤ x ∧ x ≤ 4000) (hy : -4000 ≤ y ∧ y ≤ 4000) : -16000000 ≤ x * y ∧ x * y ≤ 16000000 := by
  have h : (x * y).natAbs ≤ 4000 * 4000 := by rw [Int.natAbs_mul]; exact Nat.mul_le_mul (by omega) (by omega)
  omega

theorem max4 {P : Program} (ts : Array TypeId) (t : TypeId) (x y z u : Int) :
    ∃ m : Int, (∀ w : World, (Builtin.max_ ts t #[.int .i64 x, .int .i64 y, .int .i64 z, .int .i64 u]).run P w = .ok (.int .i64 m) w) ∧ (x ≤ m ∧ y ≤ m ∧ z ≤ m ∧ u ≤ m) ∧ (m = x ∨ m = y ∨ m = z ∨ m = u) := by
  refine ⟨if (if (if x < y then y else x) < z then z else (if x < y then y else x)) < u then u else (if (if x < y then y else x) < z then z else (if x < y then y else x)), fun w => ?_, ?_, ?_⟩
  · simp [Builtin.max_, Builtin.max2]
  · split <;> split <;> split <;> omega
  · split <;> split <;> split <;> omega
set_option maxHeartbeats 4000000 in
set_option maxRecDepth 100000 in
theorem lineNear_any (a0 b0 : Int) (a1 b1 : Int) (w : World) (w0 : (Lit.int .i64 a0).wf = true) (r0 : (Lit.int .i64 b0).wf = true) (w1 : (Lit.int .i64 a1).wf = true) (r1 : (Lit.int .i64 b1).wf = true) :
    Calls Try.prog 3 #[.agg #[.int .i64 a0, .int .i64 b0], .agg #[.int .i64 a1, .int .i64 b1]] w fun e w' => e = .returned (.bool true) ∧ Below w.heap.size w w' := by
  simp [Lit.wf, IntKind.min, IntKind.max, IntKind.signed, IntKind.bits] at w0 r0 w1 r1
  have hT0 := Two.new w a0 b0 a1 b1
  by_cases hN : Near a0 b0 ∧ Near a1 b1
  · obtain ⟨h1, h2⟩ := hN
    go_enter Try.func3, Try.ntmps3
    go_wp2_with fail
    refine (cells_use a0 b0 a1 b1 h1 h2 _).mono ?_
    rintro e w2 ⟨g, cap, rfl, hb, hr⟩
    have hT := hT0.later hb
    clear hb hT0
    obtain ⟨k1, k2, k3, k4⟩ := hT.cells
    go_wp2_with fail
    refine (lives_any _).mono ?_
    rintro e w3 ⟨rfl, hb⟩
    replace hT := hT.later hb
    replace hr := hr.later hb
    clear k1 k2 k3 k4 hb
    obtain ⟨k1, k2, k3, k4⟩ := hT.cells
    unfold Near at h1 h2
    obtain ⟨⟨n1, n2⟩, n3, n4⟩ := h1
    obtain ⟨⟨n5, n6⟩, n7, n8⟩ := h2
    go_wp2_with fail
    go_quiet (fail)
    obtain ⟨m, hmax, m1, m2⟩ := max4 (P := Try.prog) #[3, 3, 3, 3] 3 (a1 - a0) (-(a1 - a0)) (b1 - b0) (-(b1 - b0))
    obtain rfl : m = (long (dX a0 a1) (dX b0 b1) : Int) := by unfold long dX; split <;> omega
    obtain ⟨L, HL⟩ : ∃ L, Hid (long (dX a0 a1) (dX b0 b1) = L) := ⟨_, Lib.hid rfl⟩
    have hL2 : L ≤ 2000 := by rw [← HL.out]; unfold long dX; split <;> omega
    rw [HL.out] at hmax hr ⊢
    clear m1 m2
    have hT' : Two w (w3.drewN nq) a0 b0 a1 b1 := ⟨hT.one, hT.two, below_drewN hT.below nq⟩
    have hr' : Row (w3.drewN nq) g (L + 1) (X (dX a0 a1) (dX b0 b1) a0 (a1 - a0).sign) (Y (dX a0 a1) (dX b0 b1) b0 (b1 - b0).sign) := hr
    clear hT hr k1 k2 k3 k4
    go_wp2_with fail
    go_loopw [45] (fun i wr => ∃ k : Nat, k ≤ L + 1 ∧ i = .int .i64 k ∧ Two w wr a0 b0 a1 b1 ∧ Row wr g (L + 1) (X (dX a0 a1) (dX b0 b1) a0 (a1 - a0).sign) (Y (dX a0 a1) (dX b0 b1) b0 (b1 - b0).sign)) (fun i _ => L + 1 - (intOf i).toNat)
    case atStart => exact ⟨0, Nat.zero_le _, rfl, hT', hr'⟩
    case round =>
      obtain ⟨k, hk, rfl, hT, hr⟩ := hrel
      by_cases hlt : k < L + 1
      · obtain ⟨k1, k2, k3, k4⟩ := hT.cells
        obtain ⟨q1, q2⟩ := hr.2 k hlt
        have hs := aside_bd' a0 b0 a1 b1 k (by rw [HL.out]; omega)
        have hx := XB (dX a0 a1) (dX b0 b1) a0 (a1 - a0).sign k (sign_bd _) ⟨n1, n2⟩ (by omega)
        have hy := YB (dX a0 a1) (dX b0 b1) b0 (b1 - b0).sign k (sign_bd _) ⟨n3, n4⟩ (by omega)
        generalize X (dX a0 a1) (dX b0 b1) a0 (a1 - a0).sign k = x at q1 hs hx
        generalize Y (dX a0 a1) (dX b0 b1) b0 (b1 - b0).sign k = y at q2 hs hy
        have hp := pbd (x - a0) (b1 - b0) (by omega) (by omega)
        have hq := pbd (y - b0) (a1 - a0) (by omega) (by omega)
        rw [HL.out] at hs
        obtain ⟨p, HP⟩ : ∃ p, (x - a0) * (b1 - b0) = p := ⟨_, rfl⟩
        obtain ⟨q, HQ⟩ : ∃ q, (y - b0) * (a1 - a0) = q := ⟨_, rfl⟩
        rw [HP] at hp hs
        rw [HQ] at hq hs
        have hT2 := hT.later ((Below.refl _ _).alloc (Nat.le_refl _) (.cells #[.int .i64 x, .int .i64 y] 23))
        have hr2 := hr.later ((Below.refl _ _).alloc (Nat.le_refl _) (.cells #[.int .i64 x, .int .i64 y] 23))
        clear k1 k2 k3 k4
        obtain ⟨k1, k2, k3, k4⟩ := hT2.cells
        go_wp2_with fail
        exact ⟨⟨k + 1, by omega, by go_num, hT2, hr2⟩, by simp [intOf]; omega⟩
      · go_wp2_with fail
        go_ret
        exact ⟨rfl, hT.below⟩
  · have HN := Lib.hid hN
    clear hN
    go_enter Try.func3, Try.ntmps3
    go_wp2_with fail
    refine (cells_bad a0 b0 a1 b1 (by omega) (by omega) (by omega) (by omega) HN.out _).mono ?_
    rintro e w2 ⟨rfl, hb⟩
    replace hT0 := hT0.later hb
    go_wp2_with fail
    refine (lives_any _).mono ?_
    rintro e w3 ⟨rfl, hb⟩
    replace hT0 := hT0.later hb
    go_wp2_with fail
    refine (lives_any _).mono ?_
    rintro e w4 ⟨rfl, hb⟩
    replace hT0 := hT0.later hb
    go_wp2_with fail
    go_ret
    exact ⟨rfl, hT0.below⟩
end Go.Proofs.Ythbadfnonjkbhaa.Line
