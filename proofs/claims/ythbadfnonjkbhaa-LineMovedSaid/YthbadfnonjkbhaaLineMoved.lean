/-
  LineMoved.
-/
import Derived.Test.YthbadfnonjkbhaaLineWay
set_option linter.unusedVariables false
namespace Go.Proofs.Ythbadfnonjkbhaa.Line
open Go.RowKit Go.Proofs.Ythbadfnonjkbhaa

theorem Row.congr {w : World} {g n : Nat} {f h f' h' : Nat → Int} (hr : Row w g n f h) (e : ∀ k, k < n → f k = f' k ∧ h k = h' k) : Row w g n f' h' :=
  ⟨hr.1, fun k hk => by rw [← (e k hk).1, ← (e k hk).2]; exact hr.2 k hk⟩
def I64 (x : Int) : Prop := -9223372036854775808 ≤ x ∧ x ≤ 9223372036854775807
/-- Whatever is handed in. -/
theorem cells_gen (a b c d : Int) (ha : I64 a) (hb : I64 b) (hc : I64 c) (hd : I64 d) (w : World) :
    Calls Try.prog 14 #[.agg #[.int .i64 a, .int .i64 b], .agg #[.int .i64 c, .int .i64 d]] w fun e w' =>
      ∃ v k, e = .returned (.tuple #[v, .int .i64 k]) ∧ Below w.heap.size w w' ∧
        (k = 1 ∨ k = 0 ∧ Near a b ∧ Near c d ∧ ∃ g cap, v = .slice (some ⟨g, 0, none⟩) (long (dX a c) (dX b d) + 1) cap ∧ Row w' g (long (dX a c) (dX b d) + 1) (X (dX a c) (dX b d) a (c - a).sign) (Y (dX a c) (dX b d) b (d - b).sign)) := by
  unfold I64 at *
  by_cases h : Near a b ∧ Near c d
  · refine (cells_use a b c d h.1 h.2 w).mono ?_
    rintro e w' ⟨g, cap, rfl, hb, hr⟩
    exact ⟨_, _, rfl, hb, .inr ⟨rfl, h.1, h.2, g, cap, rfl, hr⟩⟩
  · refine (cells_bad a b c d ha hb hc hd h w).mono ?_
    rintro e w' ⟨rfl, hb⟩
    exact ⟨_, _, rfl, hb, .inl rfl⟩
theorem wrap_bd (x : Int) : I64 (wrap64 x) := by unfold I64 wrap64; omega

theorem sign_neg' (a c : Int) : (-c - -a).sign = -(c - a).sign := by rw [show -c - -a = -(c - a) by omega, Int.sign_neg]
theorem dX_neg (a c : Int) : dX (-a) (-c) = dX a c := by unfold dX; omega
theorem long_comm (m n : Nat) : long m n = long n m := by unfold long; split <;> split <;> omega
theorem X_neg (dx dy k : Nat) (a s : Int) : X dx dy (-a) (-s) k = -(X dx dy a s k) := by unfold X; rw [Int.neg_mul]; omega
theorem J_same (s k : Nat) (hk : k ≤ s) : J s s k = k := by
  by_cases h : 0 < s
  · exact J_of h (by have := Nat.mul_comm s k; omega) (by have := Nat.mul_comm s k; omega)
  · obtain rfl : s = 0 := by omega
    obtain rfl : k = 0 := by omega
    rfl
theorem XY_swap (dx dy k : Nat) (b s : Int) (hk : k ≤ long dx dy) : X dy dx b s k = Y dx dy b s k ∧ Y dy dx b s k = X dx dy b s k := by
  unfold X Y
  rcases Nat.lt_trichotomy dx dy with h | h | h
  · rw [if_neg (show ¬ dy < dx by omega), if_pos h, if_neg (show ¬ dy < dx by omega), if_pos h]; exact ⟨rfl, rfl⟩
  · subst h
    unfold long at hk
    rw [if_neg (by omega)] at hk
    rw [J_same dx k hk]
    simp
  · rw [if_pos h, if_neg (show ¬ dx < dy by omega), if_pos h, if_neg (show ¬ dx < dy by omega)]; exact ⟨rfl, rfl⟩
/-- A line that is mirrored. -/
theorem row_neg {w : World} {g : Nat} {a b c d : Int} (hr : Row w g (long (dX (-a) (-c)) (dX b d) + 1) (X (dX (-a) (-c)) (dX b d) (-a) (-c - -a).sign) (Y (dX (-a) (-c)) (dX b d) b (d - b).sign)) :
    Row w g (long (dX a c) (dX b d) + 1) (fun k => -(X (dX a c) (dX b d) a (c - a).sign k)) (Y (dX a c) (dX b d) b (d - b).sign) := by
  rw [dX_neg, sign_neg'] at hr
  exact hr.congr fun k _ => ⟨X_neg _ _ _ _ _, rfl⟩
/-- A line that is turned over. -/
theorem row_swap {w : World} {g : Nat} {a b c d : Int} (hr : Row w g (long (dX b d) (dX a c) + 1) (X (dX b d) (dX a c) b (d - b).sign) (Y (dX b d) (dX a c) a (c - a).sign)) :
    Row w g (long (dX a c) (dX b d) + 1) (Y (dX a c) (dX b d) b (d - b).sign) (X (dX a c) (dX b d) a (c - a).sign) := by
  rw [long_comm] at hr
  exact hr.congr fun k hk => ⟨(XY_swap _ _ k _ _ (by omega)).1, (XY_swap _ _ k _ _ (by omega)).2⟩
/-- A line that is moved. -/
theorem row_moved {w : World} {g : Nat} {a b c d p q : Int} (n1 : Near a b) (n2 : Near c d) (n3 : Near (wrap64 (a + p)) (wrap64 (b + q))) (n4 : Near (wrap64 (c + p)) (wrap64 (d + q)))
    (hr : Row w g (long (dX (wrap64 (a + p)) (wrap64 (c + p))) (dX (wrap64 (b + q)) (wrap64 (d + q))) + 1) (X (dX (wrap64 (a + p)) (wrap64 (c + p))) (dX (wrap64 (b + q)) (wrap64 (d + q))) (wrap64 (a + p)) (wrap64 (c + p) - wrap64 (a + p)).sign) (Y (dX (wrap64 (a + p)) (wrap64 (c + p))) (dX (wrap64 (b + q)) (wrap64 (d + q))) (wrap64 (b + q)) (wrap64 (d + q) - wrap64 (b + q)).sign)) :
    long (dX (wrap64 (a + p)) (wrap64 (c + p))) (dX (wrap64 (b + q)) (wrap64 (d + q))) = long (dX a c) (dX b d) ∧
    Row w g (long (dX a c) (dX b d) + 1) (fun k => wrap64 (X (dX a c) (dX b d) a (c - a).sign k + p)) (fun k => wrap64 (Y (dX a c) (dX b d) b (d - b).sign k + q)) := by
  have hn := @pt_near _ _ _ _ n3 n4
  have e1 : wrap64 (c + p) - wrap64 (a + p) = c - a := by unfold Near at *; unfold wrap64 at *; omega
  have e2 : wrap64 (d + q) - wrap64 (b + q) = d - b := by unfold Near at *; unfold wrap64 at *; omega
  have e3 : dX (wrap64 (a + p)) (wrap64 (c + p)) = dX a c := by unfold dX; rw [e1]
  have e4 : dX (wrap64 (b + q)) (wrap64 (d + q)) = dX b d := by unfold dX; rw [e2]
  rw [e3, e4, e1, e2] at hr hn
  refine ⟨by rw [e3, e4], hr.congr fun k hk => ?_⟩
  have h := (hn (k := k) (by omega)).1
  unfold Near at h
  unfold X Y at h ⊢
  generalize (c - a).sign * ((if dX a c < dX b d then J (dX a c) (dX b d) k else k : Nat) : Int) = t at *
  generalize (d - b).sign * ((if dX a c < dX b d then k else J (dX b d) (dX a c) k : Nat) : Int) = u at *
  unfold wrap64 at *
  omega

set_option maxHeartbeats 4000000 in
set_option maxRecDepth 100000 in
theorem lineMoved_bad (a0 b0 : Int) (a1 b1 : Int) (a2 : Int) (a3 : Int) (w : World) (w0 : I64 a0) (r0 : I64 b0) (w1 : I64 a1) (r1 : I64 b1) (w2 : I64 a2) (w3 : I64 a3) (hN : ¬ (Near a0 b0 ∧ Near a1 b1)) :
    Calls Try.prog 4 #[.agg #[.int .i64 a0, .int .i64 b0], .agg #[.int .i64 a1, .int .i64 b1], .int .i64 a2, .int .i64 a3] w fun e w' => e = .returned (.bool true) ∧ Below w.heap.size w w' := by
  have hT := Two.new w a0 b0 a1 b1
  have HN := Lib.hid hN
  clear hN
  go_enter Try.func4, Try.ntmps4
  go_wp2_with fail
  refine (cells_bad a0 b0 a1 b1 w0 r0 w1 r1 HN.out _).mono ?_
  rintro e w' ⟨rfl, hb⟩
  replace hT := hT.later hb
  obtain ⟨k1, k2, k3, k4⟩ := hT.cells
  go_wp2_with fail
  refine (cells_gen _ _ _ _ (wrap_bd _) (wrap_bd _) (wrap_bd _) (wrap_bd _) _).mono ?_
  rintro e w' ⟨v, k, rfl, hb, -⟩
  replace hT := hT.later hb
  clear k1 k2 k3 k4 hb
  obtain ⟨k1, k2, k3, k4⟩ := hT.cells
  go_wp2_with fail
  refine (cells_gen _ _ _ _ (wrap_bd _) r0 (wrap_bd _) r1 _).mono ?_
  rintro e w' ⟨v', k', rfl, hb, -⟩
  replace hT := hT.later hb
  clear k1 k2 k3 k4 hb
  obtain ⟨k1, k2, k3, k4⟩ := hT.cells
  go_wp2_with fail
  refine (cells_gen _ _ _ _ r0 w0 r1 w1 _).mono ?_
  rintro e w' ⟨v'', k'', rfl, hb, -⟩
  replace hT := hT.later hb
  clear k1 k2 k3 k4 hb
  go_wp2_with fail
  refine (lives_any _).mono ?_
  rintro e w' ⟨rfl, hb⟩
  replace hT := hT.later hb
  go_wp2_with fail
  refine (lives_any _).mono ?_
  rintro e w' ⟨rfl, hb⟩
  replace hT := hT.later hb
  go_wp2_with fail
  go_ret
  exact ⟨rfl, hT.below⟩

set_option maxHeartbeats 4000000 in
set_option maxRecDepth 100000 in
theorem lineMoved_good (a0 b0 : Int) (a1 b1 : Int) (a2 : Int) (a3 : Int) (w : World) (w2 : I64 a2) (w3 : I64 a3) (h1 : Near a0 b0) (h2 : Near a1 b1) :
    Calls Try.prog 4 #[.agg #[.int .i64 a0, .int .i64 b0], .agg #[.int .i64 a1, .int .i64 b1], .int .i64 a2, .int .i64 a3] w fun e w' => e = .returned (.bool true) ∧ Below w.heap.size w w' := by
  have hT := Two.new w a0 b0 a1 b1
  have H1 := Lib.hid h1
  have H2 := Lib.hid h2
  have n1 : Near (-a0) b0 := by unfold Near at *; omega
  have n2 : Near (-a1) b1 := by unfold Near at *; omega
  have n3 : Near b0 a0 := by unfold Near at *; omega
  have n4 : Near b1 a1 := by unfold Near at *; omega
  have N1 := Lib.hid n1
  have N2 := Lib.hid n2
  have N3 := Lib.hid n3
  have N4 := Lib.hid n4
  unfold Near at h1 h2
  obtain ⟨⟨m1, m2⟩, m3, m4⟩ := h1
  obtain ⟨⟨m5, m6⟩, m7, m8⟩ := h2
  clear n1 n2 n3 n4
  have hL2 : long (dX a0 a1) (dX b0 b1) ≤ 2000 := by unfold long dX; split <;> omega
  go_enter Try.func4, Try.ntmps4
  go_wp2_with fail
  refine (cells_use a0 b0 a1 b1 H1.out H2.out _).mono ?_
  rintro e w' ⟨g, cap, rfl, hb, hr⟩
  replace hT := hT.later hb
  clear hb
  obtain ⟨k1, k2, k3, k4⟩ := hT.cells
  go_wp2_with fail
  refine (cells_gen _ _ _ _ (wrap_bd _) (wrap_bd _) (wrap_bd _) (wrap_bd _) _).mono ?_
  rintro e w' ⟨v, k, rfl, hb, HM⟩
  have HM' : Hid (k = 1 ∨ k = 0 ∧ ∃ gm capm, v = .slice (some ⟨gm, 0, none⟩) (long (dX a0 a1) (dX b0 b1) + 1) capm ∧ Row w' gm (long (dX a0 a1) (dX b0 b1) + 1) (fun k => wrap64 (X (dX a0 a1) (dX b0 b1) a0 (a1 - a0).sign k + a2)) (fun k => wrap64 (Y (dX a0 a1) (dX b0 b1) b0 (b1 - b0).sign k + a3))) := by
    rcases HM with h | ⟨h, q1, q2, gm, capm, hv, hrm⟩
    · exact .inl h
    · obtain ⟨e1, e2⟩ := row_moved H1.out H2.out q1 q2 hrm
      rw [e1] at hv
      exact .inr ⟨h, gm, capm, hv, e2⟩
  replace hT := hT.later hb
  replace hr := hr.later hb
  clear k1 k2 k3 k4 HM
  obtain ⟨k1, k2, k3, k4⟩ := hT.cells
  have hb0 := hb
  clear hb
  go_wp2_with fail
  refine (cells_use (-a0) b0 (-a1) b1 N1.out N2.out _).mono ?_
  rintro e w1 ⟨gn, capn, rfl, hb, hrn⟩
  have hrn := row_neg hrn
  rw [show long (dX (-a0) (-a1)) (dX b0 b1) = long (dX a0 a1) (dX b0 b1) by rw [dX_neg]]
  have HM1 : Hid (k = 1 ∨ k = 0 ∧ ∃ gm capm, v = .slice (some ⟨gm, 0, none⟩) (long (dX a0 a1) (dX b0 b1) + 1) capm ∧ Row w1 gm (long (dX a0 a1) (dX b0 b1) + 1) (fun k => wrap64 (X (dX a0 a1) (dX b0 b1) a0 (a1 - a0).sign k + a2)) (fun k => wrap64 (Y (dX a0 a1) (dX b0 b1) b0 (b1 - b0).sign k + a3))) :=
    HM'.out.imp id fun ⟨h, gm, capm, hv, hrm⟩ => ⟨h, gm, capm, hv, hrm.later hb⟩
  replace hT := hT.later hb
  replace hr := hr.later hb
  clear k1 k2 k3 k4 HM' hb0 hb
  obtain ⟨k1, k2, k3, k4⟩ := hT.cells
  go_wp2_with fail
  refine (cells_use b0 a0 b1 a1 N3.out N4.out _).mono ?_
  rintro e w2' ⟨go, capo, rfl, hb, hro⟩
  have hro := row_swap hro
  rw [show long (dX b0 b1) (dX a0 a1) = long (dX a0 a1) (dX b0 b1) from long_comm _ _]
  have HM2 : Hid (k = 1 ∨ k = 0 ∧ ∃ gm capm, v = .slice (some ⟨gm, 0, none⟩) (long (dX a0 a1) (dX b0 b1) + 1) capm ∧ Row w2' gm (long (dX a0 a1) (dX b0 b1) + 1) (fun k => wrap64 (X (dX a0 a1) (dX b0 b1) a0 (a1 - a0).sign k + a2)) (fun k => wrap64 (Y (dX a0 a1) (dX b0 b1) b0 (b1 - b0).sign k + a3))) :=
    HM1.out.imp id fun ⟨h, gm, capm, hv, hrm⟩ => ⟨h, gm, capm, hv, hrm.later hb⟩
  replace hT := hT.later hb
  replace hr := hr.later hb
  replace hrn := hrn.later hb
  clear k1 k2 k3 k4 HM1 hb
  go_wp2_with fail
  refine (lives_any _).mono ?_
  rintro e w4 ⟨rfl, hb⟩
  have HM3 : Hid (k = 1 ∨ k = 0 ∧ ∃ gm capm, v = .slice (some ⟨gm, 0, none⟩) (long (dX a0 a1) (dX b0 b1) + 1) capm ∧ Row w4 gm (long (dX a0 a1) (dX b0 b1) + 1) (fun k => wrap64 (X (dX a0 a1) (dX b0 b1) a0 (a1 - a0).sign k + a2)) (fun k => wrap64 (Y (dX a0 a1) (dX b0 b1) b0 (b1 - b0).sign k + a3))) :=
    HM2.out.imp id fun ⟨h, gm, capm, hv, hrm⟩ => ⟨h, gm, capm, hv, hrm.later hb⟩
  replace hT := hT.later hb
  replace hr := hr.later hb
  replace hrn := hrn.later hb
  replace hro := hro.later hb
  clear HM2 hb
  obtain ⟨k1, k2, k3, k4⟩ := hT.cells
  have hfb : ∀ j, j ≤ long (dX a0 a1) (dX b0 b1) → (-3000 ≤ X (dX a0 a1) (dX b0 b1) a0 (a1 - a0).sign j ∧ X (dX a0 a1) (dX b0 b1) a0 (a1 - a0).sign j ≤ 3000) ∧ (-3000 ≤ Y (dX a0 a1) (dX b0 b1) b0 (b1 - b0).sign j ∧ Y (dX a0 a1) (dX b0 b1) b0 (b1 - b0).sign j ≤ 3000) :=
    fun j hj => ⟨XB _ _ _ _ j (sign_bd _) ⟨m1, m2⟩ (by omega), YB _ _ _ _ j (sign_bd _) ⟨m3, m4⟩ (by omega)⟩
  generalize X (dX a0 a1) (dX b0 b1) a0 (a1 - a0).sign = f at *
  generalize Y (dX a0 a1) (dX b0 b1) b0 (b1 - b0).sign = h at *
  generalize long (dX a0 a1) (dX b0 b1) = L at *
  go_wp2_with fail
  · go_loopw [159] (fun i wr => ∃ j : Nat, j ≤ L + 1 ∧ i = .int .i64 (j : Int) ∧ Two w wr a0 b0 a1 b1 ∧ Row wr g (L + 1) f h ∧ Row wr gn (L + 1) (fun k => -(f k)) h ∧ Row wr go (L + 1) h f ∧ Hid (k = 1 ∨ k = 0 ∧ ∃ gm capm, v = .slice (some ⟨gm, 0, none⟩) (L + 1) capm ∧ Row wr gm (L + 1) (fun k => wrap64 (f k + a2)) (fun k => wrap64 (h k + a3)))) (fun i _ => L + 1 - (intOf i).toNat)
    case atStart => exact ⟨0, Nat.zero_le _, rfl, hT, hr, hrn, hro, HM3⟩
    case round =>
      clear hT hr hrn hro HM3 k1 k2 k3 k4
      obtain ⟨j, hj, rfl, hT, hr, hrn, hro, HM⟩ := hrel
      by_cases hlt : j < L + 1
      · obtain ⟨q1, q2⟩ := hr.2 j hlt
        obtain ⟨xb, yb⟩ := hfb j (by omega)
        have hbA : Below wr.heap.size wr (wr.alloc (.cells #[.int .i64 (f j), .int .i64 (h j)] 23)) := (Below.refl _ _).alloc (Nat.le_refl _) _
        have hT2 := hT.later hbA
        have hr2 := hr.later hbA
        have hrn2 := hrn.later hbA
        have hro2 := hro.later hbA
        obtain ⟨q3, q4⟩ := hrn2.2 j hlt
        obtain ⟨q5, q6⟩ := hro2.2 j hlt
        replace q3 : (wr.alloc (.cells #[.int .i64 (f j), .int .i64 (h j)] 23)).cell? ⟨gn, j * 2, none⟩ = some (.int .i64 (-(f j))) := q3
        have q7 := cell_new2 wr (.int .i64 (f j)) (.int .i64 (h j)) _ rfl 0
        have q8 := cell_new2 wr (.int .i64 (f j)) (.int .i64 (h j)) _ rfl 1
        simp only [List.getElem?_cons_zero, List.getElem?_cons_succ] at q7 q8
        have HM4 : Hid (k = 1 ∨ k = 0 ∧ ∃ gm capm, v = .slice (some ⟨gm, 0, none⟩) (L + 1) capm ∧ Row (wr.alloc (.cells #[.int .i64 (f j), .int .i64 (h j)] 23)) gm (L + 1) (fun k => wrap64 (f k + a2)) (fun k => wrap64 (h k + a3))) :=
          HM.out.imp id fun ⟨h, gm, capm, hv, hrm⟩ => ⟨h, gm, capm, hv, hrm.later hbA⟩
        have t1 : IntKind.i64.wrap (-(f j)) = -(f j) := by rw [IntKind.wrap_i64]; omega
        have t2 : wrap64 (-(f j)) = -(f j) := by unfold wrap64; omega
        have t3 : (0 : Int) ≤ (j : Int) := by omega
        have t4 : (j : Int) < (L : Int) + 1 := by omega
        have t5 : ((j : Int)).toNat = j := by omega
        have t6 : IntKind.i64.wrap (f j + a2) = wrap64 (f j + a2) := by rw [IntKind.wrap_i64]; unfold wrap64; rfl
        have t7 : IntKind.i64.wrap (h j + a3) = wrap64 (h j + a3) := by rw [IntKind.wrap_i64]; unfold wrap64; rfl
        clear hbA
        generalize hfx : f j = x at q1 q3 q6 q7 q8 t1 t2 t6 xb hT2 hr2 hrn2 hro2 HM4 q4 q5
        generalize hhy : h j = y at q2 q4 q5 q7 q8 t7 yb hT2 hr2 hrn2 hro2 HM4 q3 q6
        obtain ⟨mx, HX⟩ : ∃ m, Hid (wrap64 (x + a2) = m) := ⟨_, Lib.hid rfl⟩
        obtain ⟨my, HY⟩ : ∃ m, Hid (wrap64 (y + a3) = m) := ⟨_, Lib.hid rfl⟩
        rw [HX.out] at t6
        rw [HY.out] at t7
        go_wp2_with fail
        go_quiet (fail)
        rcases HM4.out with rfl | ⟨rfl, gm, capm, rfl, hrm⟩
        · go_wp2_with fail
          go_quiet (fail)
          go_wp2_with fail
          exact ⟨⟨j + 1, by omega, by go_num, ⟨hT2.one, hT2.two, below_drewN hT2.below _⟩, hr2, hrn2, hro2, by first | exact .inl rfl | exact .inl trivial | (show _ ∨ _; simp)⟩, by simp [intOf]; omega⟩
        · obtain ⟨p1, p2⟩ := hrm.2 j hlt
          replace p1 : (wr.alloc (.cells #[.int .i64 x, .int .i64 y] 23)).cell? ⟨gm, j * 2, none⟩ = some (.int .i64 (wrap64 (f j + a2))) := p1
          replace p2 : (wr.alloc (.cells #[.int .i64 x, .int .i64 y] 23)).cell? ⟨gm, j * 2 + 1, none⟩ = some (.int .i64 (wrap64 (h j + a3))) := p2
          rw [hfx, HX.out] at p1
          rw [hhy, HY.out] at p2
          have HR : Hid (Row (wr.alloc (.cells #[.int .i64 x, .int .i64 y] 23)) gm (L + 1) (fun k => wrap64 (f k + a2)) (fun k => wrap64 (h k + a3))) := hrm
          clear hrm hfx hhy
          go_wp2_with fail
          go_quiet (fail)
          go_wp2_with fail
          exact ⟨⟨j + 1, by omega, by go_num, ⟨hT2.one, hT2.two, below_drewN hT2.below _⟩, hr2, hrn2, hro2, by first | exact .inr ⟨rfl, gm, capm, rfl, HR.out⟩ | exact .inr ⟨trivial, gm, capm, rfl, HR.out⟩⟩, by simp [intOf]; omega⟩
      · go_wp2_with fail
        go_ret
        exact ⟨rfl, hT.below⟩
  · go_loopw [159] (fun i wr => ∃ j : Nat, j ≤ L + 1 ∧ i = .int .i64 (j : Int) ∧ Two w wr a0 b0 a1 b1 ∧ Row wr g (L + 1) f h ∧ Row wr gn (L + 1) (fun k => -(f k)) h ∧ Row wr go (L + 1) h f ∧ Hid (k = 1 ∨ k = 0 ∧ ∃ gm capm, v = .slice (some ⟨gm, 0, none⟩) (L + 1) capm ∧ Row wr gm (L + 1) (fun k => wrap64 (f k + a2)) (fun k => wrap64 (h k + a3)))) (fun i _ => L + 1 - (intOf i).toNat)
    case atStart => exact ⟨0, Nat.zero_le _, rfl, hT, hr, hrn, hro, HM3⟩
    case round =>
      clear hT hr hrn hro HM3 k1 k2 k3 k4
      obtain ⟨j, hj, rfl, hT, hr, hrn, hro, HM⟩ := hrel
      by_cases hlt : j < L + 1
      · obtain ⟨q1, q2⟩ := hr.2 j hlt
        obtain ⟨xb, yb⟩ := hfb j (by omega)
        have hbA : Below wr.heap.size wr (wr.alloc (.cells #[.int .i64 (f j), .int .i64 (h j)] 23)) := (Below.refl _ _).alloc (Nat.le_refl _) _
        have hT2 := hT.later hbA
        have hr2 := hr.later hbA
        have hrn2 := hrn.later hbA
        have hro2 := hro.later hbA
        obtain ⟨q3, q4⟩ := hrn2.2 j hlt
        obtain ⟨q5, q6⟩ := hro2.2 j hlt
        replace q3 : (wr.alloc (.cells #[.int .i64 (f j), .int .i64 (h j)] 23)).cell? ⟨gn, j * 2, none⟩ = some (.int .i64 (-(f j))) := q3
        have q7 := cell_new2 wr (.int .i64 (f j)) (.int .i64 (h j)) _ rfl 0
        have q8 := cell_new2 wr (.int .i64 (f j)) (.int .i64 (h j)) _ rfl 1
        simp only [List.getElem?_cons_zero, List.getElem?_cons_succ] at q7 q8
        have HM4 : Hid (k = 1 ∨ k = 0 ∧ ∃ gm capm, v = .slice (some ⟨gm, 0, none⟩) (L + 1) capm ∧ Row (wr.alloc (.cells #[.int .i64 (f j), .int .i64 (h j)] 23)) gm (L + 1) (fun k => wrap64 (f k + a2)) (fun k => wrap64 (h k + a3))) :=
          HM.out.imp id fun ⟨h, gm, capm, hv, hrm⟩ => ⟨h, gm, capm, hv, hrm.later hbA⟩
        have t1 : IntKind.i64.wrap (-(f j)) = -(f j) := by rw [IntKind.wrap_i64]; omega
        have t2 : wrap64 (-(f j)) = -(f j) := by unfold wrap64; omega
        have t3 : (0 : Int) ≤ (j : Int) := by omega
        have t4 : (j : Int) < (L : Int) + 1 := by omega
        have t5 : ((j : Int)).toNat = j := by omega
        have t6 : IntKind.i64.wrap (f j + a2) = wrap64 (f j + a2) := by rw [IntKind.wrap_i64]; unfold wrap64; rfl
        have t7 : IntKind.i64.wrap (h j + a3) = wrap64 (h j + a3) := by rw [IntKind.wrap_i64]; unfold wrap64; rfl
        clear hbA
        generalize hfx : f j = x at q1 q3 q6 q7 q8 t1 t2 t6 xb hT2 hr2 hrn2 hro2 HM4 q4 q5
        generalize hhy : h j = y at q2 q4 q5 q7 q8 t7 yb hT2 hr2 hrn2 hro2 HM4 q3 q6
        obtain ⟨mx, HX⟩ : ∃ m, Hid (wrap64 (x + a2) = m) := ⟨_, Lib.hid rfl⟩
        obtain ⟨my, HY⟩ : ∃ m, Hid (wrap64 (y + a3) = m) := ⟨_, Lib.hid rfl⟩
        rw [HX.out] at t6
        rw [HY.out] at t7
        go_wp2_with fail
        go_quiet (fail)
        rcases HM4.out with rfl | ⟨rfl, gm, capm, rfl, hrm⟩
        · go_wp2_with fail
          go_quiet (fail)
          go_wp2_with fail
          exact ⟨⟨j + 1, by omega, by go_num, ⟨hT2.one, hT2.two, below_drewN hT2.below _⟩, hr2, hrn2, hro2, by first | exact .inl rfl | exact .inl trivial | (show _ ∨ _; simp)⟩, by simp [intOf]; omega⟩
        · obtain ⟨p1, p2⟩ := hrm.2 j hlt
          replace p1 : (wr.alloc (.cells #[.int .i64 x, .int .i64 y] 23)).cell? ⟨gm, j * 2, none⟩ = some (.int .i64 (wrap64 (f j + a2))) := p1
          replace p2 : (wr.alloc (.cells #[.int .i64 x, .int .i64 y] 23)).cell? ⟨gm, j * 2 + 1, none⟩ = some (.int .i64 (wrap64 (h j + a3))) := p2
          rw [hfx, HX.out] at p1
          rw [hhy, HY.out] at p2
          have HR : Hid (Row (wr.alloc (.cells #[.int .i64 x, .int .i64 y] 23)) gm (L + 1) (fun k => wrap64 (f k + a2)) (fun k => wrap64 (h k + a3))) := hrm
          clear hrm hfx hhy
          go_wp2_with fail
          go_quiet (fail)
          go_wp2_with fail
          exact ⟨⟨j + 1, by omega, by go_num, ⟨hT2.one, hT2.two, below_drewN hT2.below _⟩, hr2, hrn2, hro2, by first | exact .inr ⟨rfl, gm, capm, rfl, HR.out⟩ | exact .inr ⟨trivial, gm, capm, rfl, HR.out⟩⟩, by simp [intOf]; omega⟩
      · go_wp2_with fail
        go_ret
        exact ⟨rfl, hT.below⟩

theorem lineMoved_any (a0 b0 : Int) (a1 b1 : Int) (a2 : Int) (a3 : Int) (w : World) (w0 : (Lit.int .i64 a0).wf = true) (r0 : (Lit.int .i64 b0).wf = true) (w1 : (Lit.int .i64 a1).wf = true) (r1 : (Lit.int .i64 b1).wf = true) (w2 : (Lit.int .i64 a2).wf = true) (w3 : (Lit.int .i64 a3).wf = true) :
    Calls Try.prog 4 #[.agg #[.int .i64 a0, .int .i64 b0], .agg #[.int .i64 a1, .int .i64 b1], .int .i64 a2, .int .i64 a3] w fun e w' => e = .returned (.bool true) ∧ Below w.heap.size w w' := by
  simp [Lit.wf, IntKind.min, IntKind.max, IntKind.signed, IntKind.bits] at w0 r0 w1 r1 w2 w3
  by_cases h : Near a0 b0 ∧ Near a1 b1
  · exact lineMoved_good a0 b0 a1 b1 a2 a3 w w2 w3 h.1 h.2
  · exact lineMoved_bad a0 b0 a1 b1 a2 a3 w w0 r0 w1 r1 w2 w3 h
end Go.Proofs.Ythbadfnonjkbhaa.Line
