/-
  LineWay.
-/
import Derived.Test.YthbadfnonjkbhaaLineL
set_option linter.unusedVariables false
namespace Go.Proofs.Ythbadfnonjkbhaa.Line
open Go.RowKit Go.Proofs.Ythbadfnonjkbhaa

/-- How many steps sideways, and how many the other way. -/
def MX (dx dy k : Nat) : Nat := if dx < dy then J dx dy k else k
def MY (dx dy k : Nat) : Nat := if dx < dy then k else J dy dx k
theorem J_top {s l i : Nat} (hi : i ≤ l) : J s l i ≤ s := by
  by_cases hl : 0 < l
  · have h := (J_spec s l i hl).1
    have h2 := Nat.mul_le_mul_right s hi
    apply Nat.le_of_not_lt
    intro hlt
    have h3 := Nat.mul_le_mul_left l hlt
    rw [Nat.mul_succ] at h3
    omega
  · obtain rfl : l = 0 := by omega
    simp [J]
theorem J_lead {s l i : Nat} (hs : s ≤ l) (hi : i ≤ l) (hl : 0 < l) : i + s ≤ l + J s l i := by
  have h := (J_spec s l i hl).2
  apply Nat.le_of_not_lt
  intro hlt
  obtain ⟨u, rfl⟩ : ∃ u, l = i + u := ⟨l - i, by omega⟩
  obtain ⟨v, hv⟩ : ∃ v, s = u + v := ⟨s - u, by omega⟩
  subst hv
  generalize J (u + v) (i + u) i = j at *
  have h1 : j + 1 ≤ v := by omega
  have h2 := Nat.mul_le_mul_left (i + u) h1
  have e1 : (i + u) * (j + 1) = (i + u) * j + (i + u) := Nat.mul_succ ..
  have e2 : (i + u) * v = i * v + u * v := Nat.add_mul ..
  have e3 : i * (u + v) = i * u + i * v := Nat.mul_add ..
  have h3 : u * v ≤ u * i := Nat.mul_le_mul_left u (by omega)
  have e4 : u * i = i * u := Nat.mul_comm ..
  omega
theorem mtop {dx dy k : Nat} (hk : k ≤ long dx dy) : MX dx dy k ≤ dx ∧ MY dx dy k ≤ dy ∧ long (dx - MX dx dy k) (dy - MY dx dy k) = long dx dy - k := by
  unfold MX MY
  by_cases h : dx < dy
  · have hL : long dx dy = dy := if_pos h
    rw [hL] at hk ⊢
    rw [if_pos h, if_pos h]
    have h1 := J_top (s := dx) hk
    have h2 := J_lead (s := dx) (by omega) hk (by omega)
    refine ⟨h1, hk, ?_⟩
    unfold long; split <;> omega
  · have hL : long dx dy = dx := if_neg h
    rw [hL] at hk ⊢
    rw [if_neg h, if_neg h]
    have h1 := J_top (s := dy) hk
    refine ⟨hk, h1, ?_⟩
    by_cases h0 : 0 < dx
    · have h2 := J_lead (s := dy) (by omega) hk h0
      unfold long; split <;> omega
    · unfold long; split <;> omega
/-- Where it is and what is left, one way. -/
theorem left_of (a c : Int) (m : Nat) (hm : m ≤ dX a c) : dX (a + (c - a).sign * (m : Int)) c = dX a c - m ∧ (a ≤ a + (c - a).sign * (m : Int) ∧ a + (c - a).sign * (m : Int) ≤ c ∨ c ≤ a + (c - a).sign * (m : Int) ∧ a + (c - a).sign * (m : Int) ≤ a) := by
  unfold dX at *
  rcases Int.lt_trichotomy (c - a) 0 with h | h | h
  · rw [Int.sign_eq_neg_one_of_neg h]; omega
  · have : c = a := by omega
    subst this
    have : m = 0 := by omega
    subst this
    simp
  · rw [Int.sign_eq_one_of_pos h]; omega
theorem X_eq (a c : Int) (dx dy k : Nat) (s : Int) : X dx dy a s k = a + s * (MX dx dy k : Int) := rfl
theorem Y_eq (a c : Int) (dx dy k : Nat) (s : Int) : Y dx dy a s k = a + s * (MY dx dy k : Int) := rfl
theorem pt_near {a b c d : Int} (h1 : Near a b) (h2 : Near c d) {k : Nat} (hk : k ≤ long (dX a c) (dX b d)) :
    Near (X (dX a c) (dX b d) a (c - a).sign k) (Y (dX a c) (dX b d) b (d - b).sign k) ∧
    long (dX (X (dX a c) (dX b d) a (c - a).sign k) c) (dX (Y (dX a c) (dX b d) b (d - b).sign k) d) = long (dX a c) (dX b d) - k := by
  obtain ⟨m1, m2, m3⟩ := mtop hk
  obtain ⟨l1, l2⟩ := left_of a c _ m1
  obtain ⟨l3, l4⟩ := left_of b d _ m2
  unfold Near at *
  rw [X_eq a c, Y_eq b d, l1, l3]
  refine ⟨?_, m3⟩
  generalize a + (c - a).sign * (MX (dX a c) (dX b d) k : Int) = x at *
  generalize b + (d - b).sign * (MY (dX a c) (dX b d) k : Int) = y at *
  omega
theorem sign_abs (n : Int) (h : 0 < n.natAbs) : n.sign = 1 ∨ n.sign = -1 := by
  rcases Int.lt_trichotomy n 0 with h' | h' | h'
  · right; exact Int.sign_eq_neg_one_of_neg h'
  · omega
  · left; exact Int.sign_eq_one_of_pos h'
theorem one_step {a b c d : Int} {k : Nat} (hk : k < long (dX a c) (dX b d)) :
    long (dX (X (dX a c) (dX b d) a (c - a).sign k) (X (dX a c) (dX b d) a (c - a).sign (k + 1))) (dX (Y (dX a c) (dX b d) b (d - b).sign k) (Y (dX a c) (dX b d) b (d - b).sign (k + 1))) = 1 := by
  have hst := step (i := k) (a := a) (sx := (c - a).sign) (b := b) (sy := (d - b).sign) (show 0 < long (dX a c) (dX b d) by omega)
  have s1 := sign_bd (c - a)
  have s2 := sign_bd (d - b)
  have a1 : (dX a c) ≠ 0 → (c - a).sign = 1 ∨ (c - a).sign = -1 := fun h => sign_abs (c - a) (Nat.pos_of_ne_zero h)
  have a2 : (dX b d) ≠ 0 → (d - b).sign = 1 ∨ (d - b).sign = -1 := fun h => sign_abs (d - b) (Nat.pos_of_ne_zero h)
  have a3 : dX a c < dX b d ∨ ¬ dX a c < dX b d := by omega
  have a4 : long (dX a c) (dX b d) = if dX a c < dX b d then dX b d else dX a c := rfl
  generalize (c - a).sign = sx at *
  generalize (d - b).sign = sy at *
  generalize X (dX a c) (dX b d) a sx k = x at *
  generalize X (dX a c) (dX b d) a sx (k + 1) = x' at *
  generalize Y (dX a c) (dX b d) b sy k = y at *
  generalize Y (dX a c) (dX b d) b sy (k + 1) = y' at *
  generalize dX a c = dx at *
  generalize dX b d = dy at *
  by_cases ht : (long dx dy : Int) ≤ off (short dx dy) (long dx dy) k + 2 * (short dx dy : Int)
  · obtain ⟨q1, q2, _⟩ := hst.1 ht
    clear hst ht
    unfold long dX
    split at a4 <;> split <;> omega
  · obtain ⟨_, q1, q2⟩ := hst.2 ht
    clear hst ht
    unfold long dX
    rcases a3 with h | h
    · obtain ⟨q3, q4⟩ := q1 h
      rw [if_pos h] at a4
      split <;> omega
    · obtain ⟨q3, q4⟩ := q2 h
      rw [if_neg h] at a4
      split <;> omega
theorem pt_end (a b c d : Int) : X (dX a c) (dX b d) a (c - a).sign (long (dX a c) (dX b d)) = c ∧ Y (dX a c) (dX b d) b (d - b).sign (long (dX a c) (dX b d)) = d := by
  have e1 : (c - a).sign * (dX a c : Int) = c - a := Int.sign_mul_natAbs _
  have e2 : (d - b).sign * (dX b d : Int) = d - b := Int.sign_mul_natAbs _
  unfold X Y long
  by_cases h : dX a c < dX b d
  · simp only [if_pos h]
    rw [J_end _ _ (by omega)]
    omega
  · simp only [if_neg h]
    by_cases h0 : 0 < dX a c
    · rw [J_end _ _ h0]
      omega
    · have h1 : dX a c = 0 := by omega
      have h2 : dX b d = 0 := by omega
      rw [h1] at e1 ⊢
      rw [h2] at e2 ⊢
      simp [J]
      omega

theorem held {wr wx : World} {g k : Nat} {x y x' y' : Value} (h : Below wr.heap.size wr wr ∧ wr.cell? ⟨g, k * 2, none⟩ = some x ∧ wr.cell? ⟨g, k * 2 + 1, none⟩ = some y ∧ wr.cell? ⟨g, (k + 1) * 2, none⟩ = some x' ∧ wr.cell? ⟨g, (k + 1) * 2 + 1, none⟩ = some y') (hg : g < wr.heap.size) (hb : Below wr.heap.size wr wx) :
    Below wr.heap.size wr wx ∧ wx.cell? ⟨g, k * 2, none⟩ = some x ∧ wx.cell? ⟨g, k * 2 + 1, none⟩ = some y ∧ wx.cell? ⟨g, (k + 1) * 2, none⟩ = some x' ∧ wx.cell? ⟨g, (k + 1) * 2 + 1, none⟩ = some y' :=
  ⟨hb, cell_below hb h.2.1 hg, cell_below hb h.2.2.1 hg, cell_below hb h.2.2.2.1 hg, cell_below hb h.2.2.2.2 hg⟩
theorem held2 {wr wx : World} {g k B : Nat} {x y x' y' : Value} (h : Below wr.heap.size wr wr ∧ wr.cell? ⟨g, (k + 1) * 2, none⟩ = some x' ∧ wr.cell? ⟨g, (k + 1) * 2 + 1, none⟩ = some y' ∧ wr.cell? ⟨B, 0, none⟩ = some x ∧ wr.cell? ⟨B, 1, none⟩ = some y) (hg : g < wr.heap.size) (hB : B < wr.heap.size) (hb : Below wr.heap.size wr wx) :
    Below wr.heap.size wr wx ∧ wx.cell? ⟨g, (k + 1) * 2, none⟩ = some x' ∧ wx.cell? ⟨g, (k + 1) * 2 + 1, none⟩ = some y' ∧ wx.cell? ⟨B, 0, none⟩ = some x ∧ wx.cell? ⟨B, 1, none⟩ = some y :=
  ⟨hb, cell_below hb h.2.1 hg, cell_below hb h.2.2.1 hg, cell_below hb h.2.2.2.1 hB, cell_below hb h.2.2.2.2 hB⟩
set_option maxHeartbeats 4000000 in
set_option maxRecDepth 100000 in
theorem lineWay_any (a0 b0 : Int) (a1 b1 : Int) (w : World) (w0 : (Lit.int .i64 a0).wf = true) (r0 : (Lit.int .i64 b0).wf = true) (w1 : (Lit.int .i64 a1).wf = true) (r1 : (Lit.int .i64 b1).wf = true) :
    Calls Try.prog 8 #[.agg #[.int .i64 a0, .int .i64 b0], .agg #[.int .i64 a1, .int .i64 b1]] w fun e w' => e = .returned (.bool true) ∧ Below w.heap.size w w' := by
  simp [Lit.wf, IntKind.min, IntKind.max, IntKind.signed, IntKind.bits] at w0 r0 w1 r1
  have hT0 := Two.new w a0 b0 a1 b1
  by_cases hN : Near a0 b0 ∧ Near a1 b1
  · obtain ⟨h1, h2⟩ := hN
    go_enter Try.func8, Try.ntmps8
    go_wp2_with fail
    refine (cells_use a0 b0 a1 b1 h1 h2 _).mono ?_
    rintro e w2 ⟨g, cap, rfl, hb, hr⟩
    have hT := hT0.later hb
    clear hb hT0
    obtain ⟨k1, k2, k3, k4⟩ := hT.cells
    go_wp2_with fail
    refine (apart_any a0 b0 a1 b1 h1 h2 _).mono ?_
    rintro e w3 ⟨rfl, hb⟩
    replace hT := hT.later hb
    replace hr := hr.later hb
    clear k1 k2 k3 k4 hb
    obtain ⟨k1, k2, k3, k4⟩ := hT.cells
    go_wp2_with fail
    refine (lives_any _).mono ?_
    rintro e w4 ⟨rfl, hb⟩
    replace hT := hT.later hb
    replace hr := hr.later hb
    clear k1 k2 k3 k4 hb
    obtain ⟨k1, k2, k3, k4⟩ := hT.cells
    have hLd : (long (dX a0 a1) (dX b0 b1) : Int) ≤ (dX a0 a1 : Int) + (dX b0 b1 : Int) ∧ (dX a0 a1 : Int) + (dX b0 b1 : Int) ≤ 2 * (long (dX a0 a1) (dX b0 b1) : Int) ∧ long (dX a0 a1) (dX b0 b1) ≤ 2000 := by
      unfold Near at h1 h2; unfold long dX; split <;> omega
    have h1 := Lib.hid h1
    have h2 := Lib.hid h2
    have he := pt_end a0 b0 a1 b1
    have q0 := hr.2 0 (by omega)
    have qL := hr.2 (long (dX a0 a1) (dX b0 b1)) (by omega)
    rw [X_zero, Y_zero] at q0
    rw [he.1, he.2] at qL
    simp only [Nat.zero_mul, Nat.zero_add] at q0
    obtain ⟨L, HL⟩ : ∃ L, Hid (long (dX a0 a1) (dX b0 b1) = L) := ⟨_, Lib.hid rfl⟩
    obtain ⟨n, HN⟩ : ∃ n : Nat, Hid (dX a0 a1 + dX b0 b1 = n) := ⟨_, Lib.hid rfl⟩
    have hn : (dX a0 a1 : Int) + (dX b0 b1 : Int) = (n : Int) := by have := HN.out; omega
    rw [hn, HL.out] at hLd ⊢
    rw [HL.out] at hr qL
    obtain ⟨l1, l2, l3⟩ := hLd
    obtain ⟨q00, q01⟩ := q0
    obtain ⟨qL0, qL1⟩ := qL
    clear hn he
    have hw1 : IntKind.i64.wrap ((L : Int) + 1) = (L : Int) + 1 := by rw [IntKind.wrap_i64]; omega
    have hw2 : IntKind.i64.wrap (2 * (L : Int)) = 2 * (L : Int) := by rw [IntKind.wrap_i64]; omega
    have hne : (((L : Int) + 1) != ((L : Int) + 1)) = false := by simp
    have hne2 : (((L + 1 : Nat) : Int) != ((L : Int) + 1)) = false := by simp
    have ht1 : decide ((n : Int) < (L : Int)) = false := decide_eq_false (by omega)
    have ht2 : decide (2 * (L : Int) < (n : Int)) = false := decide_eq_false (by omega)
    have ht3 : decide ((n : Int) > 2 * (L : Int)) = false := decide_eq_false (by omega)
    have htn : ((L : Int)).toNat = L := by omega
    have hl0 : (0 : Int) ≤ (L : Int) ∧ (L : Int) < ((L + 1 : Nat) : Int) := by omega
    have hl1 : (0 : Int) < ((L + 1 : Nat) : Int) := by omega
    have hl2 : (L : Int) < (L : Int) + 1 := by omega
    have hl3 : (0 : Int) ≤ (L : Int) := by omega
    have hl4 : (0 : Int) < (L : Int) + 1 := by omega
    have ht4 : decide (n < L) = false := decide_eq_false (by omega)
    have ht5 : decide (2 * L < n) = false := decide_eq_false (by omega)
    have ht6 : (!decide (n < L)) = true := by rw [ht4]; rfl
    go_wp2_with fail
    go_quiet (fail)
    have hT' : Two w (w4.drewN nq) a0 b0 a1 b1 := ⟨hT.one, hT.two, below_drewN hT.below nq⟩
    have hr' : Row (w4.drewN nq) g (L + 1) (X (dX a0 a1) (dX b0 b1) a0 (a1 - a0).sign) (Y (dX a0 a1) (dX b0 b1) b0 (b1 - b0).sign) := hr
    clear hT hr k1 k2 k3 k4 q00 q01 qL0 qL1 hne hne2 ht1 ht2 ht3 hl0 hl1 ht4 ht5 ht6 hw2
    go_wp2_with fail
    go_loopw [10] (fun i wr => ∃ k : Nat, k ≤ L ∧ i = .int .i64 ((k : Int) + 1) ∧ Two w wr a0 b0 a1 b1 ∧ Row wr g (L + 1) (X (dX a0 a1) (dX b0 b1) a0 (a1 - a0).sign) (Y (dX a0 a1) (dX b0 b1) b0 (b1 - b0).sign)) (fun i _ => L + 1 - (intOf i).toNat)
    case atStart => exact ⟨0, Nat.zero_le _, rfl, hT', hr'⟩
    case round =>
      obtain ⟨k, hk, rfl, hT, hr⟩ := hrel
      by_cases hlt : k < L
      · obtain ⟨k1, k2, k3, k4⟩ := hT.cells
        obtain ⟨q1, q2⟩ := hr.2 k (by omega)
        obtain ⟨q3, q4⟩ := hr.2 (k + 1) (by omega)
        have hs := one_step (a := a0) (b := b0) (c := a1) (d := b1) (k := k) (by rw [HL.out]; exact hlt)
        obtain ⟨p1, p2⟩ := pt_near h1.out h2.out (k := k) (by rw [HL.out]; omega)
        obtain ⟨p3, p4⟩ := pt_near h1.out h2.out (k := k + 1) (by rw [HL.out]; omega)
        rw [HL.out] at p4
        generalize X (dX a0 a1) (dX b0 b1) a0 (a1 - a0).sign k = x at q1 hs p1
        generalize Y (dX a0 a1) (dX b0 b1) b0 (b1 - b0).sign k = y at q2 hs p1
        generalize X (dX a0 a1) (dX b0 b1) a0 (a1 - a0).sign (k + 1) = x' at q3 hs p3 p4
        generalize Y (dX a0 a1) (dX b0 b1) b0 (b1 - b0).sign (k + 1) = y' at q4 hs p3 p4
        have hw3 : IntKind.i64.wrap ((k : Int) + 1 - 1) = (k : Int) := by rw [IntKind.wrap_i64]; omega
        have hw4 : ((k : Int)).toNat = k := by omega
        have hw5 : ((k : Int) + 1).toNat = k + 1 := by omega
        have hw6 : (k : Int) < (L : Int) + 1 := by omega
        have hw7 : (k : Int) + 1 < (L : Int) + 1 := by omega
        have hw8 : (0 : Int) ≤ (k : Int) + 1 := by omega
        have hw9 : (0 : Int) ≤ (k : Int) := by omega
        have P1 := Lib.hid p1
        have P3 := Lib.hid p3
        have P4 := Lib.hid p4
        have HS := Lib.hid hs
        clear p1 p2 p3 p4 hs
        have hw10 : IntKind.i64.wrap (k : Int) = (k : Int) := by rw [IntKind.wrap_i64]; omega
        have hg := hr.1
        have hb : Below wr.heap.size wr wr ∧ wr.cell? ⟨g, k * 2, none⟩ = some (.int .i64 x) ∧ wr.cell? ⟨g, k * 2 + 1, none⟩ = some (.int .i64 y) ∧ wr.cell? ⟨g, (k + 1) * 2, none⟩ = some (.int .i64 x') ∧ wr.cell? ⟨g, (k + 1) * 2 + 1, none⟩ = some (.int .i64 y') := ⟨Below.refl _ _, q1, q2, q3, q4⟩
        go_wp2_with fail
        go_region_held3 (fun wx => Below wr.heap.size wr wx ∧ wx.cell? ⟨g, k * 2, none⟩ = some (.int .i64 x) ∧ wx.cell? ⟨g, k * 2 + 1, none⟩ = some (.int .i64 y) ∧ wx.cell? ⟨g, (k + 1) * 2, none⟩ = some (.int .i64 x') ∧ wx.cell? ⟨g, (k + 1) * 2 + 1, none⟩ = some (.int .i64 y')) (first | exact ⟨hb.1.drew, hb.2⟩ | assumption | exact held hb (by assumption) (by assumption)) ((go_at_call 22; refine (apart_any _ _ _ _ P1.out P3.out _).mono ?_; rintro e w' ⟨rfl, hb2⟩; have hb3 := held hb hg (hb.1.drew.trans (hb2.mono hb.1.size))))
        rw [HS.out]
        have hT2 := hT.later hb3.1
        have hr2 := hr.later hb3.1
        clear hT hr hb k1 k2 k3 k4 q1 q2 q3 q4
        obtain ⟨k1, k2, k3, k4⟩ := hT2.cells
        have hb : Below w'.heap.size w' w' ∧ w'.cell? ⟨g, (k + 1) * 2, none⟩ = some (.int .i64 x') ∧ w'.cell? ⟨g, (k + 1) * 2 + 1, none⟩ = some (.int .i64 y') ∧ w'.cell? ⟨w.heap.size + 1, 0, none⟩ = some (.int .i64 a1) ∧ w'.cell? ⟨w.heap.size + 1, 1, none⟩ = some (.int .i64 b1) := ⟨Below.refl _ _, hb3.2.2.2.1, hb3.2.2.2.2, k3, k4⟩
        have hg2 := hr2.1
        have hg3 := hT2.two.lt
        clear hb3
        go_wp2_with fail
        go_region_held3 (fun wx => Below w'.heap.size w' wx ∧ wx.cell? ⟨g, (k + 1) * 2, none⟩ = some (.int .i64 x') ∧ wx.cell? ⟨g, (k + 1) * 2 + 1, none⟩ = some (.int .i64 y') ∧ wx.cell? ⟨w.heap.size + 1, 0, none⟩ = some (.int .i64 a1) ∧ wx.cell? ⟨w.heap.size + 1, 1, none⟩ = some (.int .i64 b1)) (first | exact ⟨hb.1.drew, hb.2⟩ | assumption) ((go_at_call 22; refine (apart_any _ _ _ _ P3.out h2.out _).mono ?_; rintro e w'' ⟨rfl, hb2⟩; have hb3 := held2 hb hg2 hg3 (hb.1.drew.trans (hb2.mono hb.1.size))))
        have P4' : ((long (dX x' a1) (dX y' b1) : Nat) : Int) = (L : Int) - ((k : Int) + 1) := by rw [P4.out]; omega
        rw [P4']
        have hT3 := hT2.later hb3.1
        have hr3 := hr2.later hb3.1
        clear hb hb3 hT2 hr2 k1 k2 k3 k4
        go_wp2_with fail
        exact ⟨⟨k + 1, by omega, by go_num, hT3, hr3⟩, by simp [intOf]; omega⟩
      · obtain rfl : k = L := by omega
        go_wp2_with fail
        go_ret
        exact ⟨rfl, hT.below⟩
  · have HN := Lib.hid hN
    clear hN
    go_enter Try.func8, Try.ntmps8
    go_wp2_with fail
    refine (cells_bad a0 b0 a1 b1 (by omega) (by omega) (by omega) (by omega) HN.out _).mono ?_
    rintro e w2 ⟨rfl, hb⟩
    replace hT0 := hT0.later hb
    obtain ⟨k1, k2, k3, k4⟩ := hT0.cells
    go_wp2_with fail
    refine (apart_bad a0 b0 a1 b1 (by omega) (by omega) (by omega) (by omega) HN.out _).mono ?_
    rintro e w2' ⟨rfl, hb⟩
    replace hT0 := hT0.later hb
    go_wp2_with fail
    refine (lives_any _).mono ?_
    rintro e w3 ⟨rfl, hb⟩
    replace hT0 := hT0.later hb
    go_wp2_with fail
    refine (lives_any _).mono ?_
    rintro e w4 ⟨rfl, hb⟩
    replace hT0 := hT0.later hb
    go_wp2_with fail
    go_ret
    exact ⟨rfl, hT0.below⟩
end Go.Proofs.Ythbadfnonjkbhaa.Line
