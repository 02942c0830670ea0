/-
  The walk of line.Cells.
-/
import Derived.Test.YthbadfnonjkbhaaLineW
import Derived.Laws.OwnMore
set_option linter.unusedVariables false
namespace Go.Proofs.Ythbadfnonjkbhaa.Line
open Go.RowKit Go.Proofs.Ythbadfnonjkbhaa

theorem cells_bad (a b c d : Int) (ha : -9223372036854775808 ≤ a ∧ a ≤ 9223372036854775807) (hb : -9223372036854775808 ≤ b ∧ b ≤ 9223372036854775807) (hc : -9223372036854775808 ≤ c ∧ c ≤ 9223372036854775807) (hd : -9223372036854775808 ≤ d ∧ d ≤ 9223372036854775807)
    (h : ¬ (Near a b ∧ Near c d)) (w : World) :
    Calls Try.prog 14 #[.agg #[.int .i64 a, .int .i64 b], .agg #[.int .i64 c, .int .i64 d]] w fun e w' =>
      e = .returned (.tuple #[.slice none 0 0, .int .i64 1]) ∧ Below w.heap.size w w' := by
  obtain ⟨A, HA⟩ : ∃ A, Hid (decide (Near a b) = A) := ⟨_, Lib.hid rfl⟩
  obtain ⟨B, HB⟩ : ∃ B, Hid (decide (Near c d) = B) := ⟨_, Lib.hid rfl⟩
  have hAB : A = true → B = false := fun h1 => by
    rw [← HA.out] at h1; rw [← HB.out]
    exact decide_eq_false fun h2 => h ⟨of_decide_eq_true h1, h2⟩
  clear h
  go_enter Try.func14, Try.ntmps14
  go_wp2_with fail
  refine (near_any a b (by omega) (by omega) _).mono ?_
  rintro e w1 ⟨rfl, hb1⟩
  have hT := (Two.new w a b c d).later hb1
  obtain ⟨k1, k2, k3, k4⟩ := hT.cells
  rw [HA.out]
  clear hb1
  cases A with
  | false =>
    go_wp2_with fail
    go_ret2
    exact ⟨rfl, hT.below⟩
  | true =>
    obtain rfl := hAB rfl
    go_wp2_with fail
    refine (near_any c d (by omega) (by omega) _).mono ?_
    rintro e w2 ⟨rfl, hb1⟩
    replace hT := hT.later hb1
    rw [HB.out]
    go_wp2_with fail
    go_ret2
    exact ⟨rfl, hT.below⟩

/-- What Cells tells of near cells: the line's points in a row of its own. -/
def CellsPost (a b c d : Int) (w : World) (e : Ending) (w' : World) : Prop :=
  ∃ v, e = .returned (.tuple #[v, .int .i64 0]) ∧ Below w.heap.size w w' ∧
    w'.ownsRow w.heap.size 23 2 v (long (dX a c) (dX b d) + 1) (pts (X (dX a c) (dX b d) a (c - a).sign) (Y (dX a c) (dX b d) b (d - b).sign) (long (dX a c) (dX b d) + 1))

theorem sign_bd (n : Int) : -1 ≤ n.sign ∧ n.sign ≤ 1 := by
  rcases Int.lt_trichotomy n 0 with h | h | h
  · rw [Int.sign_eq_neg_one_of_neg h]; omega
  · subst h; decide
  · rw [Int.sign_eq_one_of_pos h]; omega
theorem mul_bd (a s : Int) (k : Nat) (hs : -1 ≤ s ∧ s ≤ 1) (ha : -1000 ≤ a ∧ a ≤ 1000) (hi : k ≤ 2000) : -3000 ≤ a + s * (k : Int) ∧ a + s * (k : Int) ≤ 3000 := by
  obtain h | h | h : s = -1 ∨ s = 0 ∨ s = 1 := by omega
  all_goals subst h
  all_goals omega
theorem J_le (s l i : Nat) (hs : s ≤ l) : J s l i ≤ i := by
  by_cases hl : 0 < l
  · have h := (J_spec s l i hl).1
    have h2 := Nat.mul_le_mul_left i hs
    apply Nat.le_of_not_lt
    intro hlt
    have h3 := Nat.mul_le_mul_left l hlt
    rw [Nat.mul_succ] at h3
    have := Nat.mul_comm l i
    omega
  · obtain rfl : l = 0 := by omega
    simp [J]
theorem XB (dx dy : Nat) (a sx : Int) (k : Nat) (hs : -1 ≤ sx ∧ sx ≤ 1) (ha : -1000 ≤ a ∧ a ≤ 1000) (hk : k ≤ 2000) : -3000 ≤ X dx dy a sx k ∧ X dx dy a sx k ≤ 3000 := by
  unfold X
  refine mul_bd a sx _ hs ha ?_
  split
  · have := J_le dx dy k (by omega); omega
  · exact hk
theorem YB (dx dy : Nat) (a sx : Int) (k : Nat) (hs : -1 ≤ sx ∧ sx ≤ 1) (ha : -1000 ≤ a ∧ a ≤ 1000) (hk : k ≤ 2000) : -3000 ≤ Y dx dy a sx k ∧ Y dx dy a sx k ≤ 3000 := by
  unfold Y
  refine mul_bd a sx _ hs ha ?_
  split
  · exact hk
  · have := J_le dy dx k (by omega); omega
theorem off_zero' (s l : Nat) : off s l 0 = 0 := by
  by_cases hl : 0 < l
  · exact off_zero s l hl
  · obtain rfl : l = 0 := by omega
    simp [off]

theorem cell_new2 (W : World) (x y : Value) (g : Nat) (h : W.heap.size = g) (j : Nat) : (W.alloc (.cells #[x, y] 23)).cell? ⟨g, j, none⟩ = [x, y][j]? := by
  subst h; exact (Blk.new W [x, y] 23 (0, 0)).cell j
theorem infoCell : (Try.prog.info? 23).map (fun i => (i.zero, i.size, i.bytes)) = some (some (.agg #[.int .i64 0, .int .i64 0]), 2, 16) := by kernel_rfl
set_option maxHeartbeats 4000000 in
set_option maxRecDepth 100000 in
theorem cells_any (a b c d : Int) (h1 : Near a b) (h2 : Near c d) (w : World) :
    Calls Try.prog 14 #[.agg #[.int .i64 a, .int .i64 b], .agg #[.int .i64 c, .int .i64 d]] w (CellsPost a b c d w) := by
  have t1 : decide (Near a b) = true := decide_eq_true h1
  have t2 : decide (Near c d) = true := decide_eq_true h2
  unfold Near at h1 h2
  obtain ⟨⟨a1, a2⟩, b1, b2⟩ := h1
  obtain ⟨⟨c1, c2⟩, d1, d2⟩ := h2
  have T1 := Lib.hid t1
  have T2 := Lib.hid t2
  have hm1 : dX a c ≤ 2000 := by unfold dX; omega
  have hm2 : dX b d ≤ 2000 := by unfold dX; omega
  clear t1 t2
  go_enter Try.func14, Try.ntmps14
  go_wp2_with fail
  refine (near_any a b (by omega) (by omega) _).mono ?_
  rintro e w1 ⟨rfl, hb⟩
  have hT := (Two.new w a b c d).later hb
  obtain ⟨k1, k2, k3, k4⟩ := hT.cells
  rw [T1.out]
  clear hb
  go_wp2_with fail
  refine (near_any c d (by omega) (by omega) _).mono ?_
  rintro e w2 ⟨rfl, hb⟩
  replace hT := hT.later hb
  clear k1 k2 k3 k4 hb
  obtain ⟨k1, k2, k3, k4⟩ := hT.cells
  rw [T2.out]
  go_wp2_with fail
  refine (sign_any _ (by omega) _).mono ?_
  rintro e w' ⟨rfl, rfl⟩
  rw [show (c - a).natAbs = dX a c from rfl]
  go_wp2_with fail
  refine (sign_any _ (by omega) _).mono ?_
  rintro e w' ⟨rfl, rfl⟩
  rw [show (d - b).natAbs = dX b d from rfl]
  obtain ⟨sx, HSX⟩ : ∃ s, Hid ((c - a).sign = s) := ⟨_, Lib.hid rfl⟩
  obtain ⟨sy, HSY⟩ : ∃ s, Hid ((d - b).sign = s) := ⟨_, Lib.hid rfl⟩
  obtain ⟨dx, HDX⟩ : ∃ s, Hid (dX a c = s) := ⟨_, Lib.hid rfl⟩
  obtain ⟨dy, HDY⟩ : ∃ s, Hid (dX b d = s) := ⟨_, Lib.hid rfl⟩
  have hsx := sign_bd (c - a)
  have hsy := sign_bd (d - b)
  rw [HSX.out] at hsx ⊢
  rw [HSY.out] at hsy ⊢
  rw [HDX.out] at hm1 ⊢
  rw [HDY.out] at hm2 ⊢
  have hlt2 : w.heap.size < w2.heap.size := by have := hT.two.lt; omega
  obtain ⟨i0, hi, hz0, hz1, hz2⟩ := info_parts infoCell
  by_cases hlt : dx < dy
  · have hL : long dx dy = dy := if_pos hlt
    have hS : short dx dy = dx := if_pos hlt
    go_wp2_with fail
    go_loopw [12, 13, 51] (fun v o i wr => ∃ k : Nat, k ≤ dy ∧ i = .int .i64 k ∧ o = .int .i64 (off dx dy k) ∧ wr.ownsRow w2.heap.size 23 2 v (k + 1) (pts (X dx dy a sx) (Y dx dy b sy) (k + 1)) ∧ Blk wr w.heap.size [.int .i64 (X dx dy a sx k), .int .i64 (Y dx dy b sy k)] 23 (0, 0) ∧ Below w.heap.size w wr ∧ w2.heap.size ≤ wr.heap.size) (fun _ _ i _ => dy - (intOf i).toNat)
    case atStart =>
      have e0 : off dx dy 0 = 0 := off_zero' _ _
      have e1 : pts (X dx dy a sx) (Y dx dy b sy) 1 = [.int .i64 a, .int .i64 b] := by unfold pts; simp [List.range_succ, X_zero, Y_zero]
      refine ⟨0, Nat.zero_le _, rfl, by rw [e0], ?_, ?_, ?_, ?_⟩
      · rw [e1]; exact World.ownsRow_lit w2 #[.int .i64 a, .int .i64 b] 1 (Nat.le_refl _) (by decide) rfl
      · rw [X_zero, Y_zero]; exact hT.one.later ((Below.refl _ _).alloc (Nat.le_refl _) _)
      · exact hT.below.alloc hT.below.size _
      · simp
    case round =>
      obtain ⟨k, hk, rfl, rfl, hown, hA, hb, hsz⟩ := hrel
      have hx := XB dx dy a sx k hsx ⟨a1, a2⟩ (by omega)
      have hy := YB dx dy b sy k hsy ⟨b1, b2⟩ (by omega)
      by_cases hlk : k < dy
      · have hob := off_bd dx dy k (by omega)
        have hst := step (i := k) (a := a) (sx := sx) (b := b) (sy := sy) (show 0 < long dx dy by omega)
        rw [hL, hS] at hst
        by_cases ht : (dy : Int) ≤ off dx dy k + 2 * (dx : Int)
        · obtain ⟨s1, s2, s3⟩ := hst.1 ht
          have q1 := hA.cell 0
          have q2 := hA.cell 1
          have q3 := hA.free 0 (.inr (Nat.zero_le _))
          have q4 := hA.free 1 (.inr (Nat.zero_le _))
          simp only [List.getElem?_cons_zero, List.getElem?_cons_succ] at q1 q2
          generalize hX : X dx dy a sx k = x at hA hx s1 q1
          generalize hY : Y dx dy b sy k = y at hA hy s2 q2
          generalize hO : off dx dy k = o at hob ht s3 ⊢
          have HN := Lib.hid (And.intro s1 (And.intro s2 s3))
          have HA : Hid (Blk ((wr.setCell (⟨w.heap.size, 0, none⟩ : Addr) (Value.int .i64 (x + sx))).setCell (⟨w.heap.size, 1, none⟩ : Addr) (Value.int .i64 (y + sy))) w.heap.size [.int .i64 (x + sx), .int .i64 (y + sy)] 23 (0, 0)) := (hA.set 0 _).set 1 _
          have HB : Hid (Below w.heap.size w ((wr.setCell (⟨w.heap.size, 0, none⟩ : Addr) (Value.int .i64 (x + sx))).setCell (⟨w.heap.size, 1, none⟩ : Addr) (Value.int .i64 (y + sy)))) := (hb.setCell (p := (⟨w.heap.size, 0, none⟩ : Addr)) (Nat.le_refl _) _).setCell (p := (⟨w.heap.size, 1, none⟩ : Addr)) (Nat.le_refl _) _
          have HO : Hid (((wr.setCell (⟨w.heap.size, 0, none⟩ : Addr) (Value.int .i64 (x + sx))).setCell (⟨w.heap.size, 1, none⟩ : Addr) (Value.int .i64 (y + sy))).ownsRow w2.heap.size 23 2 u12 (k + 1) (pts (X dx dy a sx) (Y dx dy b sy) (k + 1))) := ownsRow_setCell_below (ownsRow_setCell_below hown (a := (⟨w.heap.size, 0, none⟩ : Addr)) hlt2 _) (a := (⟨w.heap.size, 1, none⟩ : Addr)) hlt2 _
          have HZ : Hid (w2.heap.size ≤ ((wr.setCell (⟨w.heap.size, 0, none⟩ : Addr) (Value.int .i64 (x + sx))).setCell (⟨w.heap.size, 1, none⟩ : Addr) (Value.int .i64 (y + sy))).heap.size) := by show _ ≤ _; simpa [World.setCell] using hsz
          clear s1 s2 s3 hst hX hY hO hown hb hA
          go_wp2_with (at_builtin; refine wpList_append_own _ rfl _ _ 24 rfl w2.heap.size 23 i0 (.agg #[.int .i64 0, .int .i64 0]) 2 16 Try.underlying24 hi hz0 hz1 hz2 rfl (by decide) _ (k + 1) _ rfl (HO.out.alloc (.cells #[.int .i64 (x + sx), .int .i64 (y + sy)] 23)) _ 1 1 [.int .i64 (x + sx), .int .i64 (y + sy)] rfl rfl ?pqb1 ?pqb2 ?pqb3 ?pqb4 ?pqb5 ?_)
          try (case pqb1 => (intro j u hj; rw [add0]; exact (cell_new2 ((wr.setCell (⟨w.heap.size, 0, none⟩ : Addr) (Value.int .i64 (x + sx))).setCell (⟨w.heap.size, 1, none⟩ : Addr) (Value.int .i64 (y + sy))) _ _ _ (by simp [World.setCell]) j).trans hj))
          case pqb2 => first | exact ⟨rfl, rfl⟩ | (intro u hu; simp at hu; rcases hu with rfl | rfl <;> rfl)
          case pqb3 => unfold maxLen; omega
          case pqb4 => omega
          case pqb5 => have := HZ.out; simp at this ⊢; omega
          intro v' w3 hown' hgrow _
          have hb3 : Below w2.heap.size ((wr.setCell (⟨w.heap.size, 0, none⟩ : Addr) (Value.int .i64 (x + sx))).setCell (⟨w.heap.size, 1, none⟩ : Addr) (Value.int .i64 (y + sy))) w3 := ((Below.refl w2.heap.size ((wr.setCell (⟨w.heap.size, 0, none⟩ : Addr) (Value.int .i64 (x + sx))).setCell (⟨w.heap.size, 1, none⟩ : Addr) (Value.int .i64 (y + sy)))).alloc HZ.out (.cells #[.int .i64 (x + sx), .int .i64 (y + sy)] 23)).grown hgrow (by have := HZ.out; simp at this ⊢; omega) (fun q hq => (HO.out.lt q hq).1)
          have hb4 : Below w.heap.size w w3 := HB.out.trans (hb3.mono (Nat.le_of_lt hlt2))
          have hA3 : Blk w3 w.heap.size [.int .i64 (x + sx), .int .i64 (y + sy)] 23 (0, 0) := by
            have h := HA.out
            unfold Blk at h ⊢
            rw [hb3.block _ hlt2]; exact h
          have hz3 : w2.heap.size ≤ w3.heap.size := Nat.le_trans HZ.out hb3.size
          clear HA HB HZ HO hgrow hb3 q1 q2 q3 q4
          go_wp2_with fail
          refine ⟨⟨k + 1, by omega, by go_num, by rw [HN.out.2.2], ?_, ?_, hb4, hz3⟩, by simp [intOf]; omega⟩
          · rw [pts_succ, HN.out.1, HN.out.2.1]; exact hown'
          · rw [HN.out.1, HN.out.2.1]; exact hA3
        · obtain ⟨s3, s4⟩ := hst.2 ht
          obtain ⟨s1, s2⟩ := s4.1 hlt
          clear s4
          have q1 := hA.cell 0
          have q2 := hA.cell 1
          have q3 := hA.free 0 (.inr (Nat.zero_le _))
          have q4 := hA.free 1 (.inr (Nat.zero_le _))
          simp only [List.getElem?_cons_zero, List.getElem?_cons_succ] at q1 q2
          generalize hX : X dx dy a sx k = x at hA hx s1 q1
          generalize hY : Y dx dy b sy k = y at hA hy s2 q2
          generalize hO : off dx dy k = o at hob ht s3 ⊢
          have HN := Lib.hid (And.intro s1 (And.intro s2 s3))
          have HA : Hid (Blk (wr.setCell (⟨w.heap.size, 1, none⟩ : Addr) (Value.int .i64 (y + sy))) w.heap.size [.int .i64 (x), .int .i64 (y + sy)] 23 (0, 0)) := hA.set 1 _
          have HB : Hid (Below w.heap.size w (wr.setCell (⟨w.heap.size, 1, none⟩ : Addr) (Value.int .i64 (y + sy)))) := hb.setCell (p := (⟨w.heap.size, 1, none⟩ : Addr)) (Nat.le_refl _) _
          have HO : Hid ((wr.setCell (⟨w.heap.size, 1, none⟩ : Addr) (Value.int .i64 (y + sy))).ownsRow w2.heap.size 23 2 u12 (k + 1) (pts (X dx dy a sx) (Y dx dy b sy) (k + 1))) := ownsRow_setCell_below hown (a := (⟨w.heap.size, 1, none⟩ : Addr)) hlt2 _
          have HZ : Hid (w2.heap.size ≤ (wr.setCell (⟨w.heap.size, 1, none⟩ : Addr) (Value.int .i64 (y + sy))).heap.size) := by show _ ≤ _; simpa [World.setCell] using hsz
          clear s1 s2 s3 hst hX hY hO hown hb hA
          go_wp2_with (at_builtin; refine wpList_append_own _ rfl _ _ 24 rfl w2.heap.size 23 i0 (.agg #[.int .i64 0, .int .i64 0]) 2 16 Try.underlying24 hi hz0 hz1 hz2 rfl (by decide) _ (k + 1) _ rfl (HO.out.alloc (.cells #[.int .i64 (x), .int .i64 (y + sy)] 23)) _ 1 1 [.int .i64 (x), .int .i64 (y + sy)] rfl rfl ?pqc1 ?pqc2 ?pqc3 ?pqc4 ?pqc5 ?_)
          try (case pqc1 => (intro j u hj; rw [add0]; exact (cell_new2 (wr.setCell (⟨w.heap.size, 1, none⟩ : Addr) (Value.int .i64 (y + sy))) _ _ _ (by simp [World.setCell]) j).trans hj))
          case pqc2 => first | exact ⟨rfl, rfl⟩ | (intro u hu; simp at hu; rcases hu with rfl | rfl <;> rfl)
          case pqc3 => unfold maxLen; omega
          case pqc4 => omega
          case pqc5 => have := HZ.out; simp at this ⊢; omega
          intro v' w3 hown' hgrow _
          have hb3 : Below w2.heap.size (wr.setCell (⟨w.heap.size, 1, none⟩ : Addr) (Value.int .i64 (y + sy))) w3 := ((Below.refl w2.heap.size (wr.setCell (⟨w.heap.size, 1, none⟩ : Addr) (Value.int .i64 (y + sy)))).alloc HZ.out (.cells #[.int .i64 (x), .int .i64 (y + sy)] 23)).grown hgrow (by have := HZ.out; simp at this ⊢; omega) (fun q hq => (HO.out.lt q hq).1)
          have hb4 : Below w.heap.size w w3 := HB.out.trans (hb3.mono (Nat.le_of_lt hlt2))
          have hA3 : Blk w3 w.heap.size [.int .i64 (x), .int .i64 (y + sy)] 23 (0, 0) := by
            have h := HA.out
            unfold Blk at h ⊢
            rw [hb3.block _ hlt2]; exact h
          have hz3 : w2.heap.size ≤ w3.heap.size := Nat.le_trans HZ.out hb3.size
          clear HA HB HZ HO hgrow hb3 q1 q2 q3 q4
          go_wp2_with fail
          refine ⟨⟨k + 1, by omega, by go_num, by rw [HN.out.2.2], ?_, ?_, hb4, hz3⟩, by simp [intOf]; omega⟩
          · rw [pts_succ, HN.out.1, HN.out.2.1]; exact hown'
          · rw [HN.out.1, HN.out.2.1]; exact hA3
      · obtain rfl : k = dy := by omega
        go_wp2_with fail
        go_ret2
        have := hT.below.size
        refine ⟨u12, rfl, hb, ?_⟩
        rw [HSX.out, HSY.out, HDX.out, HDY.out, hL]
        exact ownsRow_mono hown (by omega)
  · have hL : long dx dy = dx := if_neg hlt
    have hS : short dx dy = dy := if_neg hlt
    go_wp2_with fail
    go_loopw [12, 13, 51] (fun v o i wr => ∃ k : Nat, k ≤ dx ∧ i = .int .i64 k ∧ o = .int .i64 (off dy dx k) ∧ wr.ownsRow w2.heap.size 23 2 v (k + 1) (pts (X dx dy a sx) (Y dx dy b sy) (k + 1)) ∧ Blk wr w.heap.size [.int .i64 (X dx dy a sx k), .int .i64 (Y dx dy b sy k)] 23 (0, 0) ∧ Below w.heap.size w wr ∧ w2.heap.size ≤ wr.heap.size) (fun _ _ i _ => dx - (intOf i).toNat)
    case atStart =>
      have e0 : off dy dx 0 = 0 := off_zero' _ _
      have e1 : pts (X dx dy a sx) (Y dx dy b sy) 1 = [.int .i64 a, .int .i64 b] := by unfold pts; simp [List.range_succ, X_zero, Y_zero]
      refine ⟨0, Nat.zero_le _, rfl, by rw [e0], ?_, ?_, ?_, ?_⟩
      · rw [e1]; exact World.ownsRow_lit w2 #[.int .i64 a, .int .i64 b] 1 (Nat.le_refl _) (by decide) rfl
      · rw [X_zero, Y_zero]; exact hT.one.later ((Below.refl _ _).alloc (Nat.le_refl _) _)
      · exact hT.below.alloc hT.below.size _
      · simp
    case round =>
      obtain ⟨k, hk, rfl, rfl, hown, hA, hb, hsz⟩ := hrel
      have hx := XB dx dy a sx k hsx ⟨a1, a2⟩ (by omega)
      have hy := YB dx dy b sy k hsy ⟨b1, b2⟩ (by omega)
      by_cases hlk : k < dx
      · have hob := off_bd dy dx k (by omega)
        have hst := step (i := k) (a := a) (sx := sx) (b := b) (sy := sy) (show 0 < long dx dy by omega)
        rw [hL, hS] at hst
        by_cases ht : (dx : Int) ≤ off dy dx k + 2 * (dy : Int)
        · obtain ⟨s1, s2, s3⟩ := hst.1 ht
          have q1 := hA.cell 0
          have q2 := hA.cell 1
          have q3 := hA.free 0 (.inr (Nat.zero_le _))
          have q4 := hA.free 1 (.inr (Nat.zero_le _))
          simp only [List.getElem?_cons_zero, List.getElem?_cons_succ] at q1 q2
          generalize hX : X dx dy a sx k = x at hA hx s1 q1
          generalize hY : Y dx dy b sy k = y at hA hy s2 q2
          generalize hO : off dy dx k = o at hob ht s3 ⊢
          have HN := Lib.hid (And.intro s1 (And.intro s2 s3))
          have HA : Hid (Blk ((wr.setCell (⟨w.heap.size, 0, none⟩ : Addr) (Value.int .i64 (x + sx))).setCell (⟨w.heap.size, 1, none⟩ : Addr) (Value.int .i64 (y + sy))) w.heap.size [.int .i64 (x + sx), .int .i64 (y + sy)] 23 (0, 0)) := (hA.set 0 _).set 1 _
          have HB : Hid (Below w.heap.size w ((wr.setCell (⟨w.heap.size, 0, none⟩ : Addr) (Value.int .i64 (x + sx))).setCell (⟨w.heap.size, 1, none⟩ : Addr) (Value.int .i64 (y + sy)))) := (hb.setCell (p := (⟨w.heap.size, 0, none⟩ : Addr)) (Nat.le_refl _) _).setCell (p := (⟨w.heap.size, 1, none⟩ : Addr)) (Nat.le_refl _) _
          have HO : Hid (((wr.setCell (⟨w.heap.size, 0, none⟩ : Addr) (Value.int .i64 (x + sx))).setCell (⟨w.heap.size, 1, none⟩ : Addr) (Value.int .i64 (y + sy))).ownsRow w2.heap.size 23 2 u12 (k + 1) (pts (X dx dy a sx) (Y dx dy b sy) (k + 1))) := ownsRow_setCell_below (ownsRow_setCell_below hown (a := (⟨w.heap.size, 0, none⟩ : Addr)) hlt2 _) (a := (⟨w.heap.size, 1, none⟩ : Addr)) hlt2 _
          have HZ : Hid (w2.heap.size ≤ ((wr.setCell (⟨w.heap.size, 0, none⟩ : Addr) (Value.int .i64 (x + sx))).setCell (⟨w.heap.size, 1, none⟩ : Addr) (Value.int .i64 (y + sy))).heap.size) := by show _ ≤ _; simpa [World.setCell] using hsz
          clear s1 s2 s3 hst hX hY hO hown hb hA
          go_wp2_with (at_builtin; refine wpList_append_own _ rfl _ _ 24 rfl w2.heap.size 23 i0 (.agg #[.int .i64 0, .int .i64 0]) 2 16 Try.underlying24 hi hz0 hz1 hz2 rfl (by decide) _ (k + 1) _ rfl (HO.out.alloc (.cells #[.int .i64 (x + sx), .int .i64 (y + sy)] 23)) _ 1 1 [.int .i64 (x + sx), .int .i64 (y + sy)] rfl rfl ?pqd1 ?pqd2 ?pqd3 ?pqd4 ?pqd5 ?_)
          try (case pqd1 => (intro j u hj; rw [add0]; exact (cell_new2 ((wr.setCell (⟨w.heap.size, 0, none⟩ : Addr) (Value.int .i64 (x + sx))).setCell (⟨w.heap.size, 1, none⟩ : Addr) (Value.int .i64 (y + sy))) _ _ _ (by simp [World.setCell]) j).trans hj))
          case pqd2 => first | exact ⟨rfl, rfl⟩ | (intro u hu; simp at hu; rcases hu with rfl | rfl <;> rfl)
          case pqd3 => unfold maxLen; omega
          case pqd4 => omega
          case pqd5 => have := HZ.out; simp at this ⊢; omega
          intro v' w3 hown' hgrow _
          have hb3 : Below w2.heap.size ((wr.setCell (⟨w.heap.size, 0, none⟩ : Addr) (Value.int .i64 (x + sx))).setCell (⟨w.heap.size, 1, none⟩ : Addr) (Value.int .i64 (y + sy))) w3 := ((Below.refl w2.heap.size ((wr.setCell (⟨w.heap.size, 0, none⟩ : Addr) (Value.int .i64 (x + sx))).setCell (⟨w.heap.size, 1, none⟩ : Addr) (Value.int .i64 (y + sy)))).alloc HZ.out (.cells #[.int .i64 (x + sx), .int .i64 (y + sy)] 23)).grown hgrow (by have := HZ.out; simp at this ⊢; omega) (fun q hq => (HO.out.lt q hq).1)
          have hb4 : Below w.heap.size w w3 := HB.out.trans (hb3.mono (Nat.le_of_lt hlt2))
          have hA3 : Blk w3 w.heap.size [.int .i64 (x + sx), .int .i64 (y + sy)] 23 (0, 0) := by
            have h := HA.out
            unfold Blk at h ⊢
            rw [hb3.block _ hlt2]; exact h
          have hz3 : w2.heap.size ≤ w3.heap.size := Nat.le_trans HZ.out hb3.size
          clear HA HB HZ HO hgrow hb3 q1 q2 q3 q4
          go_wp2_with fail
          refine ⟨⟨k + 1, by omega, by go_num, by rw [HN.out.2.2], ?_, ?_, hb4, hz3⟩, by simp [intOf]; omega⟩
          · rw [pts_succ, HN.out.1, HN.out.2.1]; exact hown'
          · rw [HN.out.1, HN.out.2.1]; exact hA3
        · obtain ⟨s3, s4⟩ := hst.2 ht
          obtain ⟨s1, s2⟩ := s4.2 hlt
          clear s4
          have q1 := hA.cell 0
          have q2 := hA.cell 1
          have q3 := hA.free 0 (.inr (Nat.zero_le _))
          have q4 := hA.free 1 (.inr (Nat.zero_le _))
          simp only [List.getElem?_cons_zero, List.getElem?_cons_succ] at q1 q2
          generalize hX : X dx dy a sx k = x at hA hx s1 q1
          generalize hY : Y dx dy b sy k = y at hA hy s2 q2
          generalize hO : off dy dx k = o at hob ht s3 ⊢
          have HN := Lib.hid (And.intro s1 (And.intro s2 s3))
          have HA : Hid (Blk (wr.setCell (⟨w.heap.size, 0, none⟩ : Addr) (Value.int .i64 (x + sx))) w.heap.size [.int .i64 (x + sx), .int .i64 (y)] 23 (0, 0)) := hA.set 0 _
          have HB : Hid (Below w.heap.size w (wr.setCell (⟨w.heap.size, 0, none⟩ : Addr) (Value.int .i64 (x + sx)))) := hb.setCell (p := (⟨w.heap.size, 0, none⟩ : Addr)) (Nat.le_refl _) _
          have HO : Hid ((wr.setCell (⟨w.heap.size, 0, none⟩ : Addr) (Value.int .i64 (x + sx))).ownsRow w2.heap.size 23 2 u12 (k + 1) (pts (X dx dy a sx) (Y dx dy b sy) (k + 1))) := ownsRow_setCell_below hown (a := (⟨w.heap.size, 0, none⟩ : Addr)) hlt2 _
          have HZ : Hid (w2.heap.size ≤ (wr.setCell (⟨w.heap.size, 0, none⟩ : Addr) (Value.int .i64 (x + sx))).heap.size) := by show _ ≤ _; simpa [World.setCell] using hsz
          clear s1 s2 s3 hst hX hY hO hown hb hA
          go_wp2_with (at_builtin; refine wpList_append_own _ rfl _ _ 24 rfl w2.heap.size 23 i0 (.agg #[.int .i64 0, .int .i64 0]) 2 16 Try.underlying24 hi hz0 hz1 hz2 rfl (by decide) _ (k + 1) _ rfl (HO.out.alloc (.cells #[.int .i64 (x + sx), .int .i64 (y)] 23)) _ 1 1 [.int .i64 (x + sx), .int .i64 (y)] rfl rfl ?pqe1 ?pqe2 ?pqe3 ?pqe4 ?pqe5 ?_)
          try (case pqe1 => (intro j u hj; rw [add0]; exact (cell_new2 (wr.setCell (⟨w.heap.size, 0, none⟩ : Addr) (Value.int .i64 (x + sx))) _ _ _ (by simp [World.setCell]) j).trans hj))
          case pqe2 => first | exact ⟨rfl, rfl⟩ | (intro u hu; simp at hu; rcases hu with rfl | rfl <;> rfl)
          case pqe3 => unfold maxLen; omega
          case pqe4 => omega
          case pqe5 => have := HZ.out; simp at this ⊢; omega
          intro v' w3 hown' hgrow _
          have hb3 : Below w2.heap.size (wr.setCell (⟨w.heap.size, 0, none⟩ : Addr) (Value.int .i64 (x + sx))) w3 := ((Below.refl w2.heap.size (wr.setCell (⟨w.heap.size, 0, none⟩ : Addr) (Value.int .i64 (x + sx)))).alloc HZ.out (.cells #[.int .i64 (x + sx), .int .i64 (y)] 23)).grown hgrow (by have := HZ.out; simp at this ⊢; omega) (fun q hq => (HO.out.lt q hq).1)
          have hb4 : Below w.heap.size w w3 := HB.out.trans (hb3.mono (Nat.le_of_lt hlt2))
          have hA3 : Blk w3 w.heap.size [.int .i64 (x + sx), .int .i64 (y)] 23 (0, 0) := by
            have h := HA.out
            unfold Blk at h ⊢
            rw [hb3.block _ hlt2]; exact h
          have hz3 : w2.heap.size ≤ w3.heap.size := Nat.le_trans HZ.out hb3.size
          clear HA HB HZ HO hgrow hb3 q1 q2 q3 q4
          go_wp2_with fail
          refine ⟨⟨k + 1, by omega, by go_num, by rw [HN.out.2.2], ?_, ?_, hb4, hz3⟩, by simp [intOf]; omega⟩
          · rw [pts_succ, HN.out.1, HN.out.2.1]; exact hown'
          · rw [HN.out.1, HN.out.2.1]; exact hA3
      · obtain rfl : k = dx := by omega
        go_wp2_with fail
        go_ret2
        have := hT.below.size
        refine ⟨u12, rfl, hb, ?_⟩
        rw [HSX.out, HSY.out, HDX.out, HDY.out, hL]
        exact ownsRow_mono hown (by omega)
end Go.Proofs.Ythbadfnonjkbhaa.Line
