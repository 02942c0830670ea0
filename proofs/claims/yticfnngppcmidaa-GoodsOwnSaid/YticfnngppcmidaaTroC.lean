/-
  The field's At; ground.
-/
import Derived.Test.YticfnngppcmidaaTroB
set_option linter.unusedVariables false
namespace Go.Proofs.Yticfnngppcmidaa
open Go.RowKit

theorem ret_two {k k' : IntKind} {a b a' b' : Int} (h1 : a = a') (h2 : b = b') : Ending.returned (.tuple #[.int k a, .int k' b]) = .returned (.tuple #[.int k a', .int k' b']) := by rw [h1, h2]
def AtPost (f : Fld) (c : Cel) (w : World) (e : Ending) (w' : World) : Prop := e = .returned (.tuple #[.int .i64 (f.atV c), .int .i64 (f.atE c)]) ∧ Below w.heap.size w w'
set_option maxRecDepth 100000 in
set_option maxHeartbeats 1000000 in
theorem fldAt (f : Fld) (p : Cel) (A : Option Addr) (c : Nat) (w : World) (hP : repI.SHas 8 w A c f.places) :
    Calls Try.prog 50 #[.agg #[.int .i64 f.wide, .int .i64 f.high, .slice A f.places.length c], .agg #[.int .i64 p.x, .int .i64 p.y]] w (AtPost f p w) := by
  have hA := Blk.new w (Wd.fcells A c f) 24 (0, 0)
  have hb := below_alloc0 w (.cells (Wd.fcells A c f).toArray 24 (0, 0))
  have hB := Blk.new (w.alloc (.cells (Wd.fcells A c f).toArray 24 (0, 0))) p.cells 37 (0, 0)
  have hb1 := below_alloc0 (w.alloc (.cells (Wd.fcells A c f).toArray 24 (0, 0))) (.cells p.cells.toArray 37 (0, 0))
  have hA1 := hA.later hb1
  have hbb := hb.trans (hb1.mono hb.size)
  have hc := fldCheck f A c _ (hP.keep hbb)
  have hP1 := hP.keep hbb
  obtain ⟨w1, HW1⟩ : ∃ w1, Hid ((w.alloc (.cells (Wd.fcells A c f).toArray 24 (0, 0))).alloc (.cells p.cells.toArray 37 (0, 0)) = w1) := ⟨_, Lib.hid rfl⟩
  rw [HW1.out] at hA1 hB hc hbb hP1
  rw [World.size_alloc] at hB
  clear hA hb hb1 hP
  have hst : ∀ K : World → Prop, K w1 → K ((w.alloc (.cells #[.int .i64 f.wide, .int .i64 f.high, .slice A f.places.length c] 24)).alloc (.cells #[.int .i64 p.x, .int .i64 p.y] 37)) := fun K h => by
    have := HW1.out
    rw [← this] at h; exact h
  by_cases h0 : f.chk = 0
  · have hfl := Fld.len_le h0
    obtain ⟨g1, g2, g3, g4, _, _⟩ := Fld.good h0
    rw [h0] at hc
    by_cases hin : 0 ≤ p.x ∧ p.x < f.wide ∧ 0 ≤ p.y ∧ p.y < f.high
    · obtain ⟨i1, i2, i3, i4⟩ := hin
      have hIn := Fld.isIn_mk i1 i2 i3 i4
      obtain ⟨e1, e2⟩ := Fld.at_in h0 hIn
      obtain ⟨x1, x2, _⟩ := Fld.idx h0 hIn
      have y1 : 0 ≤ p.y * f.wide := Int.mul_nonneg i3 (by omega)
      have y2 : p.y * f.wide ≤ 1600 := by omega
      obtain ⟨b, o, rfl, hcell⟩ := repI_at hP1 (by omega)
      have hce := hcell (p.y * f.wide + p.x).toNat (f.place p) (by
        unfold Fld.place
        rw [List.getD_eq_getElem?_getD, List.getElem?_eq_getElem (show (p.y * f.wide + p.x).toNat < f.places.length by omega)]; rfl)
      have HCE := Lib.hid hce
      have HE := Lib.hid (And.intro e1 e2)
      have HA1 := Lib.hid hA1
      have HB := Lib.hid hB
      have d1 : decide (p.x < 0) = false := by simpa using i1
      have d2 : decide (p.y < 0) = false := by simpa using i3
      clear h0 hIn e1 e2 hcell hce hP1 hA1 hB
      go_enter Try.func50, Try.ntmps50
      go_wp2_with fail
      refine hst (fun W => Calls _ _ _ W _) ?_
      refine hc.mono ?_
      rintro e w2 ⟨rfl, hb2⟩
      obtain ⟨q0, q1, q2⟩ := Wd.fblk (HA1.out.later hb2)
      obtain ⟨r0, r1⟩ := Cel.blk (HB.out.later hb2)
      have hcell2 := cell_later hb2 HCE.out
      go_wp2_with fail
      go_ret2
      exact ⟨ret_two HE.out.2.symm HE.out.1.symm, hbb.trans (hb2.mono hbb.size)⟩
    · have hout : p.x < 0 ∨ f.wide ≤ p.x ∨ p.y < 0 ∨ f.high ≤ p.y := by omega
      have HE := Lib.hid (Fld.at_out h0 (Fld.isIn_out hout))
      have HA1 := Lib.hid hA1
      have HB := Lib.hid hB
      clear h0 hP1 hA1 hB hin
      have HOUT := Lib.hid hout
      clear hout
      go_enter Try.func50, Try.ntmps50
      go_wp2_with fail
      refine hst (fun W => Calls _ _ _ W _) ?_
      refine hc.mono ?_
      rintro e w2 ⟨rfl, hb2⟩
      obtain ⟨q0, q1, q2⟩ := Wd.fblk (HA1.out.later hb2)
      obtain ⟨r0, r1⟩ := Cel.blk (HB.out.later hb2)
      have key : decide (p.x < 0) = true ∨ (decide (p.x < 0) = false ∧ decide (f.wide ≤ p.x) = true) ∨ (decide (p.x < 0) = false ∧ decide (f.wide ≤ p.x) = false ∧ decide (p.y < 0) = true) ∨ (decide (p.x < 0) = false ∧ decide (f.wide ≤ p.x) = false ∧ decide (p.y < 0) = false ∧ decide (f.high ≤ p.y) = true) := by
        have := HOUT.out
        by_cases k1 : p.x < 0
        · simp [k1]
        by_cases k2 : f.wide ≤ p.x
        · simp [k1, k2]
        by_cases k3 : p.y < 0
        · simp [k1, k2, k3]
        · simp [k1, k2, k3]; omega
      rcases key with h | ⟨h, h2⟩ | ⟨h, h2, h3⟩ | ⟨h, h2, h3, h4⟩
      all_goals
        go_wp2_with fail
        go_ret2
        exact ⟨ret_two HE.out.2.symm HE.out.1.symm, hbb.trans (hb2.mono hbb.size)⟩
  · obtain ⟨e1, e2⟩ := Fld.at_bad (c := p) h0
    have HE := Lib.hid (And.intro e1 e2)
    have hne : (f.chk == 0) = false := by simpa using h0
    have hne2 : (f.chk != 0) = true := by simpa using h0
    clear e1 e2 h0 hP1 hA1 hB
    generalize f.chk = k at *
    go_enter Try.func50, Try.ntmps50
    go_wp2_with fail
    refine hst (fun W => Calls _ _ _ W _) ?_
    refine hc.mono ?_
    rintro e w2 ⟨rfl, hb2⟩
    go_wp2_with fail
    go_ret2
    exact ⟨ret_two HE.out.2.symm HE.out.1.symm, hbb.trans (hb2.mono hbb.size)⟩
set_option maxRecDepth 100000 in
set_option maxHeartbeats 1000000 in
/-- ground: of a right field. -/
theorem ground_any (f : Fld) (p : Cel) (A : Option Addr) (c : Nat) (w : World) (hP : repI.SHas 8 w A c f.places) (h0 : f.chk = 0) :
    Calls Try.prog 71 #[.agg #[.int .i64 f.wide, .int .i64 f.high, .slice A f.places.length c], .agg #[.int .i64 p.x, .int .i64 p.y]] w fun e w' => e = .returned (.bool (f.ground p)) ∧ Below w.heap.size w w' := by
  have hb := below_alloc0 w (.cells #[.int .i64 f.wide, .int .i64 f.high, .slice A f.places.length c] 24)
  have hb1 := below_alloc0 (w.alloc (.cells #[.int .i64 f.wide, .int .i64 f.high, .slice A f.places.length c] 24)) (.cells #[.int .i64 p.x, .int .i64 p.y] 37)
  have hbb := hb.trans (hb1.mono hb.size)
  have hc := fldAt f p A c _ (hP.keep hbb)
  unfold AtPost at hc
  clear hb hb1 hP
  cases hin : f.isIn p with
  | true =>
    obtain ⟨e1, e2⟩ := Fld.at_in h0 hin
    rw [e1, e2] at hc
    have hg : f.ground p = (f.place p != 1) := by unfold Fld.ground; rw [hin]; rfl
    rw [hg]
    clear e1 e2 hin hg h0
    generalize f.place p = v at *
    generalize f.places.length = n at *
    cases hv : v != 1 with
    | true =>
      have hv2 : (v == 1) = false := by simpa using hv
      go_enter Try.func71, Try.ntmps71
      go_wp2_with fail
      refine hc.mono ?_
      rintro e w2 ⟨rfl, hb2⟩
      go_wp2_with fail
      go_ret
      exact ⟨ret_bool (by simp), hbb.trans (hb2.mono hbb.size)⟩
    | false =>
      have hv2 : (v == 1) = true := by simpa using hv
      go_enter Try.func71, Try.ntmps71
      go_wp2_with fail
      refine hc.mono ?_
      rintro e w2 ⟨rfl, hb2⟩
      go_wp2_with fail
      go_ret
      exact ⟨ret_bool (by simp), hbb.trans (hb2.mono hbb.size)⟩
  | false =>
    obtain ⟨e1, e2⟩ := Fld.at_out h0 hin
    rw [e1, e2] at hc
    have hg : f.ground p = false := by unfold Fld.ground; rw [hin]; rfl
    rw [hg]
    clear e1 e2 hin hg h0
    generalize f.places.length = n at *
    go_enter Try.func71, Try.ntmps71
    go_wp2_with fail
    refine hc.mono ?_
    rintro e w2 ⟨rfl, hb2⟩
    go_wp2_with fail
    go_ret
    exact ⟨rfl, hbb.trans (hb2.mono hbb.size)⟩
end Go.Proofs.Yticfnngppcmidaa
