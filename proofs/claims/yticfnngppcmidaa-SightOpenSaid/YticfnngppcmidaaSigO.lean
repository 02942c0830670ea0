/-
  SightOpen. (Printed by bin/sightlaw2.py.)
-/
import Derived.Test.YticfnngppcmidaaSigP
set_option linter.unusedVariables false
set_option linter.unusedSimpArgs false
namespace Go.Proofs.Yticfnngppcmidaa
open Go.RowKit

theorem SigO_ag_api_Field : Ag Try.prog 24 true := fun _ => by kernel_rfl
theorem SigO_sz_api_Field : Sz Try.prog 24 3 := fun _ => by kernel_rfl
theorem SigO_ag_api_Cell : Ag Try.prog 37 true := fun _ => by kernel_rfl
theorem SigO_sz_api_Cell : Sz Try.prog 37 2 := fun _ => by kernel_rfl
theorem SigO_en_sight_Seen : Enters Try.prog 48 := en Try.func48 (by kernel_rfl) (by kernel_rfl)
theorem SigO_en_mustkeep_sightLives : Enters Try.prog 47 := en Try.func47 (by kernel_rfl) (by kernel_rfl)
theorem SigO_fd_api_Field_2 : Fd Try.prog 24 2 2 := fun _ _ _ => by kernel_rfl
theorem SigO_ag_S_int : Ag Try.prog 22 false := fun _ => by kernel_rfl
theorem SigO_en_slices_Contains_S_int_int_ : Enters Try.prog 45 := en Try.func45 (by kernel_rfl) (by kernel_rfl)
theorem SigO_fd_api_Field_0 : Fd Try.prog 24 0 0 := fun _ _ _ => by kernel_rfl
theorem SigO_ag_int : Ag Try.prog 3 false := fun _ => by kernel_rfl
theorem SigO_fd_api_Cell_0 : Fd Try.prog 37 0 0 := fun _ _ _ => by kernel_rfl
theorem SigO_fd_api_Field_1 : Fd Try.prog 24 1 1 := fun _ _ _ => by kernel_rfl
theorem SigO_fd_api_Cell_1 : Fd Try.prog 37 1 1 := fun _ _ _ => by kernel_rfl
set_option maxRecDepth 100000 in
set_option maxHeartbeats 400000 in
theorem sightOpen_walk (f : Fld) (c : Cel) (r : Int) (A : Option Addr) (cp : Nat) (w : World) (hP : repI.SHas 8 w A cp f.places) :
    Calls Try.prog 13 #[.agg #[.int .i64 f.wide, .int .i64 f.high, .slice A f.places.length cp], .agg #[.int .i64 c.x, .int .i64 c.y], .int .i64 r] w (fun e w' => e = .returned (.bool true) ∧ Ext w w') := by
  refine calls_W (n := 69) Try.func13 rfl rfl rfl ?_
  refine sq <| rg <| bx rfl rfl rfl rfl fun w_1 b_2 x_3 l_4 B_5 => ?_
  have q_6 := x_3.size
  have z_1 := Ext.tr (Ext.rf w) x_3
  have q_7 := B_5.lt
  refine bx rfl rfl rfl rfl fun w_8 b_9 x_10 l_11 B_12 => ?_
  have q_13 := x_10.size
  have z_8 := Ext.tr z_1 x_10
  have q_14 := B_12.lt
  refine vl (as_ rfl) rfl <| nl <| nT <| sq <| rg <| ?_
  have B_5 := B_5.later x_10
  refine vl (ld rfl (B_5.all SigO_ag_api_Field SigO_sz_api_Field)) rfl <| vl (ld rfl (B_12.all SigO_ag_api_Cell SigO_sz_api_Cell)) rfl <| vl (mv rfl) rfl <| ca SigO_en_sight_Seen rfl rfl ((seen_any f c r _ _ _ (hP.keep z_8)).mono ?_)
  rintro e w_18 ⟨A_15, c_15, rfl, OS_15, x_19⟩
  refine ⟨_, rfl, ?_⟩
  have q_20 := x_19.size
  have z_18 := Ext.tr z_8 x_19
  have u_16 := fun q hq => (OS_15.lt q hq).2
  have lo_17 := fun q hq => (OS_15.lt q hq).1
  refine vl (mv rfl) rfl <| vl (ex rfl rfl) rfl <| vl (ex rfl rfl) rfl <| vl (as_ rfl) rfl <| vl (as_ rfl) rfl <| nl <| nT <| sq <| sq <| rg <| ca SigO_en_mustkeep_sightLives rfl rfl ((sightLives_any _).mono ?_)
  rintro e w_21 ⟨rfl, x_22⟩
  refine ⟨_, rfl, ?_⟩
  have q_23 := x_22.size
  have z_21 := Ext.tr z_18 x_22
  refine vl (nt rfl) rfl <| vl (mv rfl) rfl <| ug rfl rfl rfl <| vl (mv rfl) rfl <| ug rfl rfl rfl <| vl (bne rfl rfl) rfl <| vl (pkF rfl rfl) rfl <| nl <| nT <| ?_
  refine cne rfl (fun h_24 => ?_) (fun h_24 => ?_)
  · refine sq <| rg <| ca SigO_en_mustkeep_sightLives rfl rfl ((sightLives_any _).mono ?_)
    rintro e w_25 ⟨rfl, x_26⟩
    refine ⟨_, rfl, ?_⟩
    have q_27 := x_26.size
    have z_25 := Ext.tr z_21 x_26
    refine vl (as_ rfl) rfl <| nl <| nT <| rt <| tT <| tR (.tmp rfl .nil) <| ?_
    exact ⟨rfl, z_25⟩
  · have hE : seenE f c r = 0 := by simpa using h_24
    obtain ⟨h0, hr⟩ := seenE_ok hE
    obtain ⟨hc, hn⟩ := atE_chk h0
    obtain ⟨y1, y2, y3, y4, y5, y6⟩ := Fld.good hc
    refine sk <| nT <| sq <| sq <| rg <| vl (fa SigO_fd_api_Field_2 rfl) rfl <| ?_
    have B_5 := B_5.later (Ext.tr x_19 x_22)
    refine vl (ld rfl (B_5.one SigO_ag_S_int rfl)) rfl <| ca SigO_en_slices_Contains_S_int_int_ rfl rfl ((contains_I 1 _ _ f.places _ (hP.keep z_21)).mono ?_)
    rintro e w_28 ⟨rfl, x_29⟩
    refine ⟨_, rfl, ?_⟩
    have q_30 := x_29.size
    have z_28 := Ext.tr z_21 x_29
    refine vl (mv rfl) rfl <| vQ rfl rfl rfl rfl (fun hc => fa SigO_fd_api_Field_2 rfl) rfl <| ?_
    have B_5 := B_5.later x_29
    refine vQ rfl rfl rfl rfl (fun hc => ld (gt hc rfl) (B_5.one SigO_ag_S_int rfl)) rfl <| vC rfl rfl rfl rfl SigO_en_slices_Contains_S_int_int_ (fun hc => ec (gt hc rfl) (ec rfl rfl)) (fun hc => contains_I 2 _ _ f.places _ (hP.keep z_28)) rfl fun w_31 x_32 => ?_
    have q_33 := x_32.size
    have z_31 := Ext.tr z_28 x_32
    refine vl (pO rfl rfl rfl rfl) rfl <| nl <| nT <| ?_
    refine cb rfl (fun h_34 => ?_) (fun h_34 => ?_)
    · refine sq <| rg <| vl (as_ rfl) rfl <| nl <| nT <| rt <| tT <| tR (.tmp rfl .nil) <| ?_
      exact ⟨rfl, z_31⟩
    · have hmul := Int.mul_le_mul (show min (f.wide - 1) (c.x + r) - max 0 (c.x - r) + 1 ≤ 25 by omega) (show min (f.high - 1) (c.y + r) - max 0 (c.y - r) + 1 ≤ 25 by omega) (by omega) (by omega)
      have hmul0 := Int.mul_nonneg (show 0 ≤ min (f.wide - 1) (c.x + r) - max 0 (c.x - r) + 1 by omega) (show 0 ≤ min (f.high - 1) (c.y + r) - max 0 (c.y - r) + 1 by omega)
      refine sk <| nT <| sq <| rg <| vl (fa SigO_fd_api_Field_0 rfl) rfl <| ?_
      have B_5 := B_5.later x_32
      refine vl (ld rfl (B_5.one SigO_ag_int rfl)) rfl <| vl (bsu rfl rfl (inI (by omega))) rfl <| vl (fa SigO_fd_api_Cell_0 rfl) rfl <| ?_
      have B_12 := B_12.later (Ext.tr x_19 (Ext.tr x_22 (Ext.tr x_29 x_32)))
      refine vl (ld rfl (B_12.one SigO_ag_int rfl)) rfl <| vl (mv rfl) rfl <| vl (bad rfl rfl (inI (by omega))) rfl <| vl (mn rfl rfl) rfl <| vl (fa SigO_fd_api_Cell_0 rfl) rfl <| vl (ld rfl (B_12.one SigO_ag_int rfl)) rfl <| vl (mv rfl) rfl <| vl (bsu rfl rfl (inI (by omega))) rfl <| vl (mx rfl rfl) rfl <| vl (bsu rfl rfl (inI (by omega))) rfl <| vl (bad rfl rfl (inI (by omega))) rfl <| vl (as_ rfl) rfl <| nl <| nT <| sq <| rg <| vl (fa SigO_fd_api_Field_1 rfl) rfl <| vl (ld rfl (B_5.one SigO_ag_int rfl)) rfl <| vl (bsu rfl rfl (inI (by omega))) rfl <| vl (fa SigO_fd_api_Cell_1 rfl) rfl <| vl (ld rfl (B_12.one SigO_ag_int rfl)) rfl <| vl (mv rfl) rfl <| vl (bad rfl rfl (inI (by omega))) rfl <| vl (mn rfl rfl) rfl <| ?_
      refine vl (fa SigO_fd_api_Cell_1 rfl) rfl <| vl (ld rfl (B_12.one SigO_ag_int rfl)) rfl <| vl (mv rfl) rfl <| vl (bsu rfl rfl (inI (by omega))) rfl <| vl (mx rfl rfl) rfl <| vl (bsu rfl rfl (inI (by omega))) rfl <| vl (bad rfl rfl (inI (by omega))) rfl <| vl (as_ rfl) rfl <| nl <| nT <| sq <| rg <| vl (mv rfl) rfl <| vl (ln Try.underlying25 rfl) rfl <| vl (mv rfl) rfl <| vl (mv rfl) rfl <| vl (bmu rfl rfl (inI (by omega))) rfl <| vl (beq rfl rfl) rfl <| vl (as_ rfl) rfl <| nl <| nT <| rt <| tR (.tmp rfl .nil) <| ?_
      exact ⟨ret_true (by rw [open_yes hE h_34]; simp), z_31⟩
theorem sightOpen_any (c0 : Array Value) (c1 : Array Value) (a2 : Int) (w : World) (h0 : (.cons (.int .i64) (.cons (.int .i64) (.cons (.slice (.int .i64) 8) .nil)) : Sh).Ok w c0.toList) (h1 : (.cons (.int .i64) (.cons (.int .i64) .nil) : Sh).Ok w c1.toList) (w2 : (Lit.int .i64 a2).wf = true) :
    Calls Try.prog 13 #[.agg c0, .agg c1, .int .i64 a2] w fun e w' => e = .returned (.bool true) ∧ Below w.heap.size w w' := by
  obtain ⟨f, A, cp, e0, hP, hkw, hkh⟩ := Fld.opens w _ (show Wd.fsh.Ok w c0.toList from h0)
  have hc : c0 = #[.int .i64 f.wide, .int .i64 f.high, .slice A f.places.length cp] := by rw [← e0]
  subst hc
  obtain ⟨c, e1⟩ := Cel.opens_v w _ (show Cel.sh.Ok w c1.toList from h1)
  have hc1 : c1 = #[.int .i64 c.x, .int .i64 c.y] := by rw [← e1]
  subst hc1
  exact sightOpen_walk f c a2 A cp w hP
end Go.Proofs.Yticfnngppcmidaa
