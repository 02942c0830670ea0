/-
  SightBoth. (Printed by bin/sightlaw2.py.)
-/
import Derived.Test.YticfnngppcmidaaSigP
set_option linter.unusedVariables false
set_option linter.unusedSimpArgs false
namespace Go.Proofs.Yticfnngppcmidaa
open Go.RowKit

theorem SigB_ag_api_Field : Ag Try.prog 24 true := fun _ => by kernel_rfl
theorem SigB_sz_api_Field : Sz Try.prog 24 3 := fun _ => by kernel_rfl
theorem SigB_ag_api_Cell : Ag Try.prog 37 true := fun _ => by kernel_rfl
theorem SigB_sz_api_Cell : Sz Try.prog 37 2 := fun _ => by kernel_rfl
theorem SigB_en_sight_Sees : Enters Try.prog 46 := en Try.func46 (by kernel_rfl) (by kernel_rfl)
theorem SigB_en_mustkeep_sightLives : Enters Try.prog 47 := en Try.func47 (by kernel_rfl) (by kernel_rfl)
theorem SigB_fd_api_Cell_0 : Fd Try.prog 37 0 0 := fun _ _ _ => by kernel_rfl
theorem SigB_ag_int : Ag Try.prog 3 false := fun _ => by kernel_rfl
theorem SigB_fd_api_Cell_1 : Fd Try.prog 37 1 1 := fun _ _ _ => by kernel_rfl
set_option maxRecDepth 100000 in
set_option maxHeartbeats 400000 in
theorem sightBoth_walk (f : Fld) (a b : Cel) (A : Option Addr) (cp : Nat) (w : World) (hP : repI.SHas 8 w A cp f.places) :
    Calls Try.prog 12 #[.agg #[.int .i64 f.wide, .int .i64 f.high, .slice A f.places.length cp], .agg #[.int .i64 a.x, .int .i64 a.y], .agg #[.int .i64 b.x, .int .i64 b.y]] w (fun e w' => e = .returned (.bool true) ∧ Ext w w') := by
  have hsym : ((seesV f a b) == (seesV f b a)) = true := by rw [seesV_sym f a b]; simp
  refine calls_W (n := 82) Try.func12 rfl rfl rfl ?_
  refine sq <| rg <| bx rfl rfl rfl rfl fun w_1 b_2 x_3 l_4 B_5 => ?_
  have q_6 := x_3.size
  have z_1 := Ext.tr (Ext.rf w) x_3
  have q_7 := B_5.lt
  refine bx rfl rfl rfl rfl fun w_8 b_9 x_10 l_11 B_12 => ?_
  have q_13 := x_10.size
  have z_8 := Ext.tr z_1 x_10
  have q_14 := B_12.lt
  refine bx rfl rfl rfl rfl fun w_15 b_16 x_17 l_18 B_19 => ?_
  have q_20 := x_17.size
  have z_15 := Ext.tr z_8 x_17
  have q_21 := B_19.lt
  refine vl (as_ rfl) rfl <| nl <| nT <| sq <| rg <| ?_
  have B_5 := B_5.later (Ext.tr x_10 x_17)
  refine vl (ld rfl (B_5.all SigB_ag_api_Field SigB_sz_api_Field)) rfl <| ?_
  have B_12 := B_12.later x_17
  refine vl (ld rfl (B_12.all SigB_ag_api_Cell SigB_sz_api_Cell)) rfl <| vl (ld rfl (B_19.all SigB_ag_api_Cell SigB_sz_api_Cell)) rfl <| ca SigB_en_sight_Sees rfl rfl ((sees_any f a b _ _ _ (hP.keep z_15)).mono ?_)
  rintro e w_22 ⟨rfl, x_23⟩
  refine ⟨_, rfl, ?_⟩
  have q_24 := x_23.size
  have z_22 := Ext.tr z_15 x_23
  refine vl (mv rfl) rfl <| vl (ex rfl rfl) rfl <| vl (ex rfl rfl) rfl <| vl (as_ rfl) rfl <| vl (as_ rfl) rfl <| nl <| nT <| sq <| rg <| ?_
  have B_5 := B_5.later x_23
  refine vl (ld rfl (B_5.all SigB_ag_api_Field SigB_sz_api_Field)) rfl <| ?_
  have B_19 := B_19.later x_23
  refine vl (ld rfl (B_19.all SigB_ag_api_Cell SigB_sz_api_Cell)) rfl <| ?_
  have B_12 := B_12.later x_23
  refine vl (ld rfl (B_12.all SigB_ag_api_Cell SigB_sz_api_Cell)) rfl <| ca SigB_en_sight_Sees rfl rfl ((sees_any f b a _ _ _ (hP.keep z_22)).mono ?_)
  rintro e w_25 ⟨rfl, x_26⟩
  refine ⟨_, rfl, ?_⟩
  have q_27 := x_26.size
  have z_25 := Ext.tr z_22 x_26
  refine vl (mv rfl) rfl <| vl (ex rfl rfl) rfl <| vl (ex rfl rfl) rfl <| vl (as_ rfl) rfl <| vl (as_ rfl) rfl <| nl <| nT <| sq <| sq <| rg <| ca SigB_en_mustkeep_sightLives rfl rfl ((sightLives_any _).mono ?_)
  rintro e w_28 ⟨rfl, x_29⟩
  refine ⟨_, rfl, ?_⟩
  have q_30 := x_29.size
  have z_28 := Ext.tr z_25 x_29
  refine vl (nt rfl) rfl <| vl (mv rfl) rfl <| ug rfl rfl rfl <| vl (mv rfl) rfl <| ug rfl rfl rfl <| vl (bne rfl rfl) rfl <| vl (pkF rfl rfl) rfl <| vl (mv rfl) rfl <| vQ rfl rfl rfl rfl (fun hc => mv rfl) rfl <| vQ rfl rfl rfl rfl (fun hc => bne (gt hc rfl) rfl) rfl <| vl (pO rfl rfl rfl rfl) rfl <| nl <| nT <| ?_
  refine cb rfl (fun h_31 => ?_) (fun h_31 => ?_)
  · refine sq <| rg <| ca SigB_en_mustkeep_sightLives rfl rfl ((sightLives_any _).mono ?_)
    rintro e w_32 ⟨rfl, x_33⟩
    refine ⟨_, rfl, ?_⟩
    have q_34 := x_33.size
    have z_32 := Ext.tr z_28 x_33
    refine vl (mv rfl) rfl <| ug rfl rfl rfl <| vl (mv rfl) rfl <| ug rfl rfl rfl <| vl (mv rfl) rfl <| ug rfl rfl rfl <| vl (beq rfl rfl) rfl <| vl (pkT rfl rfl) rfl <| vl (mv rfl) rfl <| vQ rfl rfl rfl rfl (fun hc => mv rfl) rfl <| vQ rfl rfl rfl rfl (fun hc => nt (gt hc rfl)) rfl <| vl (pA rfl rfl rfl rfl) rfl <| vl (mv rfl) rfl <| vQ rfl rfl rfl rfl (fun hc => mv rfl) rfl <| vQ rfl rfl rfl rfl (fun hc => nt (gt hc rfl)) rfl <| vl (pA rfl rfl rfl rfl) rfl <| vl (as_ rfl) rfl <| nl <| nT <| rt <| tT <| tR (.tmp rfl .nil) <| ?_
    exact ⟨ret_true (both_no h_31), z_32⟩
  · have hE : seesE f a b = 0 := by simp only [Bool.or_eq_true, Bool.or_eq_false_iff, Bool.and_eq_true, Bool.and_eq_false_iff, decide_eq_true_eq, decide_eq_false_iff_not, beq_iff_eq, bne_iff_ne, beq_eq_false_iff_ne, bne_eq_false_iff_eq, Bool.not_eq_true', Bool.not_eq_false', Bool.not_eq_true, Bool.not_eq_false, Int.not_lt, Int.not_le, Nat.not_lt, Nat.not_le, ne_eq, Classical.not_not] at h_31; exact h_31.1
    obtain ⟨ha0, hb0⟩ := seesE_ok hE
    have hna := atE_near ha0
    have hnb := atE_near hb0
    refine sk <| nT <| sq <| rg <| vl (fa SigB_fd_api_Cell_0 rfl) rfl <| ?_
    have B_12 := B_12.later (Ext.tr x_26 x_29)
    refine vl (ld rfl (B_12.one SigB_ag_int rfl)) rfl <| vl (fa SigB_fd_api_Cell_0 rfl) rfl <| ?_
    have B_19 := B_19.later (Ext.tr x_26 x_29)
    refine vl (ld rfl (B_19.one SigB_ag_int rfl)) rfl <| vl (bsu rfl rfl (inI (by omega))) rfl <| vl (fa SigB_fd_api_Cell_0 rfl) rfl <| vl (ld rfl (B_19.one SigB_ag_int rfl)) rfl <| vl (fa SigB_fd_api_Cell_0 rfl) rfl <| vl (ld rfl (B_12.one SigB_ag_int rfl)) rfl <| vl (bsu rfl rfl (inI (by omega))) rfl <| vl (fa SigB_fd_api_Cell_1 rfl) rfl <| vl (ld rfl (B_12.one SigB_ag_int rfl)) rfl <| vl (fa SigB_fd_api_Cell_1 rfl) rfl <| vl (ld rfl (B_19.one SigB_ag_int rfl)) rfl <| vl (bsu rfl rfl (inI (by omega))) rfl <| vl (fa SigB_fd_api_Cell_1 rfl) rfl <| vl (ld rfl (B_19.one SigB_ag_int rfl)) rfl <| vl (fa SigB_fd_api_Cell_1 rfl) rfl <| vl (ld rfl (B_12.one SigB_ag_int rfl)) rfl <| vl (bsu rfl rfl (inI (by omega))) rfl <| vl (mX rfl rfl rfl rfl) rfl <| vl (ble rfl rfl) rfl <| vl (as_ rfl) rfl <| nl <| nT <| sq <| rg <| ?_
    refine vl (mv rfl) rfl <| vl (mv rfl) rfl <| vl (bqB Try.underlying4 rfl rfl) rfl <| vl (mv (evb rfl hsym)) rfl <| ug rfl rfl rfl <| vl (mv rfl) rfl <| ug rfl rfl rfl <| vl (nt rfl) rfl <| ug rfl rfl rfl <| vl (mv rfl) rfl <| vQ rfl rfl rfl rfl (fun hc => mv rfl) rfl <| ug rfl rfl rfl <| vl (pO rfl rfl rfl rfl) rfl <| vl (pkT rfl rfl) rfl <| vl (as_ rfl) rfl <| nl <| nT <| rt <| tR (.tmp rfl .nil) <| ?_
    exact ⟨ret_true (both_yes hE), z_28⟩
theorem sightBoth_any (c0 : Array Value) (c1 : Array Value) (c2 : Array Value) (w : World) (h0 : (.cons (.int .i64) (.cons (.int .i64) (.cons (.slice (.int .i64) 8) .nil)) : Sh).Ok w c0.toList) (h1 : (.cons (.int .i64) (.cons (.int .i64) .nil) : Sh).Ok w c1.toList) (h2 : (.cons (.int .i64) (.cons (.int .i64) .nil) : Sh).Ok w c2.toList) :
    Calls Try.prog 12 #[.agg c0, .agg c1, .agg c2] w fun e w' => e = .returned (.bool true) ∧ Below w.heap.size w w' := by
  obtain ⟨f, A, cp, e0, hP, hkw, hkh⟩ := Fld.opens w _ (show Wd.fsh.Ok w c0.toList from h0)
  have hc : c0 = #[.int .i64 f.wide, .int .i64 f.high, .slice A f.places.length cp] := by rw [← e0]
  subst hc
  obtain ⟨a, e1⟩ := Cel.opens_v w _ (show Cel.sh.Ok w c1.toList from h1)
  have hc1 : c1 = #[.int .i64 a.x, .int .i64 a.y] := by rw [← e1]
  subst hc1
  obtain ⟨b, e2⟩ := Cel.opens_v w _ (show Cel.sh.Ok w c2.toList from h2)
  have hc2 : c2 = #[.int .i64 b.x, .int .i64 b.y] := by rw [← e2]
  subst hc2
  exact sightBoth_walk f a b A cp w hP
end Go.Proofs.Yticfnngppcmidaa
