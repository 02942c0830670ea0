/-
  Who is among troops; a player sees its own. (Printed by bin/mistlaw.py.)
-/
import Derived.Test.YtkijhejjnlmbmaaMiP
set_option linter.unusedVariables false
set_option linter.unusedSimpArgs false
namespace Go.Proofs.Ytkijhejjnlmbmaa
open Go.RowKit

theorem MiL_en_mustkeep_small : Enters Try.prog 67 := en Try.func67 (by kernel_rfl) (by kernel_rfl)
theorem MiL_en_mist_Cells : Enters Try.prog 30 := en Try.func30 (by kernel_rfl) (by kernel_rfl)
theorem MiL_en_mist_View : Enters Try.prog 25 := en Try.func25 (by kernel_rfl) (by kernel_rfl)
theorem MiL_zv_api_World : Zv Try.prog 46 (.agg #[.int .i64 0, .int .i64 0, .slice none 0 0, .slice none 0 0, .slice none 0 0, .slice none 0 0, .slice none 0 0, .int .i64 0, .int .i64 0]) := fun _ => by kernel_rfl
theorem MiL_sz_api_World : Sz Try.prog 46 9 := fun _ => by kernel_rfl
theorem MiL_fd_api_World_4 : Fd Try.prog 46 4 6 := fun _ _ _ => by kernel_rfl
theorem MiL_ag_S_api_Troop : Ag Try.prog 44 false := fun _ => by kernel_rfl
theorem MiL_fd_api_World_5 : Fd Try.prog 46 5 7 := fun _ _ _ => by kernel_rfl
theorem MiL_ag_int : Ag Try.prog 3 false := fun _ => by kernel_rfl
set_option maxRecDepth 100000 in
set_option maxHeartbeats 400000 in
theorem mistLives_any  (w : World) :
    Calls Try.prog 26 #[] w (fun e w' => e = .returned (.bool true) ∧ Ext w w') := by
  refine calls_W (n := 37) Try.func26 rfl rfl rfl ?_
  refine sq <| rg <| vl (as_ rfl) rfl <| nl <| nT <| sq <| rg <| ca MiL_en_mustkeep_small rfl rfl ((small_any _).mono ?_)
  rintro e w_4 ⟨a_1, rfl, HO_1, x_5⟩
  refine ⟨_, rfl, ?_⟩
  have q_6 := x_5.size
  have z_4 := Ext.tr (Ext.rf w) x_5
  have u_2 := fun q hq => (HO_1.lt q hq).2
  have lo_3 := fun q hq => (HO_1.lt q hq).1
  refine ca MiL_en_mist_Cells rfl rfl ((cells_any a_1 smallW 0 _ HO_1.has).mono ?_)
  rintro e w_10 ⟨A_7, c_7, rfl, OK_7, x_11⟩
  refine ⟨_, rfl, ?_⟩
  have q_12 := x_11.size
  have z_10 := Ext.tr z_4 x_11
  have u_8 := fun q hq => (OK_7.lt q hq).2
  have lo_9 := fun q hq => (OK_7.lt q hq).1
  refine vl (mv rfl) rfl <| vl (ex rfl rfl) rfl <| vl (ex rfl rfl) rfl <| vl (as_ rfl) rfl <| vl (as_ rfl) rfl <| nl <| nT <| sq <| rg <| ca MiL_en_mustkeep_small rfl rfl ((small_any _).mono ?_)
  rintro e w_16 ⟨a_13, rfl, HO_13, x_17⟩
  refine ⟨_, rfl, ?_⟩
  have q_18 := x_17.size
  have z_16 := Ext.tr z_10 x_17
  have u_14 := fun q hq => (HO_13.lt q hq).2
  have lo_15 := fun q hq => (HO_13.lt q hq).1
  refine ca MiL_en_mist_View rfl rfl ((view_any a_13 smallW 0 _ HO_13.has).mono ?_)
  rintro e w_22 ⟨a_19, rfl, HV_19, x_23⟩
  refine ⟨_, rfl, ?_⟩
  have q_24 := x_23.size
  have z_22 := Ext.tr z_16 x_23
  have u_20 := fun q hq => (HV_19.lt q hq).2
  have lo_21 := fun q hq => (HV_19.lt q hq).1
  refine vl (mv rfl) rfl <| vl (ex rfl rfl) rfl <| vl (ex rfl rfl) rfl <| al rfl MiL_zv_api_World rfl rfl fun w_25 b_26 x_27 l_28 B_29 => ?_
  have q_30 := x_27.size
  have z_25 := Ext.tr z_22 x_27
  have q_31 := B_29.lt
  refine st rfl rfl B_29 rfl MiL_sz_api_World rfl rfl rfl fun w_32 m_33 B_29 => ?_
  have q_35 := m_33.size
  have z_32 := Ext.mod z_25 m_33 (by simp only [List.mem_singleton, forall_eq]; omega)
  have q_34 := m_33.size
  refine vl (as_ rfl) rfl <| nl <| nT <| sq <| rg <| vl (mv rfl) rfl <| vl (beq rfl rfl) rfl <| vl (mv rfl) rfl <| vQ rfl rfl rfl rfl (fun hc => mv rfl) rfl <| vQ rfl rfl rfl rfl (fun hc => beq (gt hc rfl) rfl) rfl <| vl (pA rfl rfl rfl rfl) rfl <| vl (mv rfl) rfl <| vQ rfl rfl rfl rfl (fun hc => mv rfl) rfl <| vQ rfl rfl rfl rfl (fun hc => ln Try.underlying43 (gt hc rfl)) rfl <| vQ rfl rfl rfl rfl (fun hc => beq (gt hc rfl) rfl) rfl <| vl (pA rfl rfl rfl rfl) rfl <| vl (mv rfl) rfl <| vQ rfl rfl rfl rfl (fun hc => fa MiL_fd_api_World_4 rfl) rfl <| vQ rfl rfl rfl rfl (fun hc => ld (gt hc rfl) (B_29.one MiL_ag_S_api_Troop rfl)) rfl <| vQ rfl rfl rfl rfl (fun hc => ln Try.underlying44 (gt hc rfl)) rfl <| vQ rfl rfl rfl rfl (fun hc => beq (gt hc rfl) rfl) rfl <| vl (pA rfl rfl rfl rfl) rfl <| vl (mv rfl) rfl <| vQ rfl rfl rfl rfl (fun hc => fa MiL_fd_api_World_5 rfl) rfl <| ?_
  refine vQ rfl rfl rfl rfl (fun hc => ld (gt hc rfl) (B_29.one MiL_ag_int rfl)) rfl <| vQ rfl rfl rfl rfl (fun hc => beq (gt hc rfl) rfl) rfl <| vl (pA rfl rfl rfl rfl) rfl <| vl (as_ rfl) rfl <| nl <| nT <| rt <| tR (.tmp rfl .nil) <| ?_
  exact ⟨ret_true (by decide +kernel), z_32⟩
end Go.Proofs.Ytkijhejjnlmbmaa
