/-
  MistOnce. (Printed by bin/mistlaw.py.)
-/
import Derived.Test.YtkijhejjnlmbmaaMiL
set_option linter.unusedVariables false
set_option linter.unusedSimpArgs false
namespace Go.Proofs.Ytkijhejjnlmbmaa
open Go.RowKit

theorem MiO_ag_api_World : Ag Try.prog 46 true := fun _ => by kernel_rfl
theorem MiO_sz_api_World : Sz Try.prog 46 9 := fun _ => by kernel_rfl
theorem MiO_en_mist_View : Enters Try.prog 25 := en Try.func25 (by kernel_rfl) (by kernel_rfl)
theorem MiO_zv_api_World : Zv Try.prog 46 (.agg #[.int .i64 0, .int .i64 0, .slice none 0 0, .slice none 0 0, .slice none 0 0, .slice none 0 0, .slice none 0 0, .int .i64 0, .int .i64 0]) := fun _ => by kernel_rfl
theorem MiO_en_mustkeep_mistLives : Enters Try.prog 26 := en Try.func26 (by kernel_rfl) (by kernel_rfl)
theorem MiO_en_mist_Cells : Enters Try.prog 30 := en Try.func30 (by kernel_rfl) (by kernel_rfl)
theorem MiO_en_mustref_SameWorld : Enters Try.prog 31 := en Try.func31 (by kernel_rfl) (by kernel_rfl)
theorem MiO_en_slices_Equal_S_api_Cell_api_Cell_ : Enters Try.prog 29 := en Try.func29 (by kernel_rfl) (by kernel_rfl)
set_option maxRecDepth 100000 in
set_option maxHeartbeats 400000 in
theorem mistOnce_walk (a : Wd.At) (W : Wd) (p : Int) (w : World) (hW : Wd.Has w a W) :
    Calls Try.prog 7 #[.agg ((Wd.cells a W).toArray), .int .i64 p] w (fun e w' => e = .returned (.bool true) ∧ Ext w w') := by
  refine calls_W (n := 64) Try.func7 rfl rfl rfl ?_
  refine sq <| rg <| bx rfl rfl rfl rfl fun w_1 b_2 x_3 l_4 B_5 => ?_
  have q_6 := x_3.size
  have z_1 := Ext.tr (Ext.rf w) x_3
  have q_7 := B_5.lt
  refine vl (as_ rfl) rfl <| nl <| nT <| sq <| rg <| vl (ld rfl (B_5.all MiO_ag_api_World MiO_sz_api_World)) rfl <| vl (mv rfl) rfl <| ca MiO_en_mist_View rfl rfl ((view_any a W p _ (hW.keep z_1)).mono ?_)
  rintro e w_11 ⟨a_8, rfl, HV_8, x_12⟩
  refine ⟨_, rfl, ?_⟩
  have q_13 := x_12.size
  have z_11 := Ext.tr z_1 x_12
  have u_9 := fun q hq => (HV_8.lt q hq).2
  have lo_10 := fun q hq => (HV_8.lt q hq).1
  refine vl (mv rfl) rfl <| vl (ex rfl rfl) rfl <| vl (ex rfl rfl) rfl <| al rfl MiO_zv_api_World rfl rfl fun w_14 b_15 x_16 l_17 B_18 => ?_
  have q_19 := x_16.size
  have z_14 := Ext.tr z_11 x_16
  have q_20 := B_18.lt
  refine st rfl rfl B_18 rfl MiO_sz_api_World rfl rfl rfl fun w_21 m_22 B_18 => ?_
  have q_24 := m_22.size
  have z_21 := Ext.mod z_14 m_22 (by simp only [List.mem_singleton, forall_eq]; omega)
  have q_23 := m_22.size
  refine vl (as_ rfl) rfl <| nl <| nT <| sq <| sq <| rg <| ca MiO_en_mustkeep_mistLives rfl rfl ((mistLives_any _).mono ?_)
  rintro e w_25 ⟨rfl, x_26⟩
  refine ⟨_, rfl, ?_⟩
  have q_27 := x_26.size
  have z_25 := Ext.tr z_21 x_26
  refine vl (nt rfl) rfl <| vl (mv rfl) rfl <| ug rfl rfl rfl <| vl (mv rfl) rfl <| ug rfl rfl rfl <| vl (bne rfl rfl) rfl <| vl (pkF rfl rfl) rfl <| nl <| nT <| ?_
  refine cne rfl (fun h_28 => ?_) (fun h_28 => ?_)
  · refine sq <| rg <| ca MiO_en_mustkeep_mistLives rfl rfl ((mistLives_any _).mono ?_)
    rintro e w_29 ⟨rfl, x_30⟩
    refine ⟨_, rfl, ?_⟩
    have q_31 := x_30.size
    have z_29 := Ext.tr z_25 x_30
    refine vl (as_ rfl) rfl <| nl <| nT <| rt <| tT <| tR (.tmp rfl .nil) <| ?_
    exact ⟨rfl, z_29⟩
  · have e0 : mistE W p = 0 := by simpa using h_28
    refine sk <| nT <| sq <| rg <| ?_
    have B_18 := B_18.later x_26
    refine vl (ld rfl (B_18.all MiO_ag_api_World MiO_sz_api_World)) rfl <| vl (mv rfl) rfl <| ?_
    have HV_8 := HV_8.later x_16
    have HV_8 := HV_8.mod m_22 (fun q hq h => by have hb := List.mem_singleton.1 h; exfalso; (have := u_9 q hq; omega))
    have HV_8 := HV_8.later x_26
    refine ca MiO_en_mist_View rfl rfl ((view_any a_8 (viewW W p) p _ HV_8.has).mono ?_)
    rintro e w_35 ⟨a_32, rfl, HV_32, x_36⟩
    refine ⟨_, rfl, ?_⟩
    have q_37 := x_36.size
    have z_35 := Ext.tr z_25 x_36
    have u_33 := fun q hq => (HV_32.lt q hq).2
    have lo_34 := fun q hq => (HV_32.lt q hq).1
    refine vl (mv rfl) rfl <| vl (ex rfl rfl) rfl <| vl (ex rfl rfl) rfl <| al rfl MiO_zv_api_World rfl rfl fun w_38 b_39 x_40 l_41 B_42 => ?_
    have q_43 := x_40.size
    have z_38 := Ext.tr z_35 x_40
    have q_44 := B_42.lt
    refine st rfl rfl B_42 rfl MiO_sz_api_World rfl rfl rfl fun w_45 m_46 B_42 => ?_
    have q_48 := m_46.size
    have z_45 := Ext.mod z_38 m_46 (by simp only [List.mem_singleton, forall_eq]; omega)
    have q_47 := m_46.size
    refine vl (as_ rfl) rfl <| nl <| nT <| sq <| rg <| ?_
    have B_5 := B_5.later (Ext.tr x_12 x_16)
    have B_5 := B_5.mod m_22 (by simp only [List.mem_singleton]; omega)
    have B_5 := B_5.later (Ext.tr x_26 (Ext.tr x_36 x_40))
    have B_5 := B_5.mod m_46 (by simp only [List.mem_singleton]; omega)
    refine vl (ld rfl (B_5.all MiO_ag_api_World MiO_sz_api_World)) rfl <| vl (mv rfl) rfl <| ca MiO_en_mist_Cells rfl rfl ((cells_any a W p _ (hW.keep z_45)).mono ?_)
    rintro e w_52 ⟨A_49, c_49, rfl, OK_49, x_53⟩
    refine ⟨_, rfl, ?_⟩
    have q_54 := x_53.size
    have z_52 := Ext.tr z_45 x_53
    have u_50 := fun q hq => (OK_49.lt q hq).2
    have lo_51 := fun q hq => (OK_49.lt q hq).1
    refine vl (mv rfl) rfl <| vl (ex rfl rfl) rfl <| vl (ex rfl rfl) rfl <| vl (as_ rfl) rfl <| vl (as_ rfl) rfl <| nl <| nT <| sq <| rg <| ?_
    have B_18 := B_18.later (Ext.tr x_36 x_40)
    have B_18 := B_18.mod m_46 (by simp only [List.mem_singleton]; omega)
    have B_18 := B_18.later x_53
    refine vl (ld rfl (B_18.all MiO_ag_api_World MiO_sz_api_World)) rfl <| vl (mv rfl) rfl <| ?_
    have HV_8 := HV_8.later (Ext.tr x_36 x_40)
    have HV_8 := HV_8.mod m_46 (fun q hq h => by have hb := List.mem_singleton.1 h; exfalso; (have := u_9 q hq; omega))
    have HV_8 := HV_8.later x_53
    refine ca MiO_en_mist_Cells rfl rfl ((cells_any a_8 (viewW W p) p _ HV_8.has).mono ?_)
    rintro e w_58 ⟨A_55, c_55, rfl, OK_55, x_59⟩
    refine ⟨_, rfl, ?_⟩
    have q_60 := x_59.size
    have z_58 := Ext.tr z_52 x_59
    have u_56 := fun q hq => (OK_55.lt q hq).2
    have lo_57 := fun q hq => (OK_55.lt q hq).1
    refine vl (mv rfl) rfl <| vl (ex rfl rfl) rfl <| vl (ex rfl rfl) rfl <| vl (as_ rfl) rfl <| vl (as_ rfl) rfl <| nl <| nT <| sq <| rg <| vl (mv rfl) rfl <| vl (beq rfl rfl) rfl <| vl (mv rfl) rfl <| vQ rfl rfl rfl rfl (fun hc => mv rfl) rfl <| vQ rfl rfl rfl rfl (fun hc => beq (gt hc rfl) rfl) rfl <| vl (pA rfl rfl rfl rfl) rfl <| vl (mv rfl) rfl <| vQ rfl rfl rfl rfl (fun hc => mv rfl) rfl <| vQ rfl rfl rfl rfl (fun hc => beq (gt hc rfl) rfl) rfl <| vl (pA rfl rfl rfl rfl) rfl <| vl (mv rfl) rfl <| ?_
    have B_42 := B_42.later (Ext.tr x_53 x_59)
    refine vQ rfl rfl rfl rfl (fun hc => ld rfl (B_42.all MiO_ag_api_World MiO_sz_api_World)) rfl <| ?_
    have B_18 := B_18.later x_59
    refine vQ rfl rfl rfl rfl (fun hc => ld rfl (B_18.all MiO_ag_api_World MiO_sz_api_World)) rfl <| ?_
    have HV_32 := HV_32.later x_40
    have HV_32 := HV_32.mod m_46 (fun q hq h => by have hb := List.mem_singleton.1 h; exfalso; (have := u_33 q hq; omega))
    have HV_32 := HV_32.later (Ext.tr x_53 x_59)
    have HV_8 := HV_8.later x_59
    refine vC rfl rfl rfl rfl MiO_en_mustref_SameWorld (fun hc => ec (gt hc rfl) (ec (gt hc rfl) rfl)) (fun hc => sameWorld_any _ a_32 (viewW (viewW W p) p) a_8 (viewW W p) HV_32.has HV_8.has) rfl fun w_61 x_62 => ?_
    have q_63 := x_62.size
    have z_61 := Ext.tr z_58 x_62
    refine vl (pA rfl rfl rfl rfl) rfl <| vl (mv rfl) rfl <| vQ rfl rfl rfl rfl (fun hc => mv rfl) rfl <| vQ rfl rfl rfl rfl (fun hc => mv rfl) rfl <| ?_
    have OK_49 := OK_49.later (Ext.tr x_59 x_62)
    have OK_55 := OK_55.later x_62
    refine vC rfl rfl rfl rfl MiO_en_slices_Equal_S_api_Cell_api_Cell_ (fun hc => ec (gt hc rfl) (ec (gt hc rfl) rfl)) (fun hc => equal_C _ _ _ _ _ _ (cellsL W p) (cellsL (viewW W p) p) _ OK_49.has OK_55.has) rfl fun w_64 x_65 => ?_
    have q_66 := x_65.size
    have z_64 := Ext.tr z_61 x_65
    refine vl (pA rfl rfl rfl rfl) rfl <| vl (as_ rfl) rfl <| nl <| nT <| rt <| tR (.tmp rfl .nil) <| ?_
    exact ⟨ret_true (by rw [view_E e0, e0, view_twice e0, cells_view e0]; simp), z_64⟩
theorem mistOnce_any (c0 : Array Value) (a1 : Int) (w : World) (h0 : (.cons (.cons (.int .i64) (.cons (.int .i64) (.cons (.slice (.int .i64) 8) .nil))) (.cons (.slice (.cons (.int .i64) (.cons (.int .i64) .nil)) 16) (.cons (.slice (.int .i64) 8) (.cons (.slice (.int .i64) 8) (.cons (.slice (.cons (.int .i64) (.cons (.int .i64) (.cons (.int .i64) (.cons (.cons (.int .i64) (.cons (.int .i64) .nil)) (.cons (.int .i64) (.cons (.int .i64) .nil)))))) 56) (.cons (.int .i64) (.cons (.int .i64) .nil)))))) : Sh).Ok w c0.toList) (w1 : (Lit.int .i64 a1).wf = true) :
    Calls Try.prog 7 #[.agg c0, .int .i64 a1] w fun e w' => e = .returned (.bool true) ∧ Below w.heap.size w w' := by
  obtain ⟨a, W, e, hW⟩ := Wd.opens w _ (show Wd.sh.Ok w c0.toList from h0)
  have hc : c0 = (Wd.cells a W).toArray := by rw [← e]
  subst hc
  exact mistOnce_walk a W a1 w hW
end Go.Proofs.Ytkijhejjnlmbmaa
