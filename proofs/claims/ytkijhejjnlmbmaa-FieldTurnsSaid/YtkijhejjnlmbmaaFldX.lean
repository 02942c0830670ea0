/-
  FieldTurns. (Printed by bin/fieldturns.py.)
-/
import Derived.Test.YtkijhejjnlmbmaaFldU
import Derived.Test.YtkijhejjnlmbmaaSrt
import Derived.Test.YtkijhejjnlmbmaaClone
set_option linter.unusedVariables false
set_option linter.unusedSimpArgs false
namespace Go.Proofs.Ytkijhejjnlmbmaa
open Go.RowKit

theorem FldX_ag_api_Field : Ag Try.prog 24 true := fun _ => by kernel_rfl
theorem FldX_sz_api_Field : Sz Try.prog 24 3 := fun _ => by kernel_rfl
theorem FldX_en_field_Turn : Enters Try.prog 20 := en Try.func20 (by kernel_rfl) (by kernel_rfl)
theorem FldX_zv_api_Field : Zv Try.prog 24 (.agg #[.int .i64 0, .int .i64 0, .slice none 0 0]) := fun _ => by kernel_rfl
theorem FldX_en_mustkeep_fieldLives : Enters Try.prog 18 := en Try.func18 (by kernel_rfl) (by kernel_rfl)
theorem FldX_en_field_Check : Enters Try.prog 22 := en Try.func22 (by kernel_rfl) (by kernel_rfl)
theorem FldX_en_mustref_SameField : Enters Try.prog 17 := en Try.func17 (by kernel_rfl) (by kernel_rfl)
theorem FldX_fd_api_Field_2 : Fd Try.prog 24 2 2 := fun _ _ _ => by kernel_rfl
theorem FldX_ag_S_int : Ag Try.prog 22 false := fun _ => by kernel_rfl
theorem FldX_en_slices_Clone_S_int_int_ : Enters Try.prog 19 := en Try.func19 (by kernel_rfl) (by kernel_rfl)
theorem FldX_en_slices_Sort_S_int_int_ : Enters Try.prog 23 := en Try.func23 (by kernel_rfl) (by kernel_rfl)
theorem FldX_en_field_At : Enters Try.prog 24 := en Try.func24 (by kernel_rfl) (by kernel_rfl)
theorem FldX_fd_api_Field_0 : Fd Try.prog 24 0 0 := fun _ _ _ => by kernel_rfl
theorem FldX_ag_int : Ag Try.prog 3 false := fun _ => by kernel_rfl
theorem FldX_en_slices_Equal_S_int_int_ : Enters Try.prog 21 := en Try.func21 (by kernel_rfl) (by kernel_rfl)
theorem equal_sorted (A B : Option Addr) (c d : Nat) (l m : List Int) (w : World) (hl : repI.SHas 8 w A c (sorted l)) (hm : repI.SHas 8 w B d (sorted m)) : Calls Try.prog 21 #[.slice A l.length c, .slice B m.length d] w (fun e w' => e = .returned (.bool (decide (sorted l = sorted m))) ∧ Ext w w') := by
  have := equal_Z _ _ _ _ _ _ (sorted l) (sorted m) w hl hm
  rw [(sorted_perm l).length_eq, (sorted_perm m).length_eq] at this
  exact this
theorem sorted_eq {a b : List Int} (h : a.Perm b) : sorted b = sorted a := by
  have p (l : List Int) : (sorted l).Pairwise (fun a b => a ≤ b) := (List.pairwise_mergeSort (le := fun x y : Int => decide (x ≤ y)) (fun a b c h1 h2 => by simp at *; omega) (fun a b => by simp; omega) l).imp fun h => by simpa using h
  exact List.Perm.eq_of_pairwise (fun a b _ _ h1 h2 => by omega) (p b) (p a) ((sorted_perm b).trans (h.symm.trans (sorted_perm a).symm))
set_option maxRecDepth 100000 in
set_option maxHeartbeats 400000 in
theorem fieldTurns_walk (f : Fld) (A : Option Addr) (cq : Nat) (w : World) (hP : repI.SHas 8 w A cq f.places) :
    Calls Try.prog 5 #[.agg #[.int .i64 f.wide, .int .i64 f.high, .slice A f.places.length cq]] w (fun e w' => e = .returned (.bool true) ∧ Ext w w') := by
  refine calls_W (n := 112) Try.func5 rfl rfl rfl ?_
  refine sq <| rg <| bx rfl rfl rfl rfl fun w_1 b_2 x_3 l_4 B_5 => ?_
  have q_6 := x_3.size
  have z_1 := Ext.tr (Ext.rf w) x_3
  have q_7 := B_5.lt
  refine vl (as_ rfl) rfl <| nl <| nT <| sq <| rg <| vl (ld rfl (B_5.all FldX_ag_api_Field FldX_sz_api_Field)) rfl <| ca FldX_en_field_Turn rfl rfl ((turn_any f _ _ _ (hP.keep z_1)).mono ?_)
  rintro e w_11 ⟨A_8, c_8, rfl, OT_8, x_12⟩
  refine ⟨_, rfl, ?_⟩
  have q_13 := x_12.size
  have z_11 := Ext.tr z_1 x_12
  have u_9 := fun q hq => (OT_8.lt q hq).2
  have lo_10 := fun q hq => (OT_8.lt q hq).1
  refine vl (mv rfl) rfl <| vl (ex rfl rfl) rfl <| vl (ex rfl rfl) rfl <| al rfl FldX_zv_api_Field rfl rfl fun w_14 b_15 x_16 l_17 B_18 => ?_
  have q_19 := x_16.size
  have z_14 := Ext.tr z_11 x_16
  have q_20 := B_18.lt
  refine st (new := [.int .i64 ((turnF f).wide), .int .i64 ((turnF f).high), .slice A_8 ((turnF f).places.length) c_8]) rfl rfl B_18 rfl FldX_sz_api_Field rfl rfl rfl fun w_21 m_22 B_18 => ?_
  have q_24 := m_22.size
  have z_21 := Ext.mod z_14 m_22 (by simp only [List.mem_singleton, forall_eq]; omega)
  have q_23 := m_22.size
  refine vl (as_ rfl) rfl <| nl <| nT <| sq <| rg <| vl (ld rfl (B_18.all FldX_ag_api_Field FldX_sz_api_Field)) rfl <| ?_
  have OT_8 := OT_8.later x_16
  have OT_8 := OT_8.mod m_22 (fun q hq h => by have hb := List.mem_singleton.1 h; exfalso; (have := u_9 q hq; omega))
  refine ca FldX_en_field_Turn rfl rfl ((turn_any (turnF f) _ _ _ OT_8.has).mono ?_)
  rintro e w_28 ⟨A_25, c_25, rfl, OT_25, x_29⟩
  refine ⟨_, rfl, ?_⟩
  have q_30 := x_29.size
  have z_28 := Ext.tr z_21 x_29
  have u_26 := fun q hq => (OT_25.lt q hq).2
  have lo_27 := fun q hq => (OT_25.lt q hq).1
  refine vl (mv rfl) rfl <| vl (ex rfl rfl) rfl <| vl (ex rfl rfl) rfl <| al rfl FldX_zv_api_Field rfl rfl fun w_31 b_32 x_33 l_34 B_35 => ?_
  have q_36 := x_33.size
  have z_31 := Ext.tr z_28 x_33
  have q_37 := B_35.lt
  refine st (new := [.int .i64 ((turnF (turnF f)).wide), .int .i64 ((turnF (turnF f)).high), .slice A_25 ((turnF (turnF f)).places.length) c_25]) rfl rfl B_35 rfl FldX_sz_api_Field rfl rfl rfl fun w_38 m_39 B_35 => ?_
  have q_41 := m_39.size
  have z_38 := Ext.mod z_31 m_39 (by simp only [List.mem_singleton, forall_eq]; omega)
  have q_40 := m_39.size
  refine vl (as_ rfl) rfl <| nl <| nT <| sq <| rg <| vl (ld rfl (B_35.all FldX_ag_api_Field FldX_sz_api_Field)) rfl <| ?_
  have OT_25 := OT_25.later x_33
  have OT_25 := OT_25.mod m_39 (fun q hq h => by have hb := List.mem_singleton.1 h; exfalso; (have := u_26 q hq; omega))
  refine ca FldX_en_field_Turn rfl rfl ((turn_any ((turnF (turnF f))) _ _ _ OT_25.has).mono ?_)
  rintro e w_45 ⟨A_42, c_42, rfl, OT_42, x_46⟩
  refine ⟨_, rfl, ?_⟩
  have q_47 := x_46.size
  have z_45 := Ext.tr z_38 x_46
  have u_43 := fun q hq => (OT_42.lt q hq).2
  have lo_44 := fun q hq => (OT_42.lt q hq).1
  refine vl (mv rfl) rfl <| vl (ex rfl rfl) rfl <| vl (ex rfl rfl) rfl <| al rfl FldX_zv_api_Field rfl rfl fun w_48 b_49 x_50 l_51 B_52 => ?_
  have q_53 := x_50.size
  have z_48 := Ext.tr z_45 x_50
  have q_54 := B_52.lt
  refine st (new := [.int .i64 ((turnF ((turnF (turnF f)))).wide), .int .i64 ((turnF ((turnF (turnF f)))).high), .slice A_42 ((turnF ((turnF (turnF f)))).places.length) c_42]) rfl rfl B_52 rfl FldX_sz_api_Field rfl rfl rfl fun w_55 m_56 B_52 => ?_
  have q_58 := m_56.size
  have z_55 := Ext.mod z_48 m_56 (by simp only [List.mem_singleton, forall_eq]; omega)
  have q_57 := m_56.size
  refine vl (as_ rfl) rfl <| nl <| nT <| sq <| rg <| vl (ld rfl (B_52.all FldX_ag_api_Field FldX_sz_api_Field)) rfl <| ?_
  have OT_42 := OT_42.later x_50
  have OT_42 := OT_42.mod m_56 (fun q hq h => by have hb := List.mem_singleton.1 h; exfalso; (have := u_43 q hq; omega))
  refine ca FldX_en_field_Turn rfl rfl ((turn_any ((turnF ((turnF (turnF f))))) _ _ _ OT_42.has).mono ?_)
  rintro e w_62 ⟨A_59, c_59, rfl, OT_59, x_63⟩
  refine ⟨_, rfl, ?_⟩
  have q_64 := x_63.size
  have z_62 := Ext.tr z_55 x_63
  have u_60 := fun q hq => (OT_59.lt q hq).2
  have lo_61 := fun q hq => (OT_59.lt q hq).1
  refine vl (mv rfl) rfl <| vl (ex rfl rfl) rfl <| vl (ex rfl rfl) rfl <| al rfl FldX_zv_api_Field rfl rfl fun w_65 b_66 x_67 l_68 B_69 => ?_
  have q_70 := x_67.size
  have z_65 := Ext.tr z_62 x_67
  have q_71 := B_69.lt
  refine st (new := [.int .i64 ((turnF ((turnF ((turnF (turnF f)))))).wide), .int .i64 ((turnF ((turnF ((turnF (turnF f)))))).high), .slice A_59 ((turnF ((turnF ((turnF (turnF f)))))).places.length) c_59]) rfl rfl B_69 rfl FldX_sz_api_Field rfl rfl rfl fun w_72 m_73 B_69 => ?_
  have q_75 := m_73.size
  have z_72 := Ext.mod z_65 m_73 (by simp only [List.mem_singleton, forall_eq]; omega)
  have q_74 := m_73.size
  refine vl (as_ rfl) rfl <| nl <| nT <| sq <| sq <| rg <| ca FldX_en_mustkeep_fieldLives rfl rfl ((fieldLives_any _).mono ?_)
  rintro e w_76 ⟨rfl, x_77⟩
  refine ⟨_, rfl, ?_⟩
  have q_78 := x_77.size
  have z_76 := Ext.tr z_72 x_77
  refine vl (nt rfl) rfl <| vl (mv rfl) rfl <| ug rfl rfl rfl <| vl (mv rfl) rfl <| ug rfl rfl rfl <| vl (bne rfl rfl) rfl <| vl (pkF rfl rfl) rfl <| nl <| nT <| ?_
  refine cne rfl (fun h_79 => ?_) (fun h_79 => ?_)
  · refine sq <| rg <| ca FldX_en_mustkeep_fieldLives rfl rfl ((fieldLives_any _).mono ?_)
    rintro e w_80 ⟨rfl, x_81⟩
    refine ⟨_, rfl, ?_⟩
    have q_82 := x_81.size
    have z_80 := Ext.tr z_76 x_81
    refine vl (mv rfl) rfl <| ug rfl rfl rfl <| vl (mv rfl) rfl <| ug rfl rfl rfl <| ?_
    have B_5 := B_5.later (Ext.tr x_12 x_16)
    have B_5 := B_5.mod m_22 (by simp only [List.mem_singleton]; omega)
    have B_5 := B_5.later (Ext.tr x_29 x_33)
    have B_5 := B_5.mod m_39 (by simp only [List.mem_singleton]; omega)
    have B_5 := B_5.later (Ext.tr x_46 x_50)
    have B_5 := B_5.mod m_56 (by simp only [List.mem_singleton]; omega)
    have B_5 := B_5.later (Ext.tr x_63 x_67)
    have B_5 := B_5.mod m_73 (by simp only [List.mem_singleton]; omega)
    have B_5 := B_5.later (Ext.tr x_77 x_81)
    refine vl (ld rfl (B_5.all FldX_ag_api_Field FldX_sz_api_Field)) rfl <| ug rfl rfl rfl <| ca FldX_en_field_Check rfl rfl ((fldCheck f _ _ _ (hP.keep z_80)).mono ?_)
    rintro e w_83 ⟨rfl, x_84⟩
    refine ⟨_, rfl, ?_⟩
    have q_85 := x_84.size
    have z_83 := Ext.tr z_80 x_84
    refine ug rfl rfl rfl <| vl (beq rfl rfl) rfl <| vl (pkT rfl rfl) rfl <| vl (as_ rfl) rfl <| nl <| nT <| rt <| tT <| tR (.tmp rfl .nil) <| ?_
    exact ⟨ret_true (by simp), z_83⟩
  · have h0 : f.chk = 0 := by simpa using h_79
    have h1 := turn_chk h0
    have h2 := turn_chk h1
    have h3 := turn_chk h2
    obtain ⟨y1, y2, y3, y4, y5, y6⟩ := Fld.good h1
    refine sk <| nT <| sq <| sq <| rg <| vl (mv rfl) rfl <| vl (bne rfl rfl) rfl <| vl (mv rfl) rfl <| vQ rfl rfl rfl rfl (fun hc => mv rfl) rfl <| vQ rfl rfl rfl rfl (fun hc => bne (gt hc rfl) rfl) rfl <| vl (pO rfl rfl rfl rfl) rfl <| vl (mv rfl) rfl <| vQ rfl rfl rfl rfl (fun hc => mv rfl) rfl <| vQ rfl rfl rfl rfl (fun hc => bne (gt hc rfl) rfl) rfl <| vl (pO rfl rfl rfl rfl) rfl <| vl (mv rfl) rfl <| ?_
    have B_69 := B_69.later x_77
    refine vQ rfl rfl rfl rfl (fun hc => ld rfl (B_69.all FldX_ag_api_Field FldX_sz_api_Field)) rfl <| ?_
    have B_5 := B_5.later (Ext.tr x_12 x_16)
    have B_5 := B_5.mod m_22 (by simp only [List.mem_singleton]; omega)
    have B_5 := B_5.later (Ext.tr x_29 x_33)
    have B_5 := B_5.mod m_39 (by simp only [List.mem_singleton]; omega)
    have B_5 := B_5.later (Ext.tr x_46 x_50)
    have B_5 := B_5.mod m_56 (by simp only [List.mem_singleton]; omega)
    have B_5 := B_5.later (Ext.tr x_63 x_67)
    have B_5 := B_5.mod m_73 (by simp only [List.mem_singleton]; omega)
    have B_5 := B_5.later x_77
    refine vQ rfl rfl rfl rfl (fun hc => ld rfl (B_5.all FldX_ag_api_Field FldX_sz_api_Field)) rfl <| ?_
    have OT_59 := OT_59.later x_67
    have OT_59 := OT_59.mod m_73 (fun q hq h => by have hb := List.mem_singleton.1 h; exfalso; (have := u_60 q hq; omega))
    have OT_59 := OT_59.later x_77
    refine vC rfl rfl rfl rfl FldX_en_mustref_SameField (fun hc => ec (gt hc rfl) (ec (gt hc rfl) rfl)) (fun hc => sameField_any ((turnF ((turnF ((turnF (turnF f))))))) f _ _ _ _ _ OT_59.has (hP.keep z_76)) rfl fun w_86 x_87 => ?_
    have q_88 := x_87.size
    have z_86 := Ext.tr z_76 x_87
    refine vQ rfl rfl rfl rfl (fun hc => nt (gt hc rfl)) rfl <| vl (pO rfl rfl rfl rfl) rfl <| vl (mv rfl) rfl <| ?_
    have B_18 := B_18.later (Ext.tr x_29 x_33)
    have B_18 := B_18.mod m_39 (by simp only [List.mem_singleton]; omega)
    have B_18 := B_18.later (Ext.tr x_46 x_50)
    have B_18 := B_18.mod m_56 (by simp only [List.mem_singleton]; omega)
    have B_18 := B_18.later (Ext.tr x_63 x_67)
    have B_18 := B_18.mod m_73 (by simp only [List.mem_singleton]; omega)
    have B_18 := B_18.later (Ext.tr x_77 x_87)
    refine vQ rfl rfl rfl rfl (fun hc => ld rfl (B_18.all FldX_ag_api_Field FldX_sz_api_Field)) rfl <| ?_
    have OT_8 := OT_8.later (Ext.tr x_29 x_33)
    have OT_8 := OT_8.mod m_39 (fun q hq h => by have hb := List.mem_singleton.1 h; exfalso; (have := u_9 q hq; omega))
    have OT_8 := OT_8.later (Ext.tr x_46 x_50)
    have OT_8 := OT_8.mod m_56 (fun q hq h => by have hb := List.mem_singleton.1 h; exfalso; (have := u_9 q hq; omega))
    have OT_8 := OT_8.later (Ext.tr x_63 x_67)
    have OT_8 := OT_8.mod m_73 (fun q hq h => by have hb := List.mem_singleton.1 h; exfalso; (have := u_9 q hq; omega))
    have OT_8 := OT_8.later (Ext.tr x_77 x_87)
    refine vC rfl rfl rfl rfl FldX_en_field_Check (fun hc => ec (gt hc rfl) rfl) (fun hc => fldCheck (turnF f) _ _ _ OT_8.has) rfl fun w_89 x_90 => ?_
    have q_91 := x_90.size
    have z_89 := Ext.tr z_86 x_90
    refine vQ rfl rfl rfl rfl (fun hc => bne (gt hc rfl) rfl) rfl <| vl (pO rfl rfl rfl rfl) rfl <| nl <| nT <| ?_
    have h_92 : (((((((turnF f).chk) != 0) || ((((turnF (turnF f))).chk) != 0)) || ((((turnF ((turnF (turnF f))))).chk) != 0)) || (!(decide ((turnF ((turnF ((turnF (turnF f)))))) = f)))) || (((turnF f).chk) != 0)) = false := by rw [h1, h2, h3, turn4 h0]; simp
    refine cF (by rw [← h_92]; rfl) <| sk <| nT <| sq <| ?_
    refine rd [(1, 0), (2, 2), (4, 0), (5, 2)] [0, 1, 3, 4, 2, 5, 6, 7] (by kernel_rfl) (by kernel_rfl) ?_
    refine fw rfl rfl (fun _ => fa FldX_fd_api_Field_2 rfl) rfl <| ?_
    have B_5 := B_5.later (Ext.tr x_87 x_90)
    refine fq rfl rfl (fun _ x => ld rfl ((B_5.later x).one FldX_ag_S_int rfl)) rfl <| fw rfl rfl (fun _ => fa FldX_fd_api_Field_2 rfl) rfl <| ?_
    have B_18 := B_18.later x_90
    refine fq rfl rfl (fun _ x => ld rfl ((B_18.later x).one FldX_ag_S_int rfl)) rfl <| fx rfl rfl rfl fun w_93 x_94 Q hK => ca FldX_en_slices_Clone_S_int_int_ rfl rfl ((clone_I _ _ f.places _ (hP.keep (Ext.tr z_89 x_94))).mono ?_)
    rintro e w_98 ⟨A_95, c_95, rfl, OC_95, hn_95, x_99⟩
    refine ⟨_, rfl, hK _ _ ⟨Ext.tr x_94 x_99, ?_⟩⟩
    have q_100 := x_94.size
    have z_93 := Ext.tr z_89 x_94
    have q_101 := x_99.size
    have z_98 := Ext.tr z_93 x_99
    have u_96 := fun q hq => (OC_95.lt q hq).2
    have lo_97 := fun q hq => (OC_95.lt q hq).1
    have OT_8 := OT_8.later (Ext.tr x_90 (Ext.tr x_94 x_99))
    refine fx rfl rfl rfl fun w_102 x_103 Q hK => ca FldX_en_slices_Clone_S_int_int_ rfl rfl ((clone_I _ _ ((turnF f).places) _ (OT_8.later x_103).has).mono ?_)
    rintro e w_107 ⟨A_104, c_104, rfl, OC_104, hn_104, x_108⟩
    refine ⟨_, rfl, hK _ _ ⟨Ext.tr x_103 x_108, ?_⟩⟩
    have q_109 := x_103.size
    have z_102 := Ext.tr z_98 x_103
    have q_110 := x_108.size
    have z_107 := Ext.tr z_102 x_108
    have u_105 := fun q hq => (OC_104.lt q hq).2
    have lo_106 := fun q hq => (OC_104.lt q hq).1
    refine fw rfl rfl (fun _ => as_ rfl) rfl <| fw rfl rfl (fun _ => as_ rfl) rfl <| fn fun w_111 x_112 => ?_
    have q_113 := x_112.size
    have z_111 := Ext.tr z_107 x_112
    refine nT <| sq <| rg <| vl (mv rfl) rfl <| ?_
    have OC_95 := OC_95.later (Ext.tr x_103 (Ext.tr x_108 x_112))
    refine ca FldX_en_slices_Sort_S_int_int_ rfl rfl ((sortI_any _ OC_95).mono ?_)
    rintro e w_116 ⟨rfl, OZ_114, m_115⟩
    refine ⟨_, rfl, ?_⟩
    have q_117 := m_115.size
    have z_116 := Ext.mod z_111 m_115 (fun q hq => by have := (OC_95.lt q hq).1; omega)
    refine nl <| nT <| sq <| rg <| vl (mv rfl) rfl <| ?_
    have OC_104 := OC_104.later x_112
    have OC_104 := OC_104.mod m_115 (fun q hq h => by exfalso; (have := lo_106 q hq; (have := u_96 q h; omega)))
    refine ca FldX_en_slices_Sort_S_int_int_ rfl rfl ((sortI_any _ OC_104).mono ?_)
    rintro e w_120 ⟨rfl, OZ_118, m_119⟩
    refine ⟨_, rfl, ?_⟩
    have q_121 := m_119.size
    have z_120 := Ext.mod z_116 m_119 (fun q hq => by have := (OC_104.lt q hq).1; omega)
    refine nl <| nT <| sq <| rg <| ?_
    have B_5 := B_5.later (Ext.tr x_94 (Ext.tr x_99 (Ext.tr x_103 (Ext.tr x_108 x_112))))
    have d_122 : ∀ q ∈ Rep.blkOf A_95, q = b_2 → False := fun q hq hb => by (have := lo_97 q hq; omega)
    have B_5 := B_5.mod m_115 (fun hq => d_122 _ hq rfl)
    have d_123 : ∀ q ∈ Rep.blkOf A_104, q = b_2 → False := fun q hq hb => by (have := lo_106 q hq; omega)
    have B_5 := B_5.mod m_119 (fun hq => d_123 _ hq rfl)
    refine vl (ld rfl (B_5.all FldX_ag_api_Field FldX_sz_api_Field)) rfl <| vl (v := .agg #[.int .i64 0, .int .i64 0]) (bd rfl (by kernel_rfl)) rfl <| ca FldX_en_field_At rfl rfl ((fldAt2 f (⟨0, 0⟩ : Cel) _ _ _ (hP.keep z_120)).mono ?_)
    rintro e w_124 ⟨rfl, x_125⟩
    refine ⟨_, rfl, ?_⟩
    have q_126 := x_125.size
    have z_124 := Ext.tr z_120 x_125
    refine vl (mv rfl) rfl <| vl (ex rfl rfl) rfl <| vl (ex rfl rfl) rfl <| vl (as_ rfl) rfl <| vl (as_ rfl) rfl <| nl <| nT <| sq <| rg <| ?_
    have B_18 := B_18.later (Ext.tr x_94 (Ext.tr x_99 (Ext.tr x_103 (Ext.tr x_108 x_112))))
    have d_127 : ∀ q ∈ Rep.blkOf A_95, q = b_15 → False := fun q hq hb => by (have := lo_97 q hq; omega)
    have B_18 := B_18.mod m_115 (fun hq => d_127 _ hq rfl)
    have d_128 : ∀ q ∈ Rep.blkOf A_104, q = b_15 → False := fun q hq hb => by (have := lo_106 q hq; omega)
    have B_18 := B_18.mod m_119 (fun hq => d_128 _ hq rfl)
    have B_18 := B_18.later x_125
    refine vl (ld rfl (B_18.all FldX_ag_api_Field FldX_sz_api_Field)) rfl <| vl (fa FldX_fd_api_Field_0 rfl) rfl <| vl (ld rfl (B_18.one FldX_ag_int rfl)) rfl <| vl (bsu rfl rfl (inI (by omega))) rfl <| vl (v := .agg #[.int .i64 (((turnF f).wide) - 1), .int .i64 0]) (bd rfl (by kernel_rfl)) rfl <| ?_
    have OT_8 := OT_8.later (Ext.tr x_103 (Ext.tr x_108 x_112))
    have OT_8 := OT_8.mod m_115 (fun q hq h => by exfalso; (have := lo_97 q h; (have := u_9 q hq; omega)))
    have OT_8 := OT_8.mod m_119 (fun q hq h => by exfalso; (have := lo_106 q h; (have := u_9 q hq; omega)))
    have OT_8 := OT_8.later x_125
    refine ca FldX_en_field_At rfl rfl ((fldAt2 (turnF f) ((⟨((turnF f).wide) - 1, 0⟩ : Cel)) _ _ _ OT_8.has).mono ?_)
    rintro e w_129 ⟨rfl, x_130⟩
    refine ⟨_, rfl, ?_⟩
    have q_131 := x_130.size
    have z_129 := Ext.tr z_124 x_130
    refine vl (mv rfl) rfl <| vl (ex rfl rfl) rfl <| vl (ex rfl rfl) rfl <| vl (as_ rfl) rfl <| vl (as_ rfl) rfl <| nl <| nT <| sq <| rg <| vl (mv rfl) rfl <| vl (mv rfl) rfl <| ?_
    have OZ_114 := OZ_114.mod m_119 (fun q hq h => by exfalso; (have := lo_106 q h; (have := u_96 q hq; omega)))
    have OZ_114 := OZ_114.later (Ext.tr x_125 x_130)
    have OZ_118 := OZ_118.later (Ext.tr x_125 x_130)
    refine ca FldX_en_slices_Equal_S_int_int_ rfl rfl ((equal_sorted _ _ _ _ (f.places) ((turnF f).places) _ OZ_114.has OZ_118.has).mono ?_)
    rintro e w_132 ⟨rfl, x_133⟩
    refine ⟨_, rfl, ?_⟩
    have q_134 := x_133.size
    have z_132 := Ext.tr z_129 x_133
    refine vl (mv rfl) rfl <| vQ rfl rfl rfl rfl (fun hc => mv rfl) rfl <| vQ rfl rfl rfl rfl (fun hc => beq (gt hc rfl) rfl) rfl <| vl (pA rfl rfl rfl rfl) rfl <| vl (mv rfl) rfl <| vQ rfl rfl rfl rfl (fun hc => mv rfl) rfl <| vQ rfl rfl rfl rfl (fun hc => beq (gt hc rfl) rfl) rfl <| vl (pA rfl rfl rfl rfl) rfl <| vl (mv rfl) rfl <| vQ rfl rfl rfl rfl (fun hc => mv rfl) rfl <| vQ rfl rfl rfl rfl (fun hc => mv rfl) rfl <| vQ rfl rfl rfl rfl (fun hc => beq (gt hc rfl) (gt hc rfl)) rfl <| vl (pA rfl rfl rfl rfl) rfl <| vl (as_ rfl) rfl <| nl <| nT <| rt <| tR (.tmp rfl .nil) <| ?_
    obtain ⟨c1, c2, c3⟩ := turn_corner h0
    exact ⟨ret_true (by rw [c1, c2, c3, sorted_eq (turn_perm h0)]; simp), z_132⟩
theorem fieldTurns_any (c0 : Array Value) (w : World) (h0 : (.cons (.int .i64) (.cons (.int .i64) (.cons (.slice (.int .i64) 8) .nil)) : Sh).Ok w c0.toList) :
    Calls Try.prog 5 #[.agg c0] w fun e w' => e = .returned (.bool true) ∧ Below w.heap.size w w' := by
  obtain ⟨f, A, cq, e0, hP, hkw, hkh⟩ := Fld.opens w _ (show Wd.fsh.Ok w c0.toList from h0)
  have hc : c0 = #[.int .i64 f.wide, .int .i64 f.high, .slice A f.places.length cq] := by rw [← e0]
  subst hc
  exact fieldTurns_walk f A cq w hP
end Go.Proofs.Ytkijhejjnlmbmaa
