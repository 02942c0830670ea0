/-
  FieldBack. (Printed by bin/fieldlaw.py.)
-/
import Derived.Test.YtkijhejjnlmbmaaFldP
import Derived.Test.YtkijhejjnlmbmaaLawA
import Derived.Test.YtkijhejjnlmbmaaSigP
set_option linter.unusedVariables false
set_option linter.unusedSimpArgs false
namespace Go.Proofs.Ytkijhejjnlmbmaa
open Go.RowKit

theorem FldB_en_field_Read : Enters Try.prog 16 := en Try.func16 (by kernel_rfl) (by kernel_rfl)
theorem FldB_zv_api_Field : Zv Try.prog 24 (.agg #[.int .i64 0, .int .i64 0, .slice none 0 0]) := fun _ => by kernel_rfl
theorem FldB_sz_api_Field : Sz Try.prog 24 3 := fun _ => by kernel_rfl
theorem FldB_ag_api_Field : Ag Try.prog 24 true := fun _ => by kernel_rfl
theorem FldB_en_field_At : Enters Try.prog 24 := en Try.func24 (by kernel_rfl) (by kernel_rfl)
theorem FldB_fd_api_Field_0 : Fd Try.prog 24 0 0 := fun _ _ _ => by kernel_rfl
theorem FldB_ag_int : Ag Try.prog 3 false := fun _ => by kernel_rfl
theorem FldB_en_field_Write : Enters Try.prog 15 := en Try.func15 (by kernel_rfl) (by kernel_rfl)
theorem FldB_en_mustref_SameField : Enters Try.prog 17 := en Try.func17 (by kernel_rfl) (by kernel_rfl)
theorem FldB_fd_api_Field_1 : Fd Try.prog 24 1 1 := fun _ _ _ => by kernel_rfl
theorem FldB_en_mustkeep_fieldLives : Enters Try.prog 18 := en Try.func18 (by kernel_rfl) (by kernel_rfl)
def fieldF : Fld := ⟨2, 2, [0, 1, 2, 3]⟩
theorem read_two (w : World) : Calls Try.prog 16 #[.string (bytesS [46, 35, 10, 116, 111, 10])] w fun e w' => ∃ A c, e = .returned (.tuple #[.agg #[.int .i64 fieldF.wide, .int .i64 fieldF.high, .slice A fieldF.places.length c], .int .i64 0]) ∧ repI.SOwn 3 8 w' w.heap.size (Rep.blkOf A) A c fieldF.places ∧ Ext w w' := by
  have e1 : readW (bytesS [46, 35, 10, 116, 111, 10]) = fieldF := by decide +kernel
  have e2 : readE (bytesS [46, 35, 10, 116, 111, 10]) = 0 := by decide +kernel
  have := read_any (bytesS [46, 35, 10, 116, 111, 10]) w (by decide)
  rw [e1, e2] at this
  exact this
set_option maxRecDepth 100000 in
set_option maxHeartbeats 400000 in
theorem fieldLives_any  (w : World) :
    Calls Try.prog 18 #[] w (fun e w' => e = .returned (.bool true) ∧ Ext w w') := by
  refine calls_W (n := 30) Try.func18 rfl rfl rfl ?_
  refine sq <| rg <| vl (as_ rfl) rfl <| nl <| nT <| sq <| rg <| ca FldB_en_field_Read rfl rfl ((read_two _).mono ?_)
  rintro e w_4 ⟨A_1, c_1, rfl, OR_1, x_5⟩
  refine ⟨_, rfl, ?_⟩
  have q_6 := x_5.size
  have z_4 := Ext.tr (Ext.rf w) x_5
  have u_2 := fun q hq => (OR_1.lt q hq).2
  have lo_3 := fun q hq => (OR_1.lt q hq).1
  refine vl (mv rfl) rfl <| vl (ex rfl rfl) rfl <| vl (ex rfl rfl) rfl <| al rfl FldB_zv_api_Field rfl rfl fun w_7 b_8 x_9 l_10 B_11 => ?_
  have q_12 := x_9.size
  have z_7 := Ext.tr z_4 x_9
  have q_13 := B_11.lt
  refine st (new := [.int .i64 fieldF.wide, .int .i64 fieldF.high, .slice A_1 fieldF.places.length c_1]) rfl rfl B_11 rfl FldB_sz_api_Field rfl rfl rfl fun w_14 m_15 B_11 => ?_
  have q_17 := m_15.size
  have z_14 := Ext.mod z_7 m_15 (by simp only [List.mem_singleton, forall_eq]; omega)
  have q_16 := m_15.size
  refine vl (as_ rfl) rfl <| nl <| nT <| sq <| rg <| vl (ld rfl (B_11.all FldB_ag_api_Field FldB_sz_api_Field)) rfl <| vl (v := .agg #[.int .i64 1, .int .i64 1]) (bd rfl (by kernel_rfl)) rfl <| ?_
  have OR_1 := OR_1.later x_9
  have OR_1 := OR_1.mod m_15 (fun q hq h => by have hb := List.mem_singleton.1 h; exfalso; (have := u_2 q hq; omega))
  refine ca FldB_en_field_At rfl rfl ((fldAt2 fieldF (⟨1, 1⟩ : Cel) _ _ _ OR_1.has).mono ?_)
  rintro e w_18 ⟨rfl, x_19⟩
  refine ⟨_, rfl, ?_⟩
  have q_20 := x_19.size
  have z_18 := Ext.tr z_14 x_19
  refine vl (mv rfl) rfl <| vl (ex rfl rfl) rfl <| vl (ex rfl rfl) rfl <| vl (as_ rfl) rfl <| vl (as_ rfl) rfl <| nl <| nT <| sq <| rg <| vl (mv rfl) rfl <| vl (beq rfl rfl) rfl <| vl (mv rfl) rfl <| ug rfl rfl rfl <| vl (mv rfl) rfl <| ug rfl rfl rfl <| vl (beq rfl rfl) rfl <| vl (pkT rfl rfl) rfl <| vl (mv rfl) rfl <| vQ rfl rfl rfl rfl (fun hc => fa FldB_fd_api_Field_0 rfl) rfl <| ?_
  have B_11 := B_11.later x_19
  refine vQ rfl rfl rfl rfl (fun hc => ld (gt hc rfl) (B_11.one FldB_ag_int rfl)) rfl <| vQ rfl rfl rfl rfl (fun hc => beq (gt hc rfl) rfl) rfl <| vl (pA rfl rfl rfl rfl) rfl <| vl (mv rfl) rfl <| vQ rfl rfl rfl rfl (fun hc => mv rfl) rfl <| vQ rfl rfl rfl rfl (fun hc => beq (gt hc rfl) rfl) rfl <| vl (pA rfl rfl rfl rfl) rfl <| vl (as_ rfl) rfl <| nl <| nT <| rt <| tR (.tmp rfl .nil) <| ?_
  exact ⟨ret_true (by decide +kernel), z_18⟩
set_option maxRecDepth 100000 in
set_option maxHeartbeats 400000 in
theorem fieldBack_walk (f : Fld) (A : Option Addr) (cp : Nat) (s : ByteArray) (w : World) (hP : repI.SHas 8 w A cp f.places) (hs : s.size ≤ 17592186044415) :
    Calls Try.prog 3 #[.agg #[.int .i64 f.wide, .int .i64 f.high, .slice A f.places.length cp], .string s] w (fun e w' => e = .returned (.bool true) ∧ Ext w w') := by
  refine calls_W (n := 73) Try.func3 rfl rfl rfl ?_
  refine sq <| rg <| bx rfl rfl rfl rfl fun w_1 b_2 x_3 l_4 B_5 => ?_
  have q_6 := x_3.size
  have z_1 := Ext.tr (Ext.rf w) x_3
  have q_7 := B_5.lt
  refine vl (as_ rfl) rfl <| nl <| nT <| sq <| sq <| rg <| vl (ld rfl (B_5.all FldB_ag_api_Field FldB_sz_api_Field)) rfl <| ca FldB_en_field_Write rfl rfl ((write_any f _ _ _ (hP.keep z_1)).mono ?_)
  rintro e w_8 ⟨rfl, x_9⟩
  refine ⟨_, rfl, ?_⟩
  have q_10 := x_9.size
  have z_8 := Ext.tr z_1 x_9
  refine vl (mv rfl) rfl <| vl (ex rfl rfl) rfl <| vl (ex rfl rfl) rfl <| vl (as_ rfl) rfl <| vl (as_ rfl) rfl <| nl <| nT <| sq <| rg <| vl (mv rfl) rfl <| vl (beq rfl rfl) rfl <| nl <| nT <| ?_
  refine ceq rfl (fun h_11 => ?_) (fun h_11 => ?_)
  · obtain ⟨y1, y2, y3, y4, y5, y6⟩ := Fld.good h_11
    obtain ⟨r1, r2⟩ := read_text h_11
    have r3 := text_size h_11
    have m1 : 0 ≤ (f.wide + 1) * f.high := Int.mul_nonneg (by omega) (by omega)
    have m2 : (f.wide + 1) * f.high ≤ 41 * 40 := Int.mul_le_mul (by omega) (by omega) (by omega) (by omega)
    refine sq <| rg <| vl (mv rfl) rfl <| ca FldB_en_field_Read rfl rfl ((read_any (fldText f) _ (by omega)).mono ?_)
    rintro e w_15 ⟨A_12, c_12, rfl, OR_12, x_16⟩
    refine ⟨_, rfl, ?_⟩
    have q_17 := x_16.size
    have z_15 := Ext.tr z_8 x_16
    have u_13 := fun q hq => (OR_12.lt q hq).2
    have lo_14 := fun q hq => (OR_12.lt q hq).1
    refine vl (mv rfl) rfl <| vl (ex rfl rfl) rfl <| vl (ex rfl rfl) rfl <| al rfl FldB_zv_api_Field rfl rfl fun w_18 b_19 x_20 l_21 B_22 => ?_
    have q_23 := x_20.size
    have z_18 := Ext.tr z_15 x_20
    have q_24 := B_22.lt
    refine st (new := [.int .i64 ((readW (fldText f)).wide), .int .i64 ((readW (fldText f)).high), .slice A_12 ((readW (fldText f)).places.length) c_12]) rfl rfl B_22 rfl FldB_sz_api_Field rfl rfl rfl fun w_25 m_26 B_22 => ?_
    have q_28 := m_26.size
    have z_25 := Ext.mod z_18 m_26 (by simp only [List.mem_singleton, forall_eq]; omega)
    have q_27 := m_26.size
    refine vl (as_ rfl) rfl <| nl <| nT <| sq <| rg <| vl (mv rfl) rfl <| vl (bne rfl rfl) rfl <| vl (mv rfl) rfl <| vQ rfl rfl rfl rfl (fun hc => ld rfl (B_22.all FldB_ag_api_Field FldB_sz_api_Field)) rfl <| ?_
    have B_5 := B_5.later (Ext.tr x_9 (Ext.tr x_16 x_20))
    have B_5 := B_5.mod m_26 (by simp only [List.mem_singleton]; omega)
    refine vQ rfl rfl rfl rfl (fun hc => ld rfl (B_5.all FldB_ag_api_Field FldB_sz_api_Field)) rfl <| ?_
    have OR_12 := OR_12.later x_20
    have OR_12 := OR_12.mod m_26 (fun q hq h => by have hb := List.mem_singleton.1 h; exfalso; (have := u_13 q hq; omega))
    refine vC rfl rfl rfl rfl FldB_en_mustref_SameField (fun hc => ec (gt hc rfl) (ec (gt hc rfl) rfl)) (fun hc => sameField_any ((readW (fldText f))) f _ _ _ _ _ OR_12.has (hP.keep z_25)) rfl fun w_29 x_30 => ?_
    have q_31 := x_30.size
    have z_29 := Ext.tr z_25 x_30
    refine vQ rfl rfl rfl rfl (fun hc => nt (gt hc rfl)) rfl <| vl (pO rfl rfl rfl rfl) rfl <| vl (mv rfl) rfl <| vQ rfl rfl rfl rfl (fun hc => mv rfl) rfl <| vQ rfl rfl rfl rfl (fun hc => lnS Try.underlying9 (gt hc rfl) (by omega)) rfl <| vQ rfl rfl rfl rfl (fun hc => fa FldB_fd_api_Field_0 rfl) rfl <| ?_
    have B_5 := B_5.later x_30
    refine vQ rfl rfl rfl rfl (fun hc => ld (gt hc rfl) (B_5.one FldB_ag_int rfl)) rfl <| vQ rfl rfl rfl rfl (fun hc => bad (gt hc rfl) rfl (inI (by (try simp only [Bool.or_eq_true, Bool.or_eq_false_iff, Bool.and_eq_true, Bool.and_eq_false_iff, decide_eq_true_eq, decide_eq_false_iff_not, beq_iff_eq, bne_iff_ne, beq_eq_false_iff_ne, bne_eq_false_iff_eq, Bool.not_eq_true', Bool.not_eq_false', Bool.not_eq_true, Bool.not_eq_false, Int.not_lt, Int.not_le, Nat.not_lt, Nat.not_le, ne_eq, Classical.not_not] at hc); omega))) rfl <| vQ rfl rfl rfl rfl (fun hc => fa FldB_fd_api_Field_1 rfl) rfl <| vQ rfl rfl rfl rfl (fun hc => ld (gt hc rfl) (B_5.one FldB_ag_int rfl)) rfl <| vQ rfl rfl rfl rfl (fun hc => bmu (gt hc rfl) (gt hc rfl) (inI (by (try simp only [Bool.or_eq_true, Bool.or_eq_false_iff, Bool.and_eq_true, Bool.and_eq_false_iff, decide_eq_true_eq, decide_eq_false_iff_not, beq_iff_eq, bne_iff_ne, beq_eq_false_iff_ne, bne_eq_false_iff_eq, Bool.not_eq_true', Bool.not_eq_false', Bool.not_eq_true, Bool.not_eq_false, Int.not_lt, Int.not_le, Nat.not_lt, Nat.not_le, ne_eq, Classical.not_not] at hc); omega))) rfl <| vQ rfl rfl rfl rfl (fun hc => bne (gt hc rfl) (gt hc rfl)) rfl <| vl (pO rfl rfl rfl rfl) rfl <| nl <| nT <| ?_
    have h_32 : ((((readE (fldText f)) != 0) || (!(decide ((readW (fldText f)) = f)))) || ((((fldText f).size : Int)) != ((f.wide + 1) * f.high))) = false := by rw [r1, r2, r3]; simp
    refine cF (by rw [← h_32]; rfl) <| sk <| nT <| sq <| rg <| vl (mv rfl) rfl <| ca FldB_en_field_Read rfl rfl ((read_any s _ hs).mono ?_)
    rintro e w_36 ⟨A_33, c_33, rfl, OR_33, x_37⟩
    refine ⟨_, rfl, ?_⟩
    have q_38 := x_37.size
    have z_36 := Ext.tr z_29 x_37
    have u_34 := fun q hq => (OR_33.lt q hq).2
    have lo_35 := fun q hq => (OR_33.lt q hq).1
    refine vl (mv rfl) rfl <| vl (ex rfl rfl) rfl <| vl (ex rfl rfl) rfl <| al rfl FldB_zv_api_Field rfl rfl fun w_39 b_40 x_41 l_42 B_43 => ?_
    have q_44 := x_41.size
    have z_39 := Ext.tr z_36 x_41
    have q_45 := B_43.lt
    refine st (new := [.int .i64 ((readW s).wide), .int .i64 ((readW s).high), .slice A_33 ((readW s).places.length) c_33]) rfl rfl B_43 rfl FldB_sz_api_Field rfl rfl rfl fun w_46 m_47 B_43 => ?_
    have q_49 := m_47.size
    have z_46 := Ext.mod z_39 m_47 (by simp only [List.mem_singleton, forall_eq]; omega)
    have q_48 := m_47.size
    refine vl (as_ rfl) rfl <| nl <| nT <| sq <| sq <| rg <| ca FldB_en_mustkeep_fieldLives rfl rfl ((fieldLives_any _).mono ?_)
    rintro e w_50 ⟨rfl, x_51⟩
    refine ⟨_, rfl, ?_⟩
    have q_52 := x_51.size
    have z_50 := Ext.tr z_46 x_51
    refine vl (nt rfl) rfl <| vl (mv rfl) rfl <| ug rfl rfl rfl <| vl (mv rfl) rfl <| ug rfl rfl rfl <| vl (bne rfl rfl) rfl <| vl (pkF rfl rfl) rfl <| nl <| nT <| ?_
    refine cne rfl (fun h_53 => ?_) (fun h_53 => ?_)
    · refine sq <| rg <| ca FldB_en_mustkeep_fieldLives rfl rfl ((fieldLives_any _).mono ?_)
      rintro e w_54 ⟨rfl, x_55⟩
      refine ⟨_, rfl, ?_⟩
      have q_56 := x_55.size
      have z_54 := Ext.tr z_50 x_55
      refine vl (mv rfl) rfl <| ug rfl rfl rfl <| ?_
      have B_43 := B_43.later (Ext.tr x_51 x_55)
      refine vl (ld rfl (B_43.all FldB_ag_api_Field FldB_sz_api_Field)) rfl <| ug rfl rfl rfl <| vl (v := .agg #[.int .i64 0, .int .i64 0, .slice none 0 0]) (bd rfl (by kernel_rfl)) rfl <| ug rfl rfl rfl <| ?_
      have OR_33 := OR_33.later x_41
      have OR_33 := OR_33.mod m_47 (fun q hq h => by have hb := List.mem_singleton.1 h; exfalso; (have := u_34 q hq; omega))
      have OR_33 := OR_33.later (Ext.tr x_51 x_55)
      refine ca FldB_en_mustref_SameField rfl rfl ((sameField_any (readW s) (⟨0, 0, []⟩ : Fld) _ _ _ _ _ OR_33.has (Rep.SHas.nil _)).mono ?_)
      rintro e w_57 ⟨rfl, x_58⟩
      refine ⟨_, rfl, ?_⟩
      have q_59 := x_58.size
      have z_57 := Ext.tr z_54 x_58
      refine vl (pkT rfl rfl) rfl <| vl (as_ rfl) rfl <| nl <| nT <| rt <| tT <| tR (.tmp rfl .nil) <| ?_
      exact ⟨ret_true (by rw [read_zero (s := s) (by simpa using h_53)]; simp), z_57⟩
    · refine sk <| nT <| sq <| rg <| ?_
      have B_43 := B_43.later x_51
      refine vl (ld rfl (B_43.all FldB_ag_api_Field FldB_sz_api_Field)) rfl <| ?_
      have OR_33 := OR_33.later x_41
      have OR_33 := OR_33.mod m_47 (fun q hq h => by have hb := List.mem_singleton.1 h; exfalso; (have := u_34 q hq; omega))
      have OR_33 := OR_33.later x_51
      refine ca FldB_en_field_Write rfl rfl ((write_any (readW s) _ _ _ OR_33.has).mono ?_)
      rintro e w_60 ⟨rfl, x_61⟩
      refine ⟨_, rfl, ?_⟩
      have q_62 := x_61.size
      have z_60 := Ext.tr z_50 x_61
      refine vl (mv rfl) rfl <| vl (ex rfl rfl) rfl <| vl (ex rfl rfl) rfl <| vl (as_ rfl) rfl <| vl (as_ rfl) rfl <| nl <| nT <| sq <| rg <| vl (mv rfl) rfl <| vl (beq rfl rfl) rfl <| vl (mv rfl) rfl <| vQ rfl rfl rfl rfl (fun hc => mv rfl) rfl <| vQ rfl rfl rfl rfl (fun hc => mv rfl) rfl <| vQ rfl rfl rfl rfl (fun hc => bqT Try.underlying9 (gt hc rfl) (gt hc rfl)) rfl <| vl (pA rfl rfl rfl rfl) rfl <| vl (as_ rfl) rfl <| nl <| nT <| rt <| tR (.tmp rfl .nil) <| ?_
      obtain ⟨t1, t2⟩ := read_back (s := s) (by simpa using h_53)
      exact ⟨ret_true (by rw [t1, t2]; simp), z_60⟩
  · refine sk <| nT <| sq <| rg <| vl (mv rfl) rfl <| ca FldB_en_field_Read rfl rfl ((read_any s _ hs).mono ?_)
    rintro e w_66 ⟨A_63, c_63, rfl, OR_63, x_67⟩
    refine ⟨_, rfl, ?_⟩
    have q_68 := x_67.size
    have z_66 := Ext.tr z_8 x_67
    have u_64 := fun q hq => (OR_63.lt q hq).2
    have lo_65 := fun q hq => (OR_63.lt q hq).1
    refine vl (mv rfl) rfl <| vl (ex rfl rfl) rfl <| vl (ex rfl rfl) rfl <| al rfl FldB_zv_api_Field rfl rfl fun w_69 b_70 x_71 l_72 B_73 => ?_
    have q_74 := x_71.size
    have z_69 := Ext.tr z_66 x_71
    have q_75 := B_73.lt
    refine st (new := [.int .i64 ((readW s).wide), .int .i64 ((readW s).high), .slice A_63 ((readW s).places.length) c_63]) rfl rfl B_73 rfl FldB_sz_api_Field rfl rfl rfl fun w_76 m_77 B_73 => ?_
    have q_79 := m_77.size
    have z_76 := Ext.mod z_69 m_77 (by simp only [List.mem_singleton, forall_eq]; omega)
    have q_78 := m_77.size
    refine vl (as_ rfl) rfl <| nl <| nT <| sq <| sq <| rg <| ca FldB_en_mustkeep_fieldLives rfl rfl ((fieldLives_any _).mono ?_)
    rintro e w_80 ⟨rfl, x_81⟩
    refine ⟨_, rfl, ?_⟩
    have q_82 := x_81.size
    have z_80 := Ext.tr z_76 x_81
    refine vl (nt rfl) rfl <| vl (mv rfl) rfl <| ug rfl rfl rfl <| vl (mv rfl) rfl <| ug rfl rfl rfl <| vl (bne rfl rfl) rfl <| vl (pkF rfl rfl) rfl <| nl <| nT <| ?_
    refine cne rfl (fun h_83 => ?_) (fun h_83 => ?_)
    · refine sq <| rg <| ca FldB_en_mustkeep_fieldLives rfl rfl ((fieldLives_any _).mono ?_)
      rintro e w_84 ⟨rfl, x_85⟩
      refine ⟨_, rfl, ?_⟩
      have q_86 := x_85.size
      have z_84 := Ext.tr z_80 x_85
      refine vl (mv rfl) rfl <| ug rfl rfl rfl <| ?_
      have B_73 := B_73.later (Ext.tr x_81 x_85)
      refine vl (ld rfl (B_73.all FldB_ag_api_Field FldB_sz_api_Field)) rfl <| ug rfl rfl rfl <| vl (v := .agg #[.int .i64 0, .int .i64 0, .slice none 0 0]) (bd rfl (by kernel_rfl)) rfl <| ug rfl rfl rfl <| ?_
      have OR_63 := OR_63.later x_71
      have OR_63 := OR_63.mod m_77 (fun q hq h => by have hb := List.mem_singleton.1 h; exfalso; (have := u_64 q hq; omega))
      have OR_63 := OR_63.later (Ext.tr x_81 x_85)
      refine ca FldB_en_mustref_SameField rfl rfl ((sameField_any (readW s) (⟨0, 0, []⟩ : Fld) _ _ _ _ _ OR_63.has (Rep.SHas.nil _)).mono ?_)
      rintro e w_87 ⟨rfl, x_88⟩
      refine ⟨_, rfl, ?_⟩
      have q_89 := x_88.size
      have z_87 := Ext.tr z_84 x_88
      refine vl (pkT rfl rfl) rfl <| vl (as_ rfl) rfl <| nl <| nT <| rt <| tT <| tR (.tmp rfl .nil) <| ?_
      exact ⟨ret_true (by rw [read_zero (s := s) (by simpa using h_83)]; simp), z_87⟩
    · refine sk <| nT <| sq <| rg <| ?_
      have B_73 := B_73.later x_81
      refine vl (ld rfl (B_73.all FldB_ag_api_Field FldB_sz_api_Field)) rfl <| ?_
      have OR_63 := OR_63.later x_71
      have OR_63 := OR_63.mod m_77 (fun q hq h => by have hb := List.mem_singleton.1 h; exfalso; (have := u_64 q hq; omega))
      have OR_63 := OR_63.later x_81
      refine ca FldB_en_field_Write rfl rfl ((write_any (readW s) _ _ _ OR_63.has).mono ?_)
      rintro e w_90 ⟨rfl, x_91⟩
      refine ⟨_, rfl, ?_⟩
      have q_92 := x_91.size
      have z_90 := Ext.tr z_80 x_91
      refine vl (mv rfl) rfl <| vl (ex rfl rfl) rfl <| vl (ex rfl rfl) rfl <| vl (as_ rfl) rfl <| vl (as_ rfl) rfl <| nl <| nT <| sq <| rg <| vl (mv rfl) rfl <| vl (beq rfl rfl) rfl <| vl (mv rfl) rfl <| vQ rfl rfl rfl rfl (fun hc => mv rfl) rfl <| vQ rfl rfl rfl rfl (fun hc => mv rfl) rfl <| vQ rfl rfl rfl rfl (fun hc => bqT Try.underlying9 (gt hc rfl) (gt hc rfl)) rfl <| vl (pA rfl rfl rfl rfl) rfl <| vl (as_ rfl) rfl <| nl <| nT <| rt <| tR (.tmp rfl .nil) <| ?_
      obtain ⟨t1, t2⟩ := read_back (s := s) (by simpa using h_83)
      exact ⟨ret_true (by rw [t1, t2]; simp), z_90⟩
theorem fieldBack_any (c0 : Array Value) (a1 : ByteArray) (w : World) (h0 : (.cons (.int .i64) (.cons (.int .i64) (.cons (.slice (.int .i64) 8) .nil)) : Sh).Ok w c0.toList) (w1 : a1.size ≤ maxLen) (r1 : a1.size ≤ 140737488351232) (hb : (a1.size + 1) ≤ 1048576) :
    Calls Try.prog 3 #[.agg c0, .string a1] w fun e w' => e = .returned (.bool true) ∧ Below w.heap.size w w' := by
  obtain ⟨f, A, cp, e0, hP, hkw, hkh⟩ := Fld.opens w _ (show Wd.fsh.Ok w c0.toList from h0)
  have hc : c0 = #[.int .i64 f.wide, .int .i64 f.high, .slice A f.places.length cp] := by rw [← e0]
  subst hc
  exact fieldBack_walk f A cp a1 w hP (by omega)
end Go.Proofs.Ytkijhejjnlmbmaa
