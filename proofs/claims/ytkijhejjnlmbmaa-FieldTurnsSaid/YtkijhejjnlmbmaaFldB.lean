/-
  FieldBack. (Printed by bin/fieldlaw.py.)
-/
import Derived.Test.YtkijhejjnlmbmaaFldR
import Derived.Test.YtkijhejjnlmbmaaLawA
import Derived.Test.YtkijhejjnlmbmaaSigP
set_option linter.unusedVariables false
set_option linter.unusedSimpArgs false
namespace Go.Proofs.Ytkijhejjnlmbmaa
open Go.RowKit

theorem FldB_en_field_Read : Enters Try.prog 16 := en Try.func16 (by kernel_rfl) (by kernel_rfl)
theorem FldB_zv_api_Field : Zv Try.prog 24 (.agg #[.int .i64 0, .int .i64 0, .slice none 0 0]) := fun _ => by kernel_rfl
theorem FldB_sz_api_Field : Sz Try.prog 24 3 := fun _ => by kernel_rfl
theorem FldB_ag_api_Field : Ag Try.prog 24 true := fun _ => by kernel_rfl
theorem FldB_en_field_At : Enters Try.prog 24 := en Try.func24 (by kernel_rfl) (by kernel_rfl)
theorem FldB_fd_api_Field_0 : Fd Try.prog 24 0 0 := fun _ _ _ => by kernel_rfl
theorem FldB_ag_int : Ag Try.prog 3 false := fun _ => by kernel_rfl
def fieldF : Fld := ⟨2, 2, [0, 1, 2, 3]⟩
theorem read_two (w : World) : Calls Try.prog 16 #[.string (bytesS [46, 35, 10, 116, 111, 10])] w fun e w' => ∃ A c, e = .returned (.tuple #[.agg #[.int .i64 fieldF.wide, .int .i64 fieldF.high, .slice A fieldF.places.length c], .int .i64 0]) ∧ repI.SOwn 3 8 w' w.heap.size (Rep.blkOf A) A c fieldF.places ∧ Ext w w' := by
  have e1 : readW (bytesS [46, 35, 10, 116, 111, 10]) = fieldF := by decide +kernel
  have e2 : readE (bytesS [46, 35, 10, 116, 111, 10]) = 0 := by decide +kernel
  have := read_any (bytesS [46, 35, 10, 116, 111, 10]) w (by decide)
  rw [e1, e2] at this
  exact this
set_option maxRecDepth 100000 in
set_option maxHeartbeats 400000 in
theorem fieldLives_any  (w : World) :
    Calls Try.prog 18 #[] w (fun e w' => e = .returned (.bool true) ∧ Ext w w') := by
  refine calls_W (n := 30) Try.func18 rfl rfl rfl ?_
  refine sq <| rg <| vl (as_ rfl) rfl <| nl <| nT <| sq <| rg <| ca FldB_en_field_Read rfl rfl ((read_two _).mono ?_)
  rintro e w_4 ⟨A_1, c_1, rfl, OR_1, x_5⟩
  refine ⟨_, rfl, ?_⟩
  have q_6 := x_5.size
  have z_4 := Ext.tr (Ext.rf w) x_5
  have u_2 := fun q hq => (OR_1.lt q hq).2
  have lo_3 := fun q hq => (OR_1.lt q hq).1
  refine vl (mv rfl) rfl <| vl (ex rfl rfl) rfl <| vl (ex rfl rfl) rfl <| al rfl FldB_zv_api_Field rfl rfl fun w_7 b_8 x_9 l_10 B_11 => ?_
  have q_12 := x_9.size
  have z_7 := Ext.tr z_4 x_9
  have q_13 := B_11.lt
  refine st (new := [.int .i64 fieldF.wide, .int .i64 fieldF.high, .slice A_1 fieldF.places.length c_1]) rfl rfl B_11 rfl FldB_sz_api_Field rfl rfl rfl fun w_14 m_15 B_11 => ?_
  have q_17 := m_15.size
  have z_14 := Ext.mod z_7 m_15 (by simp only [List.mem_singleton, forall_eq]; omega)
  have q_16 := m_15.size
  refine vl (as_ rfl) rfl <| nl <| nT <| sq <| rg <| vl (ld rfl (B_11.all FldB_ag_api_Field FldB_sz_api_Field)) rfl <| vl (v := .agg #[.int .i64 1, .int .i64 1]) (bd rfl (by kernel_rfl)) rfl <| ?_
  have OR_1 := OR_1.later x_9
  have OR_1 := OR_1.mod m_15 (fun q hq h => by have hb := List.mem_singleton.1 h; exfalso; (have := u_2 q hq; omega))
  refine ca FldB_en_field_At rfl rfl ((fldAt2 fieldF (⟨1, 1⟩ : Cel) _ _ _ OR_1.has).mono ?_)
  rintro e w_18 ⟨rfl, x_19⟩
  refine ⟨_, rfl, ?_⟩
  have q_20 := x_19.size
  have z_18 := Ext.tr z_14 x_19
  refine vl (mv rfl) rfl <| vl (ex rfl rfl) rfl <| vl (ex rfl rfl) rfl <| vl (as_ rfl) rfl <| vl (as_ rfl) rfl <| nl <| nT <| sq <| rg <| vl (mv rfl) rfl <| vl (beq rfl rfl) rfl <| vl (mv rfl) rfl <| ug rfl rfl rfl <| vl (mv rfl) rfl <| ug rfl rfl rfl <| vl (beq rfl rfl) rfl <| vl (pkT rfl rfl) rfl <| vl (mv rfl) rfl <| vQ rfl rfl rfl rfl (fun hc => fa FldB_fd_api_Field_0 rfl) rfl <| ?_
  have B_11 := B_11.later x_19
  refine vQ rfl rfl rfl rfl (fun hc => ld (gt hc rfl) (B_11.one FldB_ag_int rfl)) rfl <| vQ rfl rfl rfl rfl (fun hc => beq (gt hc rfl) rfl) rfl <| vl (pA rfl rfl rfl rfl) rfl <| vl (mv rfl) rfl <| vQ rfl rfl rfl rfl (fun hc => mv rfl) rfl <| vQ rfl rfl rfl rfl (fun hc => beq (gt hc rfl) rfl) rfl <| vl (pA rfl rfl rfl rfl) rfl <| vl (as_ rfl) rfl <| nl <| nT <| rt <| tR (.tmp rfl .nil) <| ?_
  exact ⟨ret_true (by decide +kernel), z_18⟩
end Go.Proofs.Ytkijhejjnlmbmaa
