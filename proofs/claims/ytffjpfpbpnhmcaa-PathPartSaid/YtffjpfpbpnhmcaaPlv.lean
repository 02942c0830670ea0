/-
  pathLives. (Printed by bin/pathlaw.py.)
-/
import Derived.Test.YtffjpfpbpnhmcaaCrt
import Derived.Test.YtffjpfpbpnhmcaaSigL
import Derived.Test.YtffjpfpbpnhmcaaEql
set_option linter.unusedVariables false
set_option linter.unusedSimpArgs false
namespace Go.Proofs.Ytffjpfpbpnhmcaa
open Go.RowKit

theorem Plv_en_field_Read : Enters Try.prog 55 := en Try.func55 (by kernel_rfl) (by kernel_rfl)
theorem Plv_zv_api_Field : Zv Try.prog 24 (.agg #[.int .i64 0, .int .i64 0, .slice none 0 0]) := fun _ => by kernel_rfl
theorem Plv_sz_api_Field : Sz Try.prog 24 3 := fun _ => by kernel_rfl
theorem Plv_ag_api_Field : Ag Try.prog 24 true := fun _ => by kernel_rfl
theorem Plv_en_path_Find : Enters Try.prog 20 := en Try.func20 (by kernel_rfl) (by kernel_rfl)
theorem Plv_en_slices_Equal_S_api_Cell_api_Cell_ : Enters Try.prog 23 := en Try.func23 (by kernel_rfl) (by kernel_rfl)
def pathFl : Fld := ⟨2, 2, [0, 1, 0, 0]⟩
theorem read_path (w : World) : Calls Try.prog 55 #[.string (bytesS [46, 35, 10, 46, 46, 10])] w fun e w' => ∃ A c, e = .returned (.tuple #[.agg #[.int .i64 pathFl.wide, .int .i64 pathFl.high, .slice A pathFl.places.length c], .int .i64 0]) ∧ repI.SOwn 3 8 w' w.heap.size (Rep.blkOf A) A c pathFl.places ∧ Ext w w' := by
  have e1 : readW (bytesS [46, 35, 10, 46, 46, 10]) = pathFl := by decide +kernel
  have e2 : readE (bytesS [46, 35, 10, 46, 46, 10]) = 0 := by decide +kernel
  have := read_any (bytesS [46, 35, 10, 46, 46, 10]) w (by decide)
  rw [e1, e2] at this
  exact this
set_option maxRecDepth 100000 in
set_option maxHeartbeats 400000 in
theorem pathLives_any  (w : World) :
    Calls Try.prog 21 #[] w (fun e w' => e = .returned (.bool true) ∧ Ext w w') := by
  refine calls_W (n := 36) Try.func21 rfl rfl rfl ?_
  refine sq <| rg <| vl (as_ rfl) rfl <| nl <| nT <| sq <| rg <| ca Plv_en_field_Read rfl rfl ((read_path _).mono ?_)
  rintro e w_4 ⟨A_1, c_1, rfl, OR_1, x_5⟩
  refine ⟨_, rfl, ?_⟩
  have q_6 := x_5.size
  have z_4 := Ext.tr (Ext.rf w) x_5
  have u_2 := fun q hq => (OR_1.lt q hq).2
  have lo_3 := fun q hq => (OR_1.lt q hq).1
  refine vl (mv rfl) rfl <| vl (ex rfl rfl) rfl <| vl (ex rfl rfl) rfl <| al rfl Plv_zv_api_Field rfl rfl fun w_7 b_8 x_9 l_10 B_11 => ?_
  have q_12 := x_9.size
  have z_7 := Ext.tr z_4 x_9
  have q_13 := B_11.lt
  refine st (new := [.int .i64 pathFl.wide, .int .i64 pathFl.high, .slice A_1 pathFl.places.length c_1]) rfl rfl B_11 rfl Plv_sz_api_Field rfl rfl rfl fun w_14 m_15 B_11 => ?_
  have q_17 := m_15.size
  have z_14 := Ext.mod z_7 m_15 (by simp only [List.mem_singleton, forall_eq]; omega)
  have q_16 := m_15.size
  refine vl (as_ rfl) rfl <| nl <| nT <| sq <| rg <| vl (ld rfl (B_11.all Plv_ag_api_Field Plv_sz_api_Field)) rfl <| vl (v := .agg #[.int .i64 0, .int .i64 0]) (bd rfl (by kernel_rfl)) rfl <| vl (v := .agg #[.int .i64 1, .int .i64 1]) (bd rfl (by kernel_rfl)) rfl <| ?_
  have OR_1 := OR_1.later x_9
  have OR_1 := OR_1.mod m_15 (fun q hq h => by have hb := List.mem_singleton.1 h; exfalso; (have := u_2 q hq; omega))
  have hfs := pfind_any pathFl (⟨0, 0⟩ : Cel) (⟨1, 1⟩ : Cel) _ _ _ OR_1.has
  rw [show findE pathFl (⟨0, 0⟩ : Cel) (⟨1, 1⟩ : Cel) = 0 from find_small.1, show findK pathFl (⟨0, 0⟩ : Cel) (⟨1, 1⟩ : Cel) = 4 from find_small.2.1, show findP pathFl (⟨0, 0⟩ : Cel) (⟨1, 1⟩ : Cel) = [⟨0, 0⟩, ⟨0, 1⟩, ⟨1, 1⟩] from find_small.2.2] at hfs
  refine ca Plv_en_path_Find rfl rfl ((hfs).mono ?_)
  rintro e w_21 ⟨A_18, c_18, rfl, OP_18, x_22⟩
  refine ⟨_, rfl, ?_⟩
  have q_23 := x_22.size
  have z_21 := Ext.tr z_14 x_22
  have u_19 := fun q hq => (OP_18.lt q hq).2
  have lo_20 := fun q hq => (OP_18.lt q hq).1
  have hcp_18 := OP_18.has.1
  refine vl (mv rfl) rfl <| vl (ex rfl rfl) rfl <| vl (ex rfl rfl) rfl <| vl (ex rfl rfl) rfl <| vl (as_ rfl) rfl <| vl (as_ rfl) rfl <| vl (as_ rfl) rfl <| nl <| nT <| sq <| rg <| vl (mv rfl) rfl <| vl (beq rfl rfl) rfl <| vl (mv rfl) rfl <| ug rfl rfl rfl <| vl (mv rfl) rfl <| ug rfl rfl rfl <| vl (beq rfl rfl) rfl <| vl (pkT rfl rfl) rfl <| vl (mv rfl) rfl <| ug rfl rfl rfl <| vl (mv rfl) rfl <| ug rfl rfl rfl <| vl (beq rfl rfl) rfl <| ?_
  refine vl (pkT rfl rfl) rfl <| vl (mv rfl) rfl <| ug rfl rfl rfl <| vl (mv rfl) rfl <| ug rfl rfl rfl <| vl (v := .agg #[.int .i64 0, .int .i64 0]) (bd rfl (by kernel_rfl)) rfl <| ug rfl rfl rfl <| vl (v := .agg #[.int .i64 0, .int .i64 1]) (bd rfl (by kernel_rfl)) rfl <| ug rfl rfl rfl <| vl (v := .agg #[.int .i64 1, .int .i64 1]) (bd rfl (by kernel_rfl)) rfl <| ug rfl rfl rfl <| bs (e := 32) (cs := [.int .i64 0, .int .i64 0, .int .i64 0, .int .i64 1, .int .i64 1, .int .i64 1]) rfl (fun _ => by kernel_rfl) rfl fun w_24 b_25 x_26 l_27 B_28 => ?_
  have q_29 := x_26.size
  have z_24 := Ext.tr z_21 x_26
  have q_30 := B_28.lt
  refine ug rfl rfl rfl <| ?_
  have OP_18 := OP_18.later x_26
  refine ca Plv_en_slices_Equal_S_api_Cell_api_Cell_ rfl rfl ((equal_C _ _ _ _ _ _ ([(⟨0, 0⟩ : Cel), (⟨0, 1⟩ : Cel), (⟨1, 1⟩ : Cel)]) ([(⟨0, 0⟩ : Cel), (⟨0, 1⟩ : Cel), (⟨1, 1⟩ : Cel)]) _ OP_18.has (Blk.hasN (R := Cel.rep) (by_ := 16) (k := [(⟨0, 0⟩ : Cel), (⟨0, 1⟩ : Cel), (⟨1, 1⟩ : Cel)]) B_28 [[.int .i64 0, .int .i64 0], [.int .i64 0, .int .i64 1], [.int .i64 1, .int .i64 1]] rfl (⟨⟨rfl, okI_iff.2 (by decide), okI_iff.2 (by decide)⟩, ⟨⟨rfl, okI_iff.2 (by decide), okI_iff.2 (by decide)⟩, ⟨⟨rfl, okI_iff.2 (by decide), okI_iff.2 (by decide)⟩, trivial⟩⟩⟩) (by simp) (by simp))).mono ?_)
  rintro e w_31 ⟨rfl, x_32⟩
  refine ⟨_, rfl, ?_⟩
  have q_33 := x_32.size
  have z_31 := Ext.tr z_24 x_32
  refine vl (pkT rfl rfl) rfl <| vl (as_ rfl) rfl <| nl <| nT <| rt <| tR (.tmp rfl .nil) <| ?_
  exact ⟨ret_true (by decide), z_31⟩
end Go.Proofs.Ytffjpfpbpnhmcaa
