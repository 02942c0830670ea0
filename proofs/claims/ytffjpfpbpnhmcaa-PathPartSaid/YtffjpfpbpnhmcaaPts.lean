/-
  path.searched. (Printed by bin/pathfind.py.)
-/
import Derived.Test.YtffjpfpbpnhmcaaPtr
import Derived.Test.YtffjpfpbpnhmcaaAsf
import Derived.Test.YtffjpfpbpnhmcaaRpt
set_option linter.unusedVariables false
set_option linter.unusedSimpArgs false
namespace Go.Proofs.Ytffjpfpbpnhmcaa
open Go.RowKit

theorem Pts_ag_api_Field : Ag Try.prog 24 true := fun _ => by kernel_rfl
theorem Pts_sz_api_Field : Sz Try.prog 24 3 := fun _ => by kernel_rfl
theorem Pts_ag_api_Cell : Ag Try.prog 32 true := fun _ => by kernel_rfl
theorem Pts_sz_api_Cell : Sz Try.prog 32 2 := fun _ => by kernel_rfl
theorem Pts_en_field_At : Enters Try.prog 25 := en Try.func25 (by kernel_rfl) (by kernel_rfl)
theorem Pts_fd_api_Field_2 : Fd Try.prog 24 2 2 := fun _ _ _ => by kernel_rfl
theorem Pts_ag_S_int : Ag Try.prog 22 false := fun _ => by kernel_rfl
theorem Pts_en_slices_Repeat_S_int_int_ : Enters Try.prog 87 := en Try.func87 (by kernel_rfl) (by kernel_rfl)
theorem Pts_en__P_path_search__push : Enters Try.prog 88 := en Try.func88 (by kernel_rfl) (by kernel_rfl)
theorem Pts_en__P_path_search__run : Enters Try.prog 89 := en Try.func89 (by kernel_rfl) (by kernel_rfl)
theorem Pts_fd_path_search_2 : Fd Try.prog 105 2 5 := fun _ _ _ => by kernel_rfl
theorem Pts_en__P_path_search__index : Enters Try.prog 59 := en Try.func59 (by kernel_rfl) (by kernel_rfl)
theorem Pts_sz_int : Sz Try.prog 3 1 := fun _ => by kernel_rfl
theorem Pts_ag_int : Ag Try.prog 3 false := fun _ => by kernel_rfl
set_option maxRecDepth 100000 in
set_option maxHeartbeats 400000 in
theorem psearched_bad1 (f : Fld) (a b : Cel) (P : Option Addr) (pc : Nat) (w : World) (hP : repI.SHas 8 w P pc f.places) (he : f.atE a ≠ 0) :
    Calls Try.prog 56 #[.agg #[.int .i64 f.wide, .int .i64 f.high, .slice P f.places.length pc], .agg #[.int .i64 a.x, .int .i64 a.y], .agg #[.int .i64 b.x, .int .i64 b.y]] w (fun e w' => e = .returned (.tuple #[.pointer none, .int .i64 (f.atE a)]) ∧ Ext w w') := by
  have k1 : (f.atE a != 0) = true := by simpa using he
  refine calls_W (n := 61) Try.func56 rfl rfl rfl ?_
  refine sq <| rg <| bx rfl rfl rfl rfl fun w_1 b_2 x_3 l_4 B_5 => ?_
  have q_6 := x_3.size
  have z_1 := Ext.tr (Ext.rf w) x_3
  have q_7 := B_5.lt
  refine bx rfl rfl rfl rfl fun w_8 b_9 x_10 l_11 B_12 => ?_
  have q_13 := x_10.size
  have z_8 := Ext.tr z_1 x_10
  have q_14 := B_12.lt
  refine bx rfl rfl rfl rfl fun w_15 b_16 x_17 l_18 B_19 => ?_
  have q_20 := x_17.size
  have z_15 := Ext.tr z_8 x_17
  have q_21 := B_19.lt
  refine vl (as_ rfl) rfl <| vl (as_ rfl) rfl <| nl <| nT <| sq <| rg <| ?_
  have B_5 := B_5.later (Ext.tr x_10 x_17)
  refine vl (ld rfl (B_5.all Pts_ag_api_Field Pts_sz_api_Field)) rfl <| ?_
  have B_12 := B_12.later x_17
  refine vl (ld rfl (B_12.all Pts_ag_api_Cell Pts_sz_api_Cell)) rfl <| ca Pts_en_field_At rfl rfl ((fldAt2 f a _ _ _ (hP.keep z_15)).mono ?_)
  rintro e w_22 ⟨rfl, x_23⟩
  refine ⟨_, rfl, ?_⟩
  have q_24 := x_23.size
  have z_22 := Ext.tr z_15 x_23
  refine vl (mv rfl) rfl <| vl (ex rfl rfl) rfl <| vl (ex rfl rfl) rfl <| vl (as_ rfl) rfl <| vl (as_ rfl) rfl <| nl <| nT <| sq <| sq <| rg <| vl (mv rfl) rfl <| vl (bne rfl rfl) rfl <| nl <| nT <| cT (evb rfl k1) <| sq <| rg <| vl (mv rfl) rfl <| vl (as_ rfl) rfl <| vl (as_ rfl) rfl <| nl <| nT <| rt <| tT <| ?_
  refine tR (.tmp rfl (.tmp rfl .nil)) <| ?_
  exact ⟨rfl, z_22⟩
set_option maxRecDepth 100000 in
set_option maxHeartbeats 400000 in
theorem psearched_bad2 (f : Fld) (a b : Cel) (P : Option Addr) (pc : Nat) (w : World) (hP : repI.SHas 8 w P pc f.places) (he1 : f.atE a = 0) (he : f.atE b ≠ 0) :
    Calls Try.prog 56 #[.agg #[.int .i64 f.wide, .int .i64 f.high, .slice P f.places.length pc], .agg #[.int .i64 a.x, .int .i64 a.y], .agg #[.int .i64 b.x, .int .i64 b.y]] w (fun e w' => e = .returned (.tuple #[.pointer none, .int .i64 (f.atE b)]) ∧ Ext w w') := by
  have k1 : (f.atE a != 0) = false := by simpa using he1
  have k2 : (f.atE b != 0) = true := by simpa using he
  refine calls_W (n := 61) Try.func56 rfl rfl rfl ?_
  refine sq <| rg <| bx rfl rfl rfl rfl fun w_1 b_2 x_3 l_4 B_5 => ?_
  have q_6 := x_3.size
  have z_1 := Ext.tr (Ext.rf w) x_3
  have q_7 := B_5.lt
  refine bx rfl rfl rfl rfl fun w_8 b_9 x_10 l_11 B_12 => ?_
  have q_13 := x_10.size
  have z_8 := Ext.tr z_1 x_10
  have q_14 := B_12.lt
  refine bx rfl rfl rfl rfl fun w_15 b_16 x_17 l_18 B_19 => ?_
  have q_20 := x_17.size
  have z_15 := Ext.tr z_8 x_17
  have q_21 := B_19.lt
  refine vl (as_ rfl) rfl <| vl (as_ rfl) rfl <| nl <| nT <| sq <| rg <| ?_
  have B_5 := B_5.later (Ext.tr x_10 x_17)
  refine vl (ld rfl (B_5.all Pts_ag_api_Field Pts_sz_api_Field)) rfl <| ?_
  have B_12 := B_12.later x_17
  refine vl (ld rfl (B_12.all Pts_ag_api_Cell Pts_sz_api_Cell)) rfl <| ca Pts_en_field_At rfl rfl ((fldAt2 f a _ _ _ (hP.keep z_15)).mono ?_)
  rintro e w_22 ⟨rfl, x_23⟩
  refine ⟨_, rfl, ?_⟩
  have q_24 := x_23.size
  have z_22 := Ext.tr z_15 x_23
  refine vl (mv rfl) rfl <| vl (ex rfl rfl) rfl <| vl (ex rfl rfl) rfl <| vl (as_ rfl) rfl <| vl (as_ rfl) rfl <| nl <| nT <| sq <| sq <| rg <| vl (mv rfl) rfl <| vl (bne rfl rfl) rfl <| nl <| nT <| cF (evb rfl k1) <| sk <| nT <| sq <| rg <| ?_
  have B_5 := B_5.later x_23
  refine vl (ld rfl (B_5.all Pts_ag_api_Field Pts_sz_api_Field)) rfl <| ?_
  have B_19 := B_19.later x_23
  refine vl (ld rfl (B_19.all Pts_ag_api_Cell Pts_sz_api_Cell)) rfl <| ca Pts_en_field_At rfl rfl ((fldAt2 f b _ _ _ (hP.keep z_22)).mono ?_)
  rintro e w_25 ⟨rfl, x_26⟩
  refine ⟨_, rfl, ?_⟩
  have q_27 := x_26.size
  have z_25 := Ext.tr z_22 x_26
  refine vl (mv rfl) rfl <| vl (ex rfl rfl) rfl <| vl (ex rfl rfl) rfl <| vl (as_ rfl) rfl <| vl (as_ rfl) rfl <| nl <| nT <| sq <| sq <| rg <| vl (mv rfl) rfl <| vl (bne rfl rfl) rfl <| nl <| nT <| cT (evb rfl k2) <| sq <| rg <| vl (mv rfl) rfl <| vl (as_ rfl) rfl <| vl (as_ rfl) rfl <| nl <| nT <| rt <| tT <| ?_
  refine tR (.tmp rfl (.tmp rfl .nil)) <| ?_
  exact ⟨rfl, z_25⟩
set_option maxRecDepth 100000 in
set_option maxHeartbeats 400000 in
theorem psearched_bad3 (f : Fld) (a b : Cel) (P : Option Addr) (pc : Nat) (w : World) (hP : repI.SHas 8 w P pc f.places) (he1 : f.atE a = 0) (he2 : f.atE b = 0) (he : f.place a = 1 ∨ f.place b = 1) :
    Calls Try.prog 56 #[.agg #[.int .i64 f.wide, .int .i64 f.high, .slice P f.places.length pc], .agg #[.int .i64 a.x, .int .i64 a.y], .agg #[.int .i64 b.x, .int .i64 b.y]] w (fun e w' => e = .returned (.tuple #[.pointer none, .int .i64 9]) ∧ Ext w w') := by
  have k1 : (f.atE a != 0) = false := by simpa using he1
  have k2 : (f.atE b != 0) = false := by simpa using he2
  have k3 : ((f.atV a == 1) || (f.atV b == 1)) = true := by obtain ⟨hf, ia⟩ := atE_chkF he1; obtain ⟨_, ib⟩ := atE_chkF he2; rw [(Fld.at_in hf ia).2, (Fld.at_in hf ib).2]; simpa using he
  refine calls_W (n := 61) Try.func56 rfl rfl rfl ?_
  refine sq <| rg <| bx rfl rfl rfl rfl fun w_1 b_2 x_3 l_4 B_5 => ?_
  have q_6 := x_3.size
  have z_1 := Ext.tr (Ext.rf w) x_3
  have q_7 := B_5.lt
  refine bx rfl rfl rfl rfl fun w_8 b_9 x_10 l_11 B_12 => ?_
  have q_13 := x_10.size
  have z_8 := Ext.tr z_1 x_10
  have q_14 := B_12.lt
  refine bx rfl rfl rfl rfl fun w_15 b_16 x_17 l_18 B_19 => ?_
  have q_20 := x_17.size
  have z_15 := Ext.tr z_8 x_17
  have q_21 := B_19.lt
  refine vl (as_ rfl) rfl <| vl (as_ rfl) rfl <| nl <| nT <| sq <| rg <| ?_
  have B_5 := B_5.later (Ext.tr x_10 x_17)
  refine vl (ld rfl (B_5.all Pts_ag_api_Field Pts_sz_api_Field)) rfl <| ?_
  have B_12 := B_12.later x_17
  refine vl (ld rfl (B_12.all Pts_ag_api_Cell Pts_sz_api_Cell)) rfl <| ca Pts_en_field_At rfl rfl ((fldAt2 f a _ _ _ (hP.keep z_15)).mono ?_)
  rintro e w_22 ⟨rfl, x_23⟩
  refine ⟨_, rfl, ?_⟩
  have q_24 := x_23.size
  have z_22 := Ext.tr z_15 x_23
  refine vl (mv rfl) rfl <| vl (ex rfl rfl) rfl <| vl (ex rfl rfl) rfl <| vl (as_ rfl) rfl <| vl (as_ rfl) rfl <| nl <| nT <| sq <| sq <| rg <| vl (mv rfl) rfl <| vl (bne rfl rfl) rfl <| nl <| nT <| cF (evb rfl k1) <| sk <| nT <| sq <| rg <| ?_
  have B_5 := B_5.later x_23
  refine vl (ld rfl (B_5.all Pts_ag_api_Field Pts_sz_api_Field)) rfl <| ?_
  have B_19 := B_19.later x_23
  refine vl (ld rfl (B_19.all Pts_ag_api_Cell Pts_sz_api_Cell)) rfl <| ca Pts_en_field_At rfl rfl ((fldAt2 f b _ _ _ (hP.keep z_22)).mono ?_)
  rintro e w_25 ⟨rfl, x_26⟩
  refine ⟨_, rfl, ?_⟩
  have q_27 := x_26.size
  have z_25 := Ext.tr z_22 x_26
  refine vl (mv rfl) rfl <| vl (ex rfl rfl) rfl <| vl (ex rfl rfl) rfl <| vl (as_ rfl) rfl <| vl (as_ rfl) rfl <| nl <| nT <| sq <| sq <| rg <| vl (mv rfl) rfl <| vl (bne rfl rfl) rfl <| nl <| nT <| cF (evb rfl k2) <| sk <| nT <| sq <| sq <| rg <| vl (mv rfl) rfl <| vl (beq rfl rfl) rfl <| vl (mv rfl) rfl <| vQ rfl rfl rfl rfl (fun hc => mv rfl) rfl <| ?_
  refine vQ rfl rfl rfl rfl (fun hc => beq (gt hc rfl) rfl) rfl <| vl (pO rfl rfl rfl rfl) rfl <| nl <| nT <| cT (evb rfl k3) <| sq <| rg <| vl (as_ rfl) rfl <| vl (as_ rfl) rfl <| nl <| nT <| rt <| tT <| tR (.tmp rfl (.tmp rfl .nil)) <| ?_
  exact ⟨rfl, z_25⟩
set_option maxRecDepth 100000 in
set_option maxHeartbeats 1000000 in
theorem psearched_none (f : Fld) (a b : Cel) (P : Option Addr) (pc : Nat) (w : World) (hP : repI.SHas 8 w P pc f.places) (hf : f.chk = 0) (ga : f.ground a = true) (gb : f.ground b = true) (hfr : frF f a b b < 0) :
    Calls Try.prog 56 #[.agg #[.int .i64 f.wide, .int .i64 f.high, .slice P f.places.length pc], .agg #[.int .i64 a.x, .int .i64 a.y], .agg #[.int .i64 b.x, .int .i64 b.y]] w (fun e w' => (∃ far, PEnd f a b far) ∧ e = .returned (.tuple #[.pointer none, .int .i64 6]) ∧ Ext w w') := by
  obtain ⟨g1, g2, g3, g4, g5, g6⟩ := Fld.good hf
  have hl16 := Fld.len_le hf
  have hia := Fld.ground_in ga
  have hib := Fld.ground_in gb
  obtain ⟨_, _, a1, a2, a3, a4⟩ := Fld.idx hf hia
  obtain ⟨_, _, b1, b2, b3, b4⟩ := Fld.idx hf hib
  have hea := (Fld.at_in hf hia).1
  have heb := (Fld.at_in hf hib).1
  have hva := (Fld.at_in hf hia).2
  have hvb := (Fld.at_in hf hib).2
  have hra := Fld.ground_place ga
  have hrb := Fld.ground_place gb
  have hpos : 0 < f.places.length := by have := (Fld.at_lt hf hia).1; omega
  have ke1 : (f.atE a != 0) = false := by rw [hea]; rfl
  have ke2 : (f.atE b != 0) = false := by rw [heb]; rfl
  have kr1 : (f.atV a == 1) = false := by rw [hva]; simpa using hra
  have kr2 : (f.atV b == 1) = false := by rw [hvb]; simpa using hrb
  have kfr : decide (frF f a b b < 0) = true := decide_eq_true hfr
  refine calls_W (n := 61) Try.func56 rfl rfl rfl ?_
  refine sq <| rg <| bx rfl rfl rfl rfl fun w_1 b_2 x_3 l_4 B_5 => ?_
  have q_6 := x_3.size
  have z_1 := Ext.tr (Ext.rf w) x_3
  have q_7 := B_5.lt
  refine bx rfl rfl rfl rfl fun w_8 b_9 x_10 l_11 B_12 => ?_
  have q_13 := x_10.size
  have z_8 := Ext.tr z_1 x_10
  have q_14 := B_12.lt
  refine bx rfl rfl rfl rfl fun w_15 b_16 x_17 l_18 B_19 => ?_
  have q_20 := x_17.size
  have z_15 := Ext.tr z_8 x_17
  have q_21 := B_19.lt
  refine vl (as_ rfl) rfl <| vl (as_ rfl) rfl <| nl <| nT <| sq <| rg <| ?_
  have B_5 := B_5.later (Ext.tr x_10 x_17)
  refine vl (ld rfl (B_5.all Pts_ag_api_Field Pts_sz_api_Field)) rfl <| ?_
  have B_12 := B_12.later x_17
  refine vl (ld rfl (B_12.all Pts_ag_api_Cell Pts_sz_api_Cell)) rfl <| ca Pts_en_field_At rfl rfl ((fldAt2 f a _ _ _ (hP.keep z_15)).mono ?_)
  rintro e w_22 ⟨rfl, x_23⟩
  refine ⟨_, rfl, ?_⟩
  have q_24 := x_23.size
  have z_22 := Ext.tr z_15 x_23
  refine vl (mv rfl) rfl <| vl (ex rfl rfl) rfl <| vl (ex rfl rfl) rfl <| vl (as_ rfl) rfl <| vl (as_ rfl) rfl <| nl <| nT <| sq <| sq <| rg <| vl (mv rfl) rfl <| vl (bne rfl rfl) rfl <| nl <| nT <| cF (evb rfl ke1) <| sk <| nT <| sq <| rg <| ?_
  have B_5 := B_5.later x_23
  refine vl (ld rfl (B_5.all Pts_ag_api_Field Pts_sz_api_Field)) rfl <| ?_
  have B_19 := B_19.later x_23
  refine vl (ld rfl (B_19.all Pts_ag_api_Cell Pts_sz_api_Cell)) rfl <| ca Pts_en_field_At rfl rfl ((fldAt2 f b _ _ _ (hP.keep z_22)).mono ?_)
  rintro e w_25 ⟨rfl, x_26⟩
  refine ⟨_, rfl, ?_⟩
  have q_27 := x_26.size
  have z_25 := Ext.tr z_22 x_26
  refine vl (mv rfl) rfl <| vl (ex rfl rfl) rfl <| vl (ex rfl rfl) rfl <| vl (as_ rfl) rfl <| vl (as_ rfl) rfl <| nl <| nT <| sq <| sq <| rg <| vl (mv rfl) rfl <| vl (bne rfl rfl) rfl <| nl <| nT <| cF (evb rfl ke2) <| sk <| nT <| sq <| sq <| rg <| vl (mv rfl) rfl <| vl (beq rfl rfl) rfl <| vl (mv (evb rfl kr1)) rfl <| ug rfl rfl rfl <| ?_
  refine vl (mv rfl) rfl <| ug rfl rfl rfl <| vl (beq rfl rfl) rfl <| vl (pkF rfl (evb rfl kr2)) rfl <| nl <| nT <| cF rfl <| sk <| nT <| sq <| ?_
  refine rd [(0, 0), (1, 0), (2, 2), (4, 0), (6, 2), (8, 2)] [0, 1, 3, 4, 5, 2, 6, 7, 8, 9] (by kernel_rfl) (by kernel_rfl) ?_
  have B_5 := B_5.later x_26
  refine fq rfl rfl (fun _ x => ld rfl ((B_5.later x).all Pts_ag_api_Field Pts_sz_api_Field)) rfl <| ?_
  have B_19 := B_19.later x_26
  refine fq rfl rfl (fun _ x => ld rfl ((B_19.later x).all Pts_ag_api_Cell Pts_sz_api_Cell)) rfl <| fw rfl rfl (fun _ => fa Pts_fd_api_Field_2 rfl) rfl <| fq rfl rfl (fun _ x => ld rfl ((B_5.later x).one Pts_ag_S_int rfl)) rfl <| fw rfl rfl (fun _ => ln Try.underlying22 rfl) rfl <| fx rfl rfl rfl fun w_28 x_29 Q hK => bs (e := 3) (cs := [.int .i64 (-1)]) rfl (fun _ => by kernel_rfl) rfl fun w_30 b_31 x_32 l_33 B_34 => hK _ _ ⟨Ext.tr x_29 x_32, ?_⟩
  have q_35 := x_29.size
  have z_28 := Ext.tr z_25 x_29
  have q_36 := x_32.size
  have z_30 := Ext.tr z_28 x_32
  have q_37 := B_34.lt
  refine fx rfl rfl rfl fun w_38 x_39 Q hK => ca Pts_en_slices_Repeat_S_int_int_ rfl rfl ((repeat_any _ _ f.places.length (-1) _ (Blk.has1 (R := repI) (by_ := 8) (q := -1) (B_34.later x_39) ⟨rfl, okI_iff.2 (by decide)⟩ (by decide)) hpos (by omega)).mono ?_)
  rintro e w_43 ⟨F40, cf40, rfl, HF40, x_44⟩
  refine ⟨_, rfl, hK _ _ ⟨Ext.tr x_39 x_44, ?_⟩⟩
  have q_45 := x_39.size
  have z_38 := Ext.tr z_30 x_39
  have q_46 := x_44.size
  have z_43 := Ext.tr z_38 x_44
  have u_41 := fun q hq => (HF40.lt q hq).2
  have lo_42 := fun q hq => (HF40.lt q hq).1
  have HF40 := HF40.down (show w.heap.size ≤ w_38.heap.size by omega)
  refine fw (v := .agg #[.int .i64 f.wide, .int .i64 f.high, .slice P f.places.length pc, .int .i64 b.x, .int .i64 b.y, .slice F40 ((List.replicate f.places.length (-1)).length) cf40, .slice none 0 0]) rfl rfl (fun _ => bd rfl (by kernel_rfl)) rfl <| fx rfl rfl rfl fun w_47 x_48 Q hK => bx rfl rfl rfl rfl fun w_49 b_50 x_51 l_52 B_53 => hK _ _ ⟨Ext.tr x_48 x_51, ?_⟩
  have q_54 := x_48.size
  have z_47 := Ext.tr z_43 x_48
  have q_55 := x_51.size
  have z_49 := Ext.tr z_47 x_51
  have q_56 := B_53.lt
  refine fw rfl rfl (fun _ => as_ rfl) rfl <| fn fun w_57 x_58 => ?_
  have q_59 := x_58.size
  have z_57 := Ext.tr z_49 x_58
  refine nT <| sq <| rg <| vl (mv rfl) rfl <| ?_
  have B_12 := B_12.later (Ext.tr x_23 (Ext.tr x_26 (Ext.tr x_29 (Ext.tr x_32 (Ext.tr x_39 (Ext.tr x_44 (Ext.tr x_48 (Ext.tr x_51 x_58))))))))
  refine vl (ld rfl (B_12.all Pts_ag_api_Cell Pts_sz_api_Cell)) rfl <| ?_
  have B_53 := B_53.later x_58
  have HF40 := HF40.later (Ext.tr x_48 (Ext.tr x_51 x_58))
  have HQ0 : Nod.rep.SOwn 167 32 w_57 w.heap.size (Rep.blkOf none) none 0 ([] : List Nod) := Rep.SOwn.nil _
  refine ca Pts_en__P_path_search__push rfl rfl ((ppush_any w f P F40 none pc cf40 0 b_50 ((List.replicate f.places.length (-1))) ([] : List Nod) b a 0 _ z_57 hf hP B_53 (by omega) HQ0 (fun q hq => by simp [Rep.blkOf] at hq) (fun y hy => by simp at hy) (by simp) (by omega) (by omega) (by omega)).mono ?_)
  rintro e w_61 ⟨A1, c1, rfl, HB1, HQ1, hdQ1, hg1, m_60⟩
  refine ⟨_, rfl, ?_⟩
  have q_62 := m_60.size
  have z_61 := Ext.mod z_57 m_60 (fun q hq => (List.mem_cons.1 hq).elim (fun h => by omega) (fun h => by simp [Rep.blkOf] at h))
  have u1 := fun q hq => (HQ1.lt q hq).2
  have lo1 : ∀ q ∈ Rep.blkOf A1, w_57.heap.size ≤ q := fun q hq => (hg1 q hq).elim (fun h => by simp [Rep.blkOf] at h) id
  refine nl <| nT <| sq <| rg <| vl (mv rfl) rfl <| ?_
  have HF40 := HF40.mod m_60 (fun q hq h => (List.mem_cons.1 h).elim (fun h => by exfalso; (have := u_41 q hq; omega)) (fun h => by simp [Rep.blkOf] at h))
  refine ca Pts_en__P_path_search__run rfl rfl ((prun_any w f P F40 A1 pc cf40 c1 b_50 ((List.replicate f.places.length (-1))) (Hp.push Nod.all ([] : List Nod) ⟨a, 0, 0 + Fld.est b a⟩) b a a _ z_61 hf hP HB1 (by omega) HF40 HQ1 (fun q hq hb => by exfalso; (have := u_41 q hq; omega)) hdQ1 (fun q h1 h2 => by exfalso; (have := lo1 q h1; (have := u_41 q h2; omega))) (PS.start hf ga a) Vis.start hib (by rw [Hp.push_len, und_all]; simp; omega)).mono ?_)
  rintro e w_64 ⟨far, A2, c2, l2, rfl, HB2, HF2, hpe, m_63⟩
  refine ⟨_, rfl, ?_⟩
  have q_65 := m_63.size
  have z_64 := Ext.mod z_61 m_63 (fun q hq => (List.mem_cons.1 hq).elim (fun h => by omega) (fun h => (List.mem_append.1 h).elim (fun h => (HF40.lt q h).1) (fun h => (HQ1.lt q h).1)))
  have hfl := fr_lt hf hpe.len hib
  refine nl <| nT <| sq <| sq <| ?_
  refine rd [(3, 0), (5, 0), (6, 0), (8, 0)] [0, 1, 2, 3, 4, 5, 6, 7, 8, 9] (by kernel_rfl) (by kernel_rfl) ?_
  refine fw rfl rfl (fun _ => mv rfl) rfl <| fw rfl rfl (fun _ => nc rfl) rfl <| fw rfl rfl (fun _ => fa Pts_fd_path_search_2 rfl) rfl <| fq rfl rfl (fun _ x => ld rfl ((HB2.later x).one Pts_ag_S_int rfl)) rfl <| fw rfl rfl (fun _ => mv rfl) rfl <| ?_
  have B_19 := B_19.later (Ext.tr x_29 (Ext.tr x_32 (Ext.tr x_39 (Ext.tr x_44 (Ext.tr x_48 (Ext.tr x_51 x_58))))))
  have B_19 := B_19.mod m_60 (fun hq => (List.mem_cons.1 hq).elim (fun h => by omega) (fun h => by simp [Rep.blkOf] at h))
  have B_19 := B_19.mod m_63 (fun hq => (List.mem_cons.1 hq).elim (fun h => by omega) (fun h => (List.mem_append.1 h).elim (fun h => (show ∀ q, q ∈ Rep.blkOf F40 → q = b_16 → False from fun q h hb => by (have := lo_42 q h; omega)) _ h rfl) (fun h => (show ∀ q, q ∈ Rep.blkOf A1 → q = b_16 → False from fun q h hb => by (have := lo1 q h; omega)) _ h rfl)))
  refine fq rfl rfl (fun _ x => ld rfl ((B_19.later x).all Pts_ag_api_Cell Pts_sz_api_Cell)) rfl <| fc rfl rfl Pts_en__P_path_search__index rfl (fun _ x => pindex_any w f P F40 A2 pc cf40 c2 b_50 far l2 b b _ (Ext.tr z_64 x) hf hP (HB2.later x) (by first | omega | (dsimp only; omega))) rfl <| fw rfl rfl (fun _ => iA ((b.y * f.wide + b.x).toNat) Try.underlying22 Pts_sz_int rfl rfl (HF2.has.adr (Nat.zero_lt_of_lt (show (b.y * f.wide + b.x).toNat < _ from (by have h_ := hfl.1; omega)))) (by omega) (by have h_ := hfl.1; omega)) rfl <| fq rfl rfl (fun _ x => ld rfl (Rep.SHas.one' hcI ((HF2.later x).has.adh (Nat.zero_lt_of_lt (show (b.y * f.wide + b.x).toNat < _ from (by have h_ := hfl.1; omega)))) (hpe.get hf hib) rfl Pts_ag_int)) rfl <| fw rfl rfl (fun _ => blt rfl rfl) rfl <| fn fun w_66 x_67 => ?_
  have q_68 := x_67.size
  have z_66 := Ext.tr z_64 x_67
  refine nT <| cT (evb rfl kfr) <| sq <| rg <| vl (as_ rfl) rfl <| vl (as_ rfl) rfl <| nl <| nT <| rt <| tT <| tR (.tmp rfl (.tmp rfl .nil)) <| ?_
  have HB2 := HB2.later x_67
  have HF2 := HF2.later x_67
  exact ⟨⟨far, hpe⟩, rfl, z_66⟩
set_option maxRecDepth 100000 in
set_option maxHeartbeats 1000000 in
theorem psearched_some (f : Fld) (a b : Cel) (P : Option Addr) (pc : Nat) (w : World) (hP : repI.SHas 8 w P pc f.places) (hf : f.chk = 0) (ga : f.ground a = true) (gb : f.ground b = true) (hfr : 0 ≤ frF f a b b) :
    Calls Try.prog 56 #[.agg #[.int .i64 f.wide, .int .i64 f.high, .slice P f.places.length pc], .agg #[.int .i64 a.x, .int .i64 a.y], .agg #[.int .i64 b.x, .int .i64 b.y]] w (fun e w' => ∃ p F A cf c far l, e = .returned (.tuple #[.pointer (some ⟨p, 0, none⟩), .int .i64 0]) ∧ PEnd f a b far ∧ Blk w' p [.int .i64 f.wide, .int .i64 f.high, .slice P f.places.length pc, .int .i64 b.x, .int .i64 b.y, .slice F far.length cf, .slice A ((l : List Nod).length) c] 105 (0, 0) ∧ w.heap.size ≤ p ∧ repI.SOwn 3 8 w' w.heap.size (Rep.blkOf F) F cf far ∧ (∀ q ∈ Rep.blkOf F, q = p → False) ∧ Ext w w') := by
  obtain ⟨g1, g2, g3, g4, g5, g6⟩ := Fld.good hf
  have hl16 := Fld.len_le hf
  have hia := Fld.ground_in ga
  have hib := Fld.ground_in gb
  obtain ⟨_, _, a1, a2, a3, a4⟩ := Fld.idx hf hia
  obtain ⟨_, _, b1, b2, b3, b4⟩ := Fld.idx hf hib
  have hea := (Fld.at_in hf hia).1
  have heb := (Fld.at_in hf hib).1
  have hva := (Fld.at_in hf hia).2
  have hvb := (Fld.at_in hf hib).2
  have hra := Fld.ground_place ga
  have hrb := Fld.ground_place gb
  have hpos : 0 < f.places.length := by have := (Fld.at_lt hf hia).1; omega
  have ke1 : (f.atE a != 0) = false := by rw [hea]; rfl
  have ke2 : (f.atE b != 0) = false := by rw [heb]; rfl
  have kr1 : (f.atV a == 1) = false := by rw [hva]; simpa using hra
  have kr2 : (f.atV b == 1) = false := by rw [hvb]; simpa using hrb
  have kfr : decide (frF f a b b < 0) = false := decide_eq_false (by omega)
  refine calls_W (n := 61) Try.func56 rfl rfl rfl ?_
  refine sq <| rg <| bx rfl rfl rfl rfl fun w_1 b_2 x_3 l_4 B_5 => ?_
  have q_6 := x_3.size
  have z_1 := Ext.tr (Ext.rf w) x_3
  have q_7 := B_5.lt
  refine bx rfl rfl rfl rfl fun w_8 b_9 x_10 l_11 B_12 => ?_
  have q_13 := x_10.size
  have z_8 := Ext.tr z_1 x_10
  have q_14 := B_12.lt
  refine bx rfl rfl rfl rfl fun w_15 b_16 x_17 l_18 B_19 => ?_
  have q_20 := x_17.size
  have z_15 := Ext.tr z_8 x_17
  have q_21 := B_19.lt
  refine vl (as_ rfl) rfl <| vl (as_ rfl) rfl <| nl <| nT <| sq <| rg <| ?_
  have B_5 := B_5.later (Ext.tr x_10 x_17)
  refine vl (ld rfl (B_5.all Pts_ag_api_Field Pts_sz_api_Field)) rfl <| ?_
  have B_12 := B_12.later x_17
  refine vl (ld rfl (B_12.all Pts_ag_api_Cell Pts_sz_api_Cell)) rfl <| ca Pts_en_field_At rfl rfl ((fldAt2 f a _ _ _ (hP.keep z_15)).mono ?_)
  rintro e w_22 ⟨rfl, x_23⟩
  refine ⟨_, rfl, ?_⟩
  have q_24 := x_23.size
  have z_22 := Ext.tr z_15 x_23
  refine vl (mv rfl) rfl <| vl (ex rfl rfl) rfl <| vl (ex rfl rfl) rfl <| vl (as_ rfl) rfl <| vl (as_ rfl) rfl <| nl <| nT <| sq <| sq <| rg <| vl (mv rfl) rfl <| vl (bne rfl rfl) rfl <| nl <| nT <| cF (evb rfl ke1) <| sk <| nT <| sq <| rg <| ?_
  have B_5 := B_5.later x_23
  refine vl (ld rfl (B_5.all Pts_ag_api_Field Pts_sz_api_Field)) rfl <| ?_
  have B_19 := B_19.later x_23
  refine vl (ld rfl (B_19.all Pts_ag_api_Cell Pts_sz_api_Cell)) rfl <| ca Pts_en_field_At rfl rfl ((fldAt2 f b _ _ _ (hP.keep z_22)).mono ?_)
  rintro e w_25 ⟨rfl, x_26⟩
  refine ⟨_, rfl, ?_⟩
  have q_27 := x_26.size
  have z_25 := Ext.tr z_22 x_26
  refine vl (mv rfl) rfl <| vl (ex rfl rfl) rfl <| vl (ex rfl rfl) rfl <| vl (as_ rfl) rfl <| vl (as_ rfl) rfl <| nl <| nT <| sq <| sq <| rg <| vl (mv rfl) rfl <| vl (bne rfl rfl) rfl <| nl <| nT <| cF (evb rfl ke2) <| sk <| nT <| sq <| sq <| rg <| vl (mv rfl) rfl <| vl (beq rfl rfl) rfl <| vl (mv (evb rfl kr1)) rfl <| ug rfl rfl rfl <| ?_
  refine vl (mv rfl) rfl <| ug rfl rfl rfl <| vl (beq rfl rfl) rfl <| vl (pkF rfl (evb rfl kr2)) rfl <| nl <| nT <| cF rfl <| sk <| nT <| sq <| ?_
  refine rd [(0, 0), (1, 0), (2, 2), (4, 0), (6, 2), (8, 2)] [0, 1, 3, 4, 5, 2, 6, 7, 8, 9] (by kernel_rfl) (by kernel_rfl) ?_
  have B_5 := B_5.later x_26
  refine fq rfl rfl (fun _ x => ld rfl ((B_5.later x).all Pts_ag_api_Field Pts_sz_api_Field)) rfl <| ?_
  have B_19 := B_19.later x_26
  refine fq rfl rfl (fun _ x => ld rfl ((B_19.later x).all Pts_ag_api_Cell Pts_sz_api_Cell)) rfl <| fw rfl rfl (fun _ => fa Pts_fd_api_Field_2 rfl) rfl <| fq rfl rfl (fun _ x => ld rfl ((B_5.later x).one Pts_ag_S_int rfl)) rfl <| fw rfl rfl (fun _ => ln Try.underlying22 rfl) rfl <| fx rfl rfl rfl fun w_28 x_29 Q hK => bs (e := 3) (cs := [.int .i64 (-1)]) rfl (fun _ => by kernel_rfl) rfl fun w_30 b_31 x_32 l_33 B_34 => hK _ _ ⟨Ext.tr x_29 x_32, ?_⟩
  have q_35 := x_29.size
  have z_28 := Ext.tr z_25 x_29
  have q_36 := x_32.size
  have z_30 := Ext.tr z_28 x_32
  have q_37 := B_34.lt
  refine fx rfl rfl rfl fun w_38 x_39 Q hK => ca Pts_en_slices_Repeat_S_int_int_ rfl rfl ((repeat_any _ _ f.places.length (-1) _ (Blk.has1 (R := repI) (by_ := 8) (q := -1) (B_34.later x_39) ⟨rfl, okI_iff.2 (by decide)⟩ (by decide)) hpos (by omega)).mono ?_)
  rintro e w_43 ⟨F40, cf40, rfl, HF40, x_44⟩
  refine ⟨_, rfl, hK _ _ ⟨Ext.tr x_39 x_44, ?_⟩⟩
  have q_45 := x_39.size
  have z_38 := Ext.tr z_30 x_39
  have q_46 := x_44.size
  have z_43 := Ext.tr z_38 x_44
  have u_41 := fun q hq => (HF40.lt q hq).2
  have lo_42 := fun q hq => (HF40.lt q hq).1
  have HF40 := HF40.down (show w.heap.size ≤ w_38.heap.size by omega)
  refine fw (v := .agg #[.int .i64 f.wide, .int .i64 f.high, .slice P f.places.length pc, .int .i64 b.x, .int .i64 b.y, .slice F40 ((List.replicate f.places.length (-1)).length) cf40, .slice none 0 0]) rfl rfl (fun _ => bd rfl (by kernel_rfl)) rfl <| fx rfl rfl rfl fun w_47 x_48 Q hK => bx rfl rfl rfl rfl fun w_49 b_50 x_51 l_52 B_53 => hK _ _ ⟨Ext.tr x_48 x_51, ?_⟩
  have q_54 := x_48.size
  have z_47 := Ext.tr z_43 x_48
  have q_55 := x_51.size
  have z_49 := Ext.tr z_47 x_51
  have q_56 := B_53.lt
  refine fw rfl rfl (fun _ => as_ rfl) rfl <| fn fun w_57 x_58 => ?_
  have q_59 := x_58.size
  have z_57 := Ext.tr z_49 x_58
  refine nT <| sq <| rg <| vl (mv rfl) rfl <| ?_
  have B_12 := B_12.later (Ext.tr x_23 (Ext.tr x_26 (Ext.tr x_29 (Ext.tr x_32 (Ext.tr x_39 (Ext.tr x_44 (Ext.tr x_48 (Ext.tr x_51 x_58))))))))
  refine vl (ld rfl (B_12.all Pts_ag_api_Cell Pts_sz_api_Cell)) rfl <| ?_
  have B_53 := B_53.later x_58
  have HF40 := HF40.later (Ext.tr x_48 (Ext.tr x_51 x_58))
  have HQ0 : Nod.rep.SOwn 167 32 w_57 w.heap.size (Rep.blkOf none) none 0 ([] : List Nod) := Rep.SOwn.nil _
  refine ca Pts_en__P_path_search__push rfl rfl ((ppush_any w f P F40 none pc cf40 0 b_50 ((List.replicate f.places.length (-1))) ([] : List Nod) b a 0 _ z_57 hf hP B_53 (by omega) HQ0 (fun q hq => by simp [Rep.blkOf] at hq) (fun y hy => by simp at hy) (by simp) (by omega) (by omega) (by omega)).mono ?_)
  rintro e w_61 ⟨A1, c1, rfl, HB1, HQ1, hdQ1, hg1, m_60⟩
  refine ⟨_, rfl, ?_⟩
  have q_62 := m_60.size
  have z_61 := Ext.mod z_57 m_60 (fun q hq => (List.mem_cons.1 hq).elim (fun h => by omega) (fun h => by simp [Rep.blkOf] at h))
  have u1 := fun q hq => (HQ1.lt q hq).2
  have lo1 : ∀ q ∈ Rep.blkOf A1, w_57.heap.size ≤ q := fun q hq => (hg1 q hq).elim (fun h => by simp [Rep.blkOf] at h) id
  refine nl <| nT <| sq <| rg <| vl (mv rfl) rfl <| ?_
  have HF40 := HF40.mod m_60 (fun q hq h => (List.mem_cons.1 h).elim (fun h => by exfalso; (have := u_41 q hq; omega)) (fun h => by simp [Rep.blkOf] at h))
  refine ca Pts_en__P_path_search__run rfl rfl ((prun_any w f P F40 A1 pc cf40 c1 b_50 ((List.replicate f.places.length (-1))) (Hp.push Nod.all ([] : List Nod) ⟨a, 0, 0 + Fld.est b a⟩) b a a _ z_61 hf hP HB1 (by omega) HF40 HQ1 (fun q hq hb => by exfalso; (have := u_41 q hq; omega)) hdQ1 (fun q h1 h2 => by exfalso; (have := lo1 q h1; (have := u_41 q h2; omega))) (PS.start hf ga a) Vis.start hib (by rw [Hp.push_len, und_all]; simp; omega)).mono ?_)
  rintro e w_64 ⟨far, A2, c2, l2, rfl, HB2, HF2, hpe, m_63⟩
  refine ⟨_, rfl, ?_⟩
  have q_65 := m_63.size
  have z_64 := Ext.mod z_61 m_63 (fun q hq => (List.mem_cons.1 hq).elim (fun h => by omega) (fun h => (List.mem_append.1 h).elim (fun h => (HF40.lt q h).1) (fun h => (HQ1.lt q h).1)))
  have hfl := fr_lt hf hpe.len hib
  refine nl <| nT <| sq <| sq <| ?_
  refine rd [(3, 0), (5, 0), (6, 0), (8, 0)] [0, 1, 2, 3, 4, 5, 6, 7, 8, 9] (by kernel_rfl) (by kernel_rfl) ?_
  refine fw rfl rfl (fun _ => mv rfl) rfl <| fw rfl rfl (fun _ => nc rfl) rfl <| fw rfl rfl (fun _ => fa Pts_fd_path_search_2 rfl) rfl <| fq rfl rfl (fun _ x => ld rfl ((HB2.later x).one Pts_ag_S_int rfl)) rfl <| fw rfl rfl (fun _ => mv rfl) rfl <| ?_
  have B_19 := B_19.later (Ext.tr x_29 (Ext.tr x_32 (Ext.tr x_39 (Ext.tr x_44 (Ext.tr x_48 (Ext.tr x_51 x_58))))))
  have B_19 := B_19.mod m_60 (fun hq => (List.mem_cons.1 hq).elim (fun h => by omega) (fun h => by simp [Rep.blkOf] at h))
  have B_19 := B_19.mod m_63 (fun hq => (List.mem_cons.1 hq).elim (fun h => by omega) (fun h => (List.mem_append.1 h).elim (fun h => (show ∀ q, q ∈ Rep.blkOf F40 → q = b_16 → False from fun q h hb => by (have := lo_42 q h; omega)) _ h rfl) (fun h => (show ∀ q, q ∈ Rep.blkOf A1 → q = b_16 → False from fun q h hb => by (have := lo1 q h; omega)) _ h rfl)))
  refine fq rfl rfl (fun _ x => ld rfl ((B_19.later x).all Pts_ag_api_Cell Pts_sz_api_Cell)) rfl <| fc rfl rfl Pts_en__P_path_search__index rfl (fun _ x => pindex_any w f P F40 A2 pc cf40 c2 b_50 far l2 b b _ (Ext.tr z_64 x) hf hP (HB2.later x) (by first | omega | (dsimp only; omega))) rfl <| fw rfl rfl (fun _ => iA ((b.y * f.wide + b.x).toNat) Try.underlying22 Pts_sz_int rfl rfl (HF2.has.adr (Nat.zero_lt_of_lt (show (b.y * f.wide + b.x).toNat < _ from (by have h_ := hfl.1; omega)))) (by omega) (by have h_ := hfl.1; omega)) rfl <| fq rfl rfl (fun _ x => ld rfl (Rep.SHas.one' hcI ((HF2.later x).has.adh (Nat.zero_lt_of_lt (show (b.y * f.wide + b.x).toNat < _ from (by have h_ := hfl.1; omega)))) (hpe.get hf hib) rfl Pts_ag_int)) rfl <| fw rfl rfl (fun _ => blt rfl rfl) rfl <| fn fun w_66 x_67 => ?_
  have q_68 := x_67.size
  have z_66 := Ext.tr z_64 x_67
  refine nT <| cF (evb rfl kfr) <| sk <| nT <| sq <| rg <| vl (mv rfl) rfl <| vl (as_ rfl) rfl <| vl (as_ rfl) rfl <| nl <| nT <| rt <| tR (.tmp rfl (.tmp rfl .nil)) <| ?_
  have HB2 := HB2.later x_67
  have HF2 := HF2.later x_67
  exact ⟨b_50, F40, A2, cf40, c2, far, l2, rfl, hpe, HB2, by omega, HF2, (fun q hq hb => by exfalso; (have := u_41 q hq; omega)), z_66⟩
theorem psearched_no (f : Fld) (a b : Cel) (P : Option Addr) (pc : Nat) (w : World) (hP : repI.SHas 8 w P pc f.places) (h : findE f a b ≠ 0) :
    Calls Try.prog 56 #[.agg #[.int .i64 f.wide, .int .i64 f.high, .slice P f.places.length pc], .agg #[.int .i64 a.x, .int .i64 a.y], .agg #[.int .i64 b.x, .int .i64 b.y]] w (fun e w' => e = .returned (.tuple #[.pointer none, .int .i64 (findE f a b)]) ∧ Ext w w') := by
  rcases find_cases f a b with ⟨h1, h2⟩ | ⟨h1, h2, h3⟩ | ⟨h1, h2, h3, h4⟩ | ⟨h1, h2, h3, h4 | h4⟩
  · rw [h2]; exact psearched_bad1 f a b P pc w hP h1
  · rw [h3]; exact psearched_bad2 f a b P pc w hP h1 h2
  · rw [h4]; exact psearched_bad3 f a b P pc w hP h1 h2 h3
  · rw [h4.2]; exact (psearched_none f a b P pc w hP h1 h2 h3 h4.1).mono fun e w' h => ⟨h.2.1, h.2.2⟩
  · exact absurd h4.2 h
end Go.Proofs.Ytffjpfpbpnhmcaa
