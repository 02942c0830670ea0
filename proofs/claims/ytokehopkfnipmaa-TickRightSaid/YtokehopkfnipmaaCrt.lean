import Derived.Test.YtokehopkfnipmaaRpt
import Derived.Test.YtokehopkfnipmaaFlM
import Derived.Test.YtokehopkfnipmaaWld
import Derived.Test.YtokehopkfnipmaaLinG
set_option linter.unusedVariables false
set_option linter.unusedSimpArgs false
namespace Go.Proofs.Ytokehopkfnipmaa
open Go.RowKit

theorem Pts_ag_api_Field : Ag Try.prog 54 true := fun _ => by kernel_rfl
theorem Pts_sz_api_Field : Sz Try.prog 54 3 := fun _ => by kernel_rfl
theorem Pts_ag_api_Cell : Ag Try.prog 70 true := fun _ => by kernel_rfl
theorem Pts_sz_api_Cell : Sz Try.prog 70 2 := fun _ => by kernel_rfl
theorem Pts_en_field_At : Enters Try.prog 141 := en Try.func141 (by kernel_rfl) (by kernel_rfl)
theorem Pts_fd_api_Field_2 : Fd Try.prog 54 2 2 := fun _ _ _ => by kernel_rfl
theorem Pts_ag_S_int : Ag Try.prog 34 false := fun _ => by kernel_rfl
theorem Pts_en_slices_Repeat_S_int_int_ : Enters Try.prog 169 := en Try.func169 (by kernel_rfl) (by kernel_rfl)
theorem Pts_en__P_path_search__push : Enters Try.prog 170 := en Try.func170 (by kernel_rfl) (by kernel_rfl)
theorem Pts_en__P_path_search__run : Enters Try.prog 171 := en Try.func171 (by kernel_rfl) (by kernel_rfl)
theorem Pts_fd_path_search_2 : Fd Try.prog 229 2 5 := fun _ _ _ => by kernel_rfl
theorem Pts_en__P_path_search__index : Enters Try.prog 159 := en Try.func159 (by kernel_rfl) (by kernel_rfl)
theorem Pts_sz_int : Sz Try.prog 3 1 := fun _ => by kernel_rfl
theorem Pts_ag_int : Ag Try.prog 3 false := fun _ => by kernel_rfl
set_option maxRecDepth 100000 in
set_option maxHeartbeats 400000 in
theorem psearched_bad1 (f : Fld) (a b : Cel) (P : Option Addr) (pc : Nat) (w : World) (hP : repI.SHas 8 w P pc f.places) (he : f.atE a ≠ 0) :
  Calls Try.prog 156 #[.agg #[.int .i64 f.wide, .int .i64 f.high, .slice P f.places.length pc], .agg #[.int .i64 a.x, .int .i64 a.y], .agg #[.int .i64 b.x, .int .i64 b.y]] w (fun e w' => e = .returned (.tuple #[.pointer none, .int .i64 (f.atE a)]) ∧ Ext w w') := by
 have k1 : (f.atE a != 0) = true := by simpa using he
 refine calls_W (n := 61) Try.func156 rfl rfl rfl ?_
 refine sq <| rg <| bx rfl rfl rfl rfl fun w_1 b_2 x_3 l_4 B_5 => ?_
 have q_6 := x_3.size
 have z_1 := Ext.tr (Ext.rf w) x_3
 have q_7 := B_5.lt
 refine bx rfl rfl rfl rfl fun w_8 b_9 x_10 l_11 B_12 => ?_
 have q_13 := x_10.size
 have z_8 := Ext.tr z_1 x_10
 have q_14 := B_12.lt
 refine bx rfl rfl rfl rfl fun w_15 b_16 x_17 l_18 B_19 => ?_
 have q_20 := x_17.size
 have z_15 := Ext.tr z_8 x_17
 have q_21 := B_19.lt
 refine vl (as_ rfl) rfl <| vl (as_ rfl) rfl <| nl <| nT <| sq <| rg <| ?_
 have B_5 := B_5.later (Ext.tr x_10 x_17)
 refine vl (ld rfl (B_5.all Pts_ag_api_Field Pts_sz_api_Field)) rfl <| ?_
 have B_12 := B_12.later x_17
 refine vl (ld rfl (B_12.all Pts_ag_api_Cell Pts_sz_api_Cell)) rfl <| ca Pts_en_field_At rfl rfl ((fldAt2 f a _ _ _ (hP.keep z_15)).mono ?_)
 rintro e w_22 ⟨rfl, x_23⟩
 refine ⟨_, rfl, ?_⟩
 have q_24 := x_23.size
 have z_22 := Ext.tr z_15 x_23
 refine vl (mv rfl) rfl <| vl (ex rfl rfl) rfl <| vl (ex rfl rfl) rfl <| vl (as_ rfl) rfl <| vl (as_ rfl) rfl <| nl <| nT <| sq <| sq <| rg <| vl (mv rfl) rfl <| vl (bne rfl rfl) rfl <| nl <| nT <| cT (evb rfl k1) <| sq <| rg <| vl (mv rfl) rfl <| vl (as_ rfl) rfl <| vl (as_ rfl) rfl <| nl <| nT <| rt <| tT <| ?_
 refine tR (.tmp rfl (.tmp rfl .nil)) <| ?_
 exact ⟨rfl, z_22⟩
set_option maxRecDepth 100000 in
set_option maxHeartbeats 400000 in
theorem psearched_bad2 (f : Fld) (a b : Cel) (P : Option Addr) (pc : Nat) (w : World) (hP : repI.SHas 8 w P pc f.places) (he1 : f.atE a = 0) (he : f.atE b ≠ 0) :
  Calls Try.prog 156 #[.agg #[.int .i64 f.wide, .int .i64 f.high, .slice P f.places.length pc], .agg #[.int .i64 a.x, .int .i64 a.y], .agg #[.int .i64 b.x, .int .i64 b.y]] w (fun e w' => e = .returned (.tuple #[.pointer none, .int .i64 (f.atE b)]) ∧ Ext w w') := by
 have k1 : (f.atE a != 0) = false := by simpa using he1
 have k2 : (f.atE b != 0) = true := by simpa using he
 refine calls_W (n := 61) Try.func156 rfl rfl rfl ?_
 refine sq <| rg <| bx rfl rfl rfl rfl fun w_1 b_2 x_3 l_4 B_5 => ?_
 have q_6 := x_3.size
 have z_1 := Ext.tr (Ext.rf w) x_3
 have q_7 := B_5.lt
 refine bx rfl rfl rfl rfl fun w_8 b_9 x_10 l_11 B_12 => ?_
 have q_13 := x_10.size
 have z_8 := Ext.tr z_1 x_10
 have q_14 := B_12.lt
 refine bx rfl rfl rfl rfl fun w_15 b_16 x_17 l_18 B_19 => ?_
 have q_20 := x_17.size
 have z_15 := Ext.tr z_8 x_17
 have q_21 := B_19.lt
 refine vl (as_ rfl) rfl <| vl (as_ rfl) rfl <| nl <| nT <| sq <| rg <| ?_
 have B_5 := B_5.later (Ext.tr x_10 x_17)
 refine vl (ld rfl (B_5.all Pts_ag_api_Field Pts_sz_api_Field)) rfl <| ?_
 have B_12 := B_12.later x_17
 refine vl (ld rfl (B_12.all Pts_ag_api_Cell Pts_sz_api_Cell)) rfl <| ca Pts_en_field_At rfl rfl ((fldAt2 f a _ _ _ (hP.keep z_15)).mono ?_)
 rintro e w_22 ⟨rfl, x_23⟩
 refine ⟨_, rfl, ?_⟩
 have q_24 := x_23.size
 have z_22 := Ext.tr z_15 x_23
 refine vl (mv rfl) rfl <| vl (ex rfl rfl) rfl <| vl (ex rfl rfl) rfl <| vl (as_ rfl) rfl <| vl (as_ rfl) rfl <| nl <| nT <| sq <| sq <| rg <| vl (mv rfl) rfl <| vl (bne rfl rfl) rfl <| nl <| nT <| cF (evb rfl k1) <| sk <| nT <| sq <| rg <| ?_
 have B_5 := B_5.later x_23
 refine vl (ld rfl (B_5.all Pts_ag_api_Field Pts_sz_api_Field)) rfl <| ?_
 have B_19 := B_19.later x_23
 refine vl (ld rfl (B_19.all Pts_ag_api_Cell Pts_sz_api_Cell)) rfl <| ca Pts_en_field_At rfl rfl ((fldAt2 f b _ _ _ (hP.keep z_22)).mono ?_)
 rintro e w_25 ⟨rfl, x_26⟩
 refine ⟨_, rfl, ?_⟩
 have q_27 := x_26.size
 have z_25 := Ext.tr z_22 x_26
 refine vl (mv rfl) rfl <| vl (ex rfl rfl) rfl <| vl (ex rfl rfl) rfl <| vl (as_ rfl) rfl <| vl (as_ rfl) rfl <| nl <| nT <| sq <| sq <| rg <| vl (mv rfl) rfl <| vl (bne rfl rfl) rfl <| nl <| nT <| cT (evb rfl k2) <| sq <| rg <| vl (mv rfl) rfl <| vl (as_ rfl) rfl <| vl (as_ rfl) rfl <| nl <| nT <| rt <| tT <| ?_
 refine tR (.tmp rfl (.tmp rfl .nil)) <| ?_
 exact ⟨rfl, z_25⟩
set_option maxRecDepth 100000 in
set_option maxHeartbeats 400000 in
theorem psearched_bad3 (f : Fld) (a b : Cel) (P : Option Addr) (pc : Nat) (w : World) (hP : repI.SHas 8 w P pc f.places) (he1 : f.atE a = 0) (he2 : f.atE b = 0) (he : f.place a = 1 ∨ f.place b = 1) :
  Calls Try.prog 156 #[.agg #[.int .i64 f.wide, .int .i64 f.high, .slice P f.places.length pc], .agg #[.int .i64 a.x, .int .i64 a.y], .agg #[.int .i64 b.x, .int .i64 b.y]] w (fun e w' => e = .returned (.tuple #[.pointer none, .int .i64 9]) ∧ Ext w w') := by
 have k1 : (f.atE a != 0) = false := by simpa using he1
 have k2 : (f.atE b != 0) = false := by simpa using he2
 have k3 : ((f.atV a == 1) || (f.atV b == 1)) = true := by obtain ⟨hf, ia⟩ := atE_chkF he1; obtain ⟨_, ib⟩ := atE_chkF he2; rw [(Fld.at_in hf ia).2, (Fld.at_in hf ib).2]; simpa using he
 refine calls_W (n := 61) Try.func156 rfl rfl rfl ?_
 refine sq <| rg <| bx rfl rfl rfl rfl fun w_1 b_2 x_3 l_4 B_5 => ?_
 have q_6 := x_3.size
 have z_1 := Ext.tr (Ext.rf w) x_3
 have q_7 := B_5.lt
 refine bx rfl rfl rfl rfl fun w_8 b_9 x_10 l_11 B_12 => ?_
 have q_13 := x_10.size
 have z_8 := Ext.tr z_1 x_10
 have q_14 := B_12.lt
 refine bx rfl rfl rfl rfl fun w_15 b_16 x_17 l_18 B_19 => ?_
 have q_20 := x_17.size
 have z_15 := Ext.tr z_8 x_17
 have q_21 := B_19.lt
 refine vl (as_ rfl) rfl <| vl (as_ rfl) rfl <| nl <| nT <| sq <| rg <| ?_
 have B_5 := B_5.later (Ext.tr x_10 x_17)
 refine vl (ld rfl (B_5.all Pts_ag_api_Field Pts_sz_api_Field)) rfl <| ?_
 have B_12 := B_12.later x_17
 refine vl (ld rfl (B_12.all Pts_ag_api_Cell Pts_sz_api_Cell)) rfl <| ca Pts_en_field_At rfl rfl ((fldAt2 f a _ _ _ (hP.keep z_15)).mono ?_)
 rintro e w_22 ⟨rfl, x_23⟩
 refine ⟨_, rfl, ?_⟩
 have q_24 := x_23.size
 have z_22 := Ext.tr z_15 x_23
 refine vl (mv rfl) rfl <| vl (ex rfl rfl) rfl <| vl (ex rfl rfl) rfl <| vl (as_ rfl) rfl <| vl (as_ rfl) rfl <| nl <| nT <| sq <| sq <| rg <| vl (mv rfl) rfl <| vl (bne rfl rfl) rfl <| nl <| nT <| cF (evb rfl k1) <| sk <| nT <| sq <| rg <| ?_
 have B_5 := B_5.later x_23
 refine vl (ld rfl (B_5.all Pts_ag_api_Field Pts_sz_api_Field)) rfl <| ?_
 have B_19 := B_19.later x_23
 refine vl (ld rfl (B_19.all Pts_ag_api_Cell Pts_sz_api_Cell)) rfl <| ca Pts_en_field_At rfl rfl ((fldAt2 f b _ _ _ (hP.keep z_22)).mono ?_)
 rintro e w_25 ⟨rfl, x_26⟩
 refine ⟨_, rfl, ?_⟩
 have q_27 := x_26.size
 have z_25 := Ext.tr z_22 x_26
 refine vl (mv rfl) rfl <| vl (ex rfl rfl) rfl <| vl (ex rfl rfl) rfl <| vl (as_ rfl) rfl <| vl (as_ rfl) rfl <| nl <| nT <| sq <| sq <| rg <| vl (mv rfl) rfl <| vl (bne rfl rfl) rfl <| nl <| nT <| cF (evb rfl k2) <| sk <| nT <| sq <| sq <| rg <| vl (mv rfl) rfl <| vl (beq rfl rfl) rfl <| vl (mv rfl) rfl <| vQ rfl rfl rfl rfl (fun hc => mv rfl) rfl <| ?_
 refine vQ rfl rfl rfl rfl (fun hc => beq (gt hc rfl) rfl) rfl <| vl (pO rfl rfl rfl rfl) rfl <| nl <| nT <| cT (evb rfl k3) <| sq <| rg <| vl (as_ rfl) rfl <| vl (as_ rfl) rfl <| nl <| nT <| rt <| tT <| tR (.tmp rfl (.tmp rfl .nil)) <| ?_
 exact ⟨rfl, z_25⟩
set_option maxRecDepth 100000 in
set_option maxHeartbeats 1000000 in
theorem psearched_none (f : Fld) (a b : Cel) (P : Option Addr) (pc : Nat) (w : World) (hP : repI.SHas 8 w P pc f.places) (hf : f.chk = 0) (ga : f.ground a = true) (gb : f.ground b = true) (hfr : frF f a b b < 0) :
  Calls Try.prog 156 #[.agg #[.int .i64 f.wide, .int .i64 f.high, .slice P f.places.length pc], .agg #[.int .i64 a.x, .int .i64 a.y], .agg #[.int .i64 b.x, .int .i64 b.y]] w (fun e w' => (∃ far, PEnd f a b far) ∧ e = .returned (.tuple #[.pointer none, .int .i64 6]) ∧ Ext w w') := by
 obtain ⟨g1, g2, g3, g4, g5, g6⟩ := Fld.good hf
 have hl16 := Fld.len_le hf
 have hia := Fld.ground_in ga
 have hib := Fld.ground_in gb
 obtain ⟨_, _, a1, a2, a3, a4⟩ := Fld.idx hf hia
 obtain ⟨_, _, b1, b2, b3, b4⟩ := Fld.idx hf hib
 have hea := (Fld.at_in hf hia).1
 have heb := (Fld.at_in hf hib).1
 have hva := (Fld.at_in hf hia).2
 have hvb := (Fld.at_in hf hib).2
 have hra := Fld.ground_place ga
 have hrb := Fld.ground_place gb
 have hpos : 0 < f.places.length := by have := (Fld.at_lt hf hia).1; omega
 have ke1 : (f.atE a != 0) = false := by rw [hea]; rfl
 have ke2 : (f.atE b != 0) = false := by rw [heb]; rfl
 have kr1 : (f.atV a == 1) = false := by rw [hva]; simpa using hra
 have kr2 : (f.atV b == 1) = false := by rw [hvb]; simpa using hrb
 have kfr : decide (frF f a b b < 0) = true := decide_eq_true hfr
 refine calls_W (n := 61) Try.func156 rfl rfl rfl ?_
 refine sq <| rg <| bx rfl rfl rfl rfl fun w_1 b_2 x_3 l_4 B_5 => ?_
 have q_6 := x_3.size
 have z_1 := Ext.tr (Ext.rf w) x_3
 have q_7 := B_5.lt
 refine bx rfl rfl rfl rfl fun w_8 b_9 x_10 l_11 B_12 => ?_
 have q_13 := x_10.size
 have z_8 := Ext.tr z_1 x_10
 have q_14 := B_12.lt
 refine bx rfl rfl rfl rfl fun w_15 b_16 x_17 l_18 B_19 => ?_
 have q_20 := x_17.size
 have z_15 := Ext.tr z_8 x_17
 have q_21 := B_19.lt
 refine vl (as_ rfl) rfl <| vl (as_ rfl) rfl <| nl <| nT <| sq <| rg <| ?_
 have B_5 := B_5.later (Ext.tr x_10 x_17)
 refine vl (ld rfl (B_5.all Pts_ag_api_Field Pts_sz_api_Field)) rfl <| ?_
 have B_12 := B_12.later x_17
 refine vl (ld rfl (B_12.all Pts_ag_api_Cell Pts_sz_api_Cell)) rfl <| ca Pts_en_field_At rfl rfl ((fldAt2 f a _ _ _ (hP.keep z_15)).mono ?_)
 rintro e w_22 ⟨rfl, x_23⟩
 refine ⟨_, rfl, ?_⟩
 have q_24 := x_23.size
 have z_22 := Ext.tr z_15 x_23
 refine vl (mv rfl) rfl <| vl (ex rfl rfl) rfl <| vl (ex rfl rfl) rfl <| vl (as_ rfl) rfl <| vl (as_ rfl) rfl <| nl <| nT <| sq <| sq <| rg <| vl (mv rfl) rfl <| vl (bne rfl rfl) rfl <| nl <| nT <| cF (evb rfl ke1) <| sk <| nT <| sq <| rg <| ?_
 have B_5 := B_5.later x_23
 refine vl (ld rfl (B_5.all Pts_ag_api_Field Pts_sz_api_Field)) rfl <| ?_
 have B_19 := B_19.later x_23
 refine vl (ld rfl (B_19.all Pts_ag_api_Cell Pts_sz_api_Cell)) rfl <| ca Pts_en_field_At rfl rfl ((fldAt2 f b _ _ _ (hP.keep z_22)).mono ?_)
 rintro e w_25 ⟨rfl, x_26⟩
 refine ⟨_, rfl, ?_⟩
 have q_27 := x_26.size
 have z_25 := Ext.tr z_22 x_26
 refine vl (mv rfl) rfl <| vl (ex rfl rfl) rfl <| vl (ex rfl rfl) rfl <| vl (as_ rfl) rfl <| vl (as_ rfl) rfl <| nl <| nT <| sq <| sq <| rg <| vl (mv rfl) rfl <| vl (bne rfl rfl) rfl <| nl <| nT <| cF (evb rfl ke2) <| sk <| nT <| sq <| sq <| rg <| vl (mv rfl) rfl <| vl (beq rfl rfl) rfl <| vl (mv (evb rfl kr1)) rfl <| ug rfl rfl rfl <| ?_
 refine vl (mv rfl) rfl <| ug rfl rfl rfl <| vl (beq rfl rfl) rfl <| vl (pkF rfl (evb rfl kr2)) rfl <| nl <| nT <| cF rfl <| sk <| nT <| sq <| ?_
 refine rd [(0, 0), (1, 0), (2, 2), (4, 0), (6, 2), (8, 2)] [0, 1, 3, 4, 5, 2, 6, 7, 8, 9] (by kernel_rfl) (by kernel_rfl) ?_
 have B_5 := B_5.later x_26
 refine fq rfl rfl (fun _ x => ld rfl ((B_5.later x).all Pts_ag_api_Field Pts_sz_api_Field)) rfl <| ?_
 have B_19 := B_19.later x_26
 refine fq rfl rfl (fun _ x => ld rfl ((B_19.later x).all Pts_ag_api_Cell Pts_sz_api_Cell)) rfl <| fw rfl rfl (fun _ => fa Pts_fd_api_Field_2 rfl) rfl <| fq rfl rfl (fun _ x => ld rfl ((B_5.later x).one Pts_ag_S_int rfl)) rfl <| fw rfl rfl (fun _ => ln Try.underlying34 rfl) rfl <| fx rfl rfl rfl fun w_28 x_29 Q hK => bs (e := 3) (cs := [.int .i64 (-1)]) rfl (fun _ => by kernel_rfl) rfl fun w_30 b_31 x_32 l_33 B_34 => hK _ _ ⟨Ext.tr x_29 x_32, ?_⟩
 have q_35 := x_29.size
 have z_28 := Ext.tr z_25 x_29
 have q_36 := x_32.size
 have z_30 := Ext.tr z_28 x_32
 have q_37 := B_34.lt
 refine fx rfl rfl rfl fun w_38 x_39 Q hK => ca Pts_en_slices_Repeat_S_int_int_ rfl rfl ((repeat_any _ _ f.places.length (-1) _ (Blk.has1 (R := repI) (by_ := 8) (q := -1) (B_34.later x_39) ⟨rfl, okI_iff.2 (by decide)⟩ (by decide)) hpos (by omega)).mono ?_)
 rintro e w_43 ⟨F40, cf40, rfl, HF40, x_44⟩
 refine ⟨_, rfl, hK _ _ ⟨Ext.tr x_39 x_44, ?_⟩⟩
 have q_45 := x_39.size
 have z_38 := Ext.tr z_30 x_39
 have q_46 := x_44.size
 have z_43 := Ext.tr z_38 x_44
 have u_41 := fun q hq => (HF40.lt q hq).2
 have lo_42 := fun q hq => (HF40.lt q hq).1
 have HF40 := HF40.down (show w.heap.size ≤ w_38.heap.size by omega)
 refine fw (v := .agg #[.int .i64 f.wide, .int .i64 f.high, .slice P f.places.length pc, .int .i64 b.x, .int .i64 b.y, .slice F40 ((List.replicate f.places.length (-1)).length) cf40, .slice none 0 0]) rfl rfl (fun _ => bd rfl (by kernel_rfl)) rfl <| fx rfl rfl rfl fun w_47 x_48 Q hK => bx rfl rfl rfl rfl fun w_49 b_50 x_51 l_52 B_53 => hK _ _ ⟨Ext.tr x_48 x_51, ?_⟩
 have q_54 := x_48.size
 have z_47 := Ext.tr z_43 x_48
 have q_55 := x_51.size
 have z_49 := Ext.tr z_47 x_51
 have q_56 := B_53.lt
 refine fw rfl rfl (fun _ => as_ rfl) rfl <| fn fun w_57 x_58 => ?_
 have q_59 := x_58.size
 have z_57 := Ext.tr z_49 x_58
 refine nT <| sq <| rg <| vl (mv rfl) rfl <| ?_
 have B_12 := B_12.later (Ext.tr x_23 (Ext.tr x_26 (Ext.tr x_29 (Ext.tr x_32 (Ext.tr x_39 (Ext.tr x_44 (Ext.tr x_48 (Ext.tr x_51 x_58))))))))
 refine vl (ld rfl (B_12.all Pts_ag_api_Cell Pts_sz_api_Cell)) rfl <| ?_
 have B_53 := B_53.later x_58
 have HF40 := HF40.later (Ext.tr x_48 (Ext.tr x_51 x_58))
 have HQ0 : Nod.rep.SOwn 250 32 w_57 w.heap.size (Rep.blkOf none) none 0 ([] : List Nod) := Rep.SOwn.nil _
 refine ca Pts_en__P_path_search__push rfl rfl ((ppush_any w f P F40 none pc cf40 0 b_50 ((List.replicate f.places.length (-1))) ([] : List Nod) b a 0 _ z_57 hf hP B_53 (by omega) HQ0 (fun q hq => by simp [Rep.blkOf] at hq) (fun y hy => by simp at hy) (by simp) (by omega) (by omega) (by omega)).mono ?_)
 rintro e w_61 ⟨A1, c1, rfl, HB1, HQ1, hdQ1, hg1, m_60⟩
 refine ⟨_, rfl, ?_⟩
 have q_62 := m_60.size
 have z_61 := Ext.mod z_57 m_60 (fun q hq => (List.mem_cons.1 hq).elim (fun h => by omega) (fun h => by simp [Rep.blkOf] at h))
 have u1 := fun q hq => (HQ1.lt q hq).2
 have lo1 : ∀ q ∈ Rep.blkOf A1, w_57.heap.size ≤ q := fun q hq => (hg1 q hq).elim (fun h => by simp [Rep.blkOf] at h) id
 refine nl <| nT <| sq <| rg <| vl (mv rfl) rfl <| ?_
 have HF40 := HF40.mod m_60 (fun q hq h => (List.mem_cons.1 h).elim (fun h => by exfalso; (have := u_41 q hq; omega)) (fun h => by simp [Rep.blkOf] at h))
 refine ca Pts_en__P_path_search__run rfl rfl ((prun_any w f P F40 A1 pc cf40 c1 b_50 ((List.replicate f.places.length (-1))) (Hp.push Nod.all ([] : List Nod) ⟨a, 0, 0 + Fld.est b a⟩) b a a _ z_61 hf hP HB1 (by omega) HF40 HQ1 (fun q hq hb => by exfalso; (have := u_41 q hq; omega)) hdQ1 (fun q h1 h2 => by exfalso; (have := lo1 q h1; (have := u_41 q h2; omega))) (PS.start hf ga a) Vis.start hib (by rw [Hp.push_len, und_all]; simp; omega)).mono ?_)
 rintro e w_64 ⟨far, A2, c2, l2, rfl, HB2, HF2, hpe, m_63⟩
 refine ⟨_, rfl, ?_⟩
 have q_65 := m_63.size
 have z_64 := Ext.mod z_61 m_63 (fun q hq => (List.mem_cons.1 hq).elim (fun h => by omega) (fun h => (List.mem_append.1 h).elim (fun h => (HF40.lt q h).1) (fun h => (HQ1.lt q h).1)))
 have hfl := fr_lt hf hpe.len hib
 refine nl <| nT <| sq <| sq <| ?_
 refine rd [(3, 0), (5, 0), (6, 0), (8, 0)] [0, 1, 2, 3, 4, 5, 6, 7, 8, 9] (by kernel_rfl) (by kernel_rfl) ?_
 refine fw rfl rfl (fun _ => mv rfl) rfl <| fw rfl rfl (fun _ => nc rfl) rfl <| fw rfl rfl (fun _ => fa Pts_fd_path_search_2 rfl) rfl <| fq rfl rfl (fun _ x => ld rfl ((HB2.later x).one Pts_ag_S_int rfl)) rfl <| fw rfl rfl (fun _ => mv rfl) rfl <| ?_
 have B_19 := B_19.later (Ext.tr x_29 (Ext.tr x_32 (Ext.tr x_39 (Ext.tr x_44 (Ext.tr x_48 (Ext.tr x_51 x_58))))))
 have B_19 := B_19.mod m_60 (fun hq => (List.mem_cons.1 hq).elim (fun h => by omega) (fun h => by simp [Rep.blkOf] at h))
 have B_19 := B_19.mod m_63 (fun hq => (List.mem_cons.1 hq).elim (fun h => by omega) (fun h => (List.mem_append.1 h).elim (fun h => (show ∀ q, q ∈ Rep.blkOf F40 → q = b_16 → False from fun q h hb => by (have := lo_42 q h; omega)) _ h rfl) (fun h => (show ∀ q, q ∈ Rep.blkOf A1 → q = b_16 → False from fun q h hb => by (have := lo1 q h; omega)) _ h rfl)))
 refine fq rfl rfl (fun _ x => ld rfl ((B_19.later x).all Pts_ag_api_Cell Pts_sz_api_Cell)) rfl <| fc rfl rfl Pts_en__P_path_search__index rfl (fun _ x => pindex_any w f P F40 A2 pc cf40 c2 b_50 far l2 b b _ (Ext.tr z_64 x) hf hP (HB2.later x) (by first | omega | (dsimp only; omega))) rfl <| fw rfl rfl (fun _ => iA ((b.y * f.wide + b.x).toNat) Try.underlying34 Pts_sz_int rfl rfl (HF2.has.adr (Nat.zero_lt_of_lt (show (b.y * f.wide + b.x).toNat < _ from (by have h_ := hfl.1; omega)))) (by omega) (by have h_ := hfl.1; omega)) rfl <| fq rfl rfl (fun _ x => ld rfl (Rep.SHas.one' hcI ((HF2.later x).has.adh (Nat.zero_lt_of_lt (show (b.y * f.wide + b.x).toNat < _ from (by have h_ := hfl.1; omega)))) (hpe.get hf hib) rfl Pts_ag_int)) rfl <| fw rfl rfl (fun _ => blt rfl rfl) rfl <| fn fun w_66 x_67 => ?_
 have q_68 := x_67.size
 have z_66 := Ext.tr z_64 x_67
 refine nT <| cT (evb rfl kfr) <| sq <| rg <| vl (as_ rfl) rfl <| vl (as_ rfl) rfl <| nl <| nT <| rt <| tT <| tR (.tmp rfl (.tmp rfl .nil)) <| ?_
 have HB2 := HB2.later x_67
 have HF2 := HF2.later x_67
 exact ⟨⟨far, hpe⟩, rfl, z_66⟩
set_option maxRecDepth 100000 in
set_option maxHeartbeats 1000000 in
theorem psearched_some (f : Fld) (a b : Cel) (P : Option Addr) (pc : Nat) (w : World) (hP : repI.SHas 8 w P pc f.places) (hf : f.chk = 0) (ga : f.ground a = true) (gb : f.ground b = true) (hfr : 0 ≤ frF f a b b) :
  Calls Try.prog 156 #[.agg #[.int .i64 f.wide, .int .i64 f.high, .slice P f.places.length pc], .agg #[.int .i64 a.x, .int .i64 a.y], .agg #[.int .i64 b.x, .int .i64 b.y]] w (fun e w' => ∃ p F A cf c far l, e = .returned (.tuple #[.pointer (some ⟨p, 0, none⟩), .int .i64 0]) ∧ PEnd f a b far ∧ Blk w' p [.int .i64 f.wide, .int .i64 f.high, .slice P f.places.length pc, .int .i64 b.x, .int .i64 b.y, .slice F far.length cf, .slice A ((l : List Nod).length) c] 229 (0, 0) ∧ w.heap.size ≤ p ∧ repI.SOwn 3 8 w' w.heap.size (Rep.blkOf F) F cf far ∧ (∀ q ∈ Rep.blkOf F, q = p → False) ∧ Ext w w') := by
 obtain ⟨g1, g2, g3, g4, g5, g6⟩ := Fld.good hf
 have hl16 := Fld.len_le hf
 have hia := Fld.ground_in ga
 have hib := Fld.ground_in gb
 obtain ⟨_, _, a1, a2, a3, a4⟩ := Fld.idx hf hia
 obtain ⟨_, _, b1, b2, b3, b4⟩ := Fld.idx hf hib
 have hea := (Fld.at_in hf hia).1
 have heb := (Fld.at_in hf hib).1
 have hva := (Fld.at_in hf hia).2
 have hvb := (Fld.at_in hf hib).2
 have hra := Fld.ground_place ga
 have hrb := Fld.ground_place gb
 have hpos : 0 < f.places.length := by have := (Fld.at_lt hf hia).1; omega
 have ke1 : (f.atE a != 0) = false := by rw [hea]; rfl
 have ke2 : (f.atE b != 0) = false := by rw [heb]; rfl
 have kr1 : (f.atV a == 1) = false := by rw [hva]; simpa using hra
 have kr2 : (f.atV b == 1) = false := by rw [hvb]; simpa using hrb
 have kfr : decide (frF f a b b < 0) = false := decide_eq_false (by omega)
 refine calls_W (n := 61) Try.func156 rfl rfl rfl ?_
 refine sq <| rg <| bx rfl rfl rfl rfl fun w_1 b_2 x_3 l_4 B_5 => ?_
 have q_6 := x_3.size
 have z_1 := Ext.tr (Ext.rf w) x_3
 have q_7 := B_5.lt
 refine bx rfl rfl rfl rfl fun w_8 b_9 x_10 l_11 B_12 => ?_
 have q_13 := x_10.size
 have z_8 := Ext.tr z_1 x_10
 have q_14 := B_12.lt
 refine bx rfl rfl rfl rfl fun w_15 b_16 x_17 l_18 B_19 => ?_
 have q_20 := x_17.size
 have z_15 := Ext.tr z_8 x_17
 have q_21 := B_19.lt
 refine vl (as_ rfl) rfl <| vl (as_ rfl) rfl <| nl <| nT <| sq <| rg <| ?_
 have B_5 := B_5.later (Ext.tr x_10 x_17)
 refine vl (ld rfl (B_5.all Pts_ag_api_Field Pts_sz_api_Field)) rfl <| ?_
 have B_12 := B_12.later x_17
 refine vl (ld rfl (B_12.all Pts_ag_api_Cell Pts_sz_api_Cell)) rfl <| ca Pts_en_field_At rfl rfl ((fldAt2 f a _ _ _ (hP.keep z_15)).mono ?_)
 rintro e w_22 ⟨rfl, x_23⟩
 refine ⟨_, rfl, ?_⟩
 have q_24 := x_23.size
 have z_22 := Ext.tr z_15 x_23
 refine vl (mv rfl) rfl <| vl (ex rfl rfl) rfl <| vl (ex rfl rfl) rfl <| vl (as_ rfl) rfl <| vl (as_ rfl) rfl <| nl <| nT <| sq <| sq <| rg <| vl (mv rfl) rfl <| vl (bne rfl rfl) rfl <| nl <| nT <| cF (evb rfl ke1) <| sk <| nT <| sq <| rg <| ?_
 have B_5 := B_5.later x_23
 refine vl (ld rfl (B_5.all Pts_ag_api_Field Pts_sz_api_Field)) rfl <| ?_
 have B_19 := B_19.later x_23
 refine vl (ld rfl (B_19.all Pts_ag_api_Cell Pts_sz_api_Cell)) rfl <| ca Pts_en_field_At rfl rfl ((fldAt2 f b _ _ _ (hP.keep z_22)).mono ?_)
 rintro e w_25 ⟨rfl, x_26⟩
 refine ⟨_, rfl, ?_⟩
 have q_27 := x_26.size
 have z_25 := Ext.tr z_22 x_26
 refine vl (mv rfl) rfl <| vl (ex rfl rfl) rfl <| vl (ex rfl rfl) rfl <| vl (as_ rfl) rfl <| vl (as_ rfl) rfl <| nl <| nT <| sq <| sq <| rg <| vl (mv rfl) rfl <| vl (bne rfl rfl) rfl <| nl <| nT <| cF (evb rfl ke2) <| sk <| nT <| sq <| sq <| rg <| vl (mv rfl) rfl <| vl (beq rfl rfl) rfl <| vl (mv (evb rfl kr1)) rfl <| ug rfl rfl rfl <| ?_
 refine vl (mv rfl) rfl <| ug rfl rfl rfl <| vl (beq rfl rfl) rfl <| vl (pkF rfl (evb rfl kr2)) rfl <| nl <| nT <| cF rfl <| sk <| nT <| sq <| ?_
 refine rd [(0, 0), (1, 0), (2, 2), (4, 0), (6, 2), (8, 2)] [0, 1, 3, 4, 5, 2, 6, 7, 8, 9] (by kernel_rfl) (by kernel_rfl) ?_
 have B_5 := B_5.later x_26
 refine fq rfl rfl (fun _ x => ld rfl ((B_5.later x).all Pts_ag_api_Field Pts_sz_api_Field)) rfl <| ?_
 have B_19 := B_19.later x_26
 refine fq rfl rfl (fun _ x => ld rfl ((B_19.later x).all Pts_ag_api_Cell Pts_sz_api_Cell)) rfl <| fw rfl rfl (fun _ => fa Pts_fd_api_Field_2 rfl) rfl <| fq rfl rfl (fun _ x => ld rfl ((B_5.later x).one Pts_ag_S_int rfl)) rfl <| fw rfl rfl (fun _ => ln Try.underlying34 rfl) rfl <| fx rfl rfl rfl fun w_28 x_29 Q hK => bs (e := 3) (cs := [.int .i64 (-1)]) rfl (fun _ => by kernel_rfl) rfl fun w_30 b_31 x_32 l_33 B_34 => hK _ _ ⟨Ext.tr x_29 x_32, ?_⟩
 have q_35 := x_29.size
 have z_28 := Ext.tr z_25 x_29
 have q_36 := x_32.size
 have z_30 := Ext.tr z_28 x_32
 have q_37 := B_34.lt
 refine fx rfl rfl rfl fun w_38 x_39 Q hK => ca Pts_en_slices_Repeat_S_int_int_ rfl rfl ((repeat_any _ _ f.places.length (-1) _ (Blk.has1 (R := repI) (by_ := 8) (q := -1) (B_34.later x_39) ⟨rfl, okI_iff.2 (by decide)⟩ (by decide)) hpos (by omega)).mono ?_)
 rintro e w_43 ⟨F40, cf40, rfl, HF40, x_44⟩
 refine ⟨_, rfl, hK _ _ ⟨Ext.tr x_39 x_44, ?_⟩⟩
 have q_45 := x_39.size
 have z_38 := Ext.tr z_30 x_39
 have q_46 := x_44.size
 have z_43 := Ext.tr z_38 x_44
 have u_41 := fun q hq => (HF40.lt q hq).2
 have lo_42 := fun q hq => (HF40.lt q hq).1
 have HF40 := HF40.down (show w.heap.size ≤ w_38.heap.size by omega)
 refine fw (v := .agg #[.int .i64 f.wide, .int .i64 f.high, .slice P f.places.length pc, .int .i64 b.x, .int .i64 b.y, .slice F40 ((List.replicate f.places.length (-1)).length) cf40, .slice none 0 0]) rfl rfl (fun _ => bd rfl (by kernel_rfl)) rfl <| fx rfl rfl rfl fun w_47 x_48 Q hK => bx rfl rfl rfl rfl fun w_49 b_50 x_51 l_52 B_53 => hK _ _ ⟨Ext.tr x_48 x_51, ?_⟩
 have q_54 := x_48.size
 have z_47 := Ext.tr z_43 x_48
 have q_55 := x_51.size
 have z_49 := Ext.tr z_47 x_51
 have q_56 := B_53.lt
 refine fw rfl rfl (fun _ => as_ rfl) rfl <| fn fun w_57 x_58 => ?_
 have q_59 := x_58.size
 have z_57 := Ext.tr z_49 x_58
 refine nT <| sq <| rg <| vl (mv rfl) rfl <| ?_
 have B_12 := B_12.later (Ext.tr x_23 (Ext.tr x_26 (Ext.tr x_29 (Ext.tr x_32 (Ext.tr x_39 (Ext.tr x_44 (Ext.tr x_48 (Ext.tr x_51 x_58))))))))
 refine vl (ld rfl (B_12.all Pts_ag_api_Cell Pts_sz_api_Cell)) rfl <| ?_
 have B_53 := B_53.later x_58
 have HF40 := HF40.later (Ext.tr x_48 (Ext.tr x_51 x_58))
 have HQ0 : Nod.rep.SOwn 250 32 w_57 w.heap.size (Rep.blkOf none) none 0 ([] : List Nod) := Rep.SOwn.nil _
 refine ca Pts_en__P_path_search__push rfl rfl ((ppush_any w f P F40 none pc cf40 0 b_50 ((List.replicate f.places.length (-1))) ([] : List Nod) b a 0 _ z_57 hf hP B_53 (by omega) HQ0 (fun q hq => by simp [Rep.blkOf] at hq) (fun y hy => by simp at hy) (by simp) (by omega) (by omega) (by omega)).mono ?_)
 rintro e w_61 ⟨A1, c1, rfl, HB1, HQ1, hdQ1, hg1, m_60⟩
 refine ⟨_, rfl, ?_⟩
 have q_62 := m_60.size
 have z_61 := Ext.mod z_57 m_60 (fun q hq => (List.mem_cons.1 hq).elim (fun h => by omega) (fun h => by simp [Rep.blkOf] at h))
 have u1 := fun q hq => (HQ1.lt q hq).2
 have lo1 : ∀ q ∈ Rep.blkOf A1, w_57.heap.size ≤ q := fun q hq => (hg1 q hq).elim (fun h => by simp [Rep.blkOf] at h) id
 refine nl <| nT <| sq <| rg <| vl (mv rfl) rfl <| ?_
 have HF40 := HF40.mod m_60 (fun q hq h => (List.mem_cons.1 h).elim (fun h => by exfalso; (have := u_41 q hq; omega)) (fun h => by simp [Rep.blkOf] at h))
 refine ca Pts_en__P_path_search__run rfl rfl ((prun_any w f P F40 A1 pc cf40 c1 b_50 ((List.replicate f.places.length (-1))) (Hp.push Nod.all ([] : List Nod) ⟨a, 0, 0 + Fld.est b a⟩) b a a _ z_61 hf hP HB1 (by omega) HF40 HQ1 (fun q hq hb => by exfalso; (have := u_41 q hq; omega)) hdQ1 (fun q h1 h2 => by exfalso; (have := lo1 q h1; (have := u_41 q h2; omega))) (PS.start hf ga a) Vis.start hib (by rw [Hp.push_len, und_all]; simp; omega)).mono ?_)
 rintro e w_64 ⟨far, A2, c2, l2, rfl, HB2, HF2, hpe, m_63⟩
 refine ⟨_, rfl, ?_⟩
 have q_65 := m_63.size
 have z_64 := Ext.mod z_61 m_63 (fun q hq => (List.mem_cons.1 hq).elim (fun h => by omega) (fun h => (List.mem_append.1 h).elim (fun h => (HF40.lt q h).1) (fun h => (HQ1.lt q h).1)))
 have hfl := fr_lt hf hpe.len hib
 refine nl <| nT <| sq <| sq <| ?_
 refine rd [(3, 0), (5, 0), (6, 0), (8, 0)] [0, 1, 2, 3, 4, 5, 6, 7, 8, 9] (by kernel_rfl) (by kernel_rfl) ?_
 refine fw rfl rfl (fun _ => mv rfl) rfl <| fw rfl rfl (fun _ => nc rfl) rfl <| fw rfl rfl (fun _ => fa Pts_fd_path_search_2 rfl) rfl <| fq rfl rfl (fun _ x => ld rfl ((HB2.later x).one Pts_ag_S_int rfl)) rfl <| fw rfl rfl (fun _ => mv rfl) rfl <| ?_
 have B_19 := B_19.later (Ext.tr x_29 (Ext.tr x_32 (Ext.tr x_39 (Ext.tr x_44 (Ext.tr x_48 (Ext.tr x_51 x_58))))))
 have B_19 := B_19.mod m_60 (fun hq => (List.mem_cons.1 hq).elim (fun h => by omega) (fun h => by simp [Rep.blkOf] at h))
 have B_19 := B_19.mod m_63 (fun hq => (List.mem_cons.1 hq).elim (fun h => by omega) (fun h => (List.mem_append.1 h).elim (fun h => (show ∀ q, q ∈ Rep.blkOf F40 → q = b_16 → False from fun q h hb => by (have := lo_42 q h; omega)) _ h rfl) (fun h => (show ∀ q, q ∈ Rep.blkOf A1 → q = b_16 → False from fun q h hb => by (have := lo1 q h; omega)) _ h rfl)))
 refine fq rfl rfl (fun _ x => ld rfl ((B_19.later x).all Pts_ag_api_Cell Pts_sz_api_Cell)) rfl <| fc rfl rfl Pts_en__P_path_search__index rfl (fun _ x => pindex_any w f P F40 A2 pc cf40 c2 b_50 far l2 b b _ (Ext.tr z_64 x) hf hP (HB2.later x) (by first | omega | (dsimp only; omega))) rfl <| fw rfl rfl (fun _ => iA ((b.y * f.wide + b.x).toNat) Try.underlying34 Pts_sz_int rfl rfl (HF2.has.adr (Nat.zero_lt_of_lt (show (b.y * f.wide + b.x).toNat < _ from (by have h_ := hfl.1; omega)))) (by omega) (by have h_ := hfl.1; omega)) rfl <| fq rfl rfl (fun _ x => ld rfl (Rep.SHas.one' hcI ((HF2.later x).has.adh (Nat.zero_lt_of_lt (show (b.y * f.wide + b.x).toNat < _ from (by have h_ := hfl.1; omega)))) (hpe.get hf hib) rfl Pts_ag_int)) rfl <| fw rfl rfl (fun _ => blt rfl rfl) rfl <| fn fun w_66 x_67 => ?_
 have q_68 := x_67.size
 have z_66 := Ext.tr z_64 x_67
 refine nT <| cF (evb rfl kfr) <| sk <| nT <| sq <| rg <| vl (mv rfl) rfl <| vl (as_ rfl) rfl <| vl (as_ rfl) rfl <| nl <| nT <| rt <| tR (.tmp rfl (.tmp rfl .nil)) <| ?_
 have HB2 := HB2.later x_67
 have HF2 := HF2.later x_67
 exact ⟨b_50, F40, A2, cf40, c2, far, l2, rfl, hpe, HB2, by omega, HF2, (fun q hq hb => by exfalso; (have := u_41 q hq; omega)), z_66⟩
theorem psearched_no (f : Fld) (a b : Cel) (P : Option Addr) (pc : Nat) (w : World) (hP : repI.SHas 8 w P pc f.places) (h : findE f a b ≠ 0) :
  Calls Try.prog 156 #[.agg #[.int .i64 f.wide, .int .i64 f.high, .slice P f.places.length pc], .agg #[.int .i64 a.x, .int .i64 a.y], .agg #[.int .i64 b.x, .int .i64 b.y]] w (fun e w' => e = .returned (.tuple #[.pointer none, .int .i64 (findE f a b)]) ∧ Ext w w') := by
 rcases find_cases f a b with ⟨h1, h2⟩ | ⟨h1, h2, h3⟩ | ⟨h1, h2, h3, h4⟩ | ⟨h1, h2, h3, h4 | h4⟩
 ·rw [h2]; exact psearched_bad1 f a b P pc w hP h1
 ·rw [h3]; exact psearched_bad2 f a b P pc w hP h1 h2
 ·rw [h4]; exact psearched_bad3 f a b P pc w hP h1 h2 h3
 ·rw [h4.2]; exact (psearched_none f a b P pc w hP h1 h2 h3 h4.1).mono fun e w' h => ⟨h.2.1, h.2.2⟩
 ·exact absurd h4.2 h
end Go.Proofs.Ytokehopkfnipmaa
set_option linter.unusedVariables false
set_option linter.unusedSimpArgs false
namespace Go.Proofs.Ytokehopkfnipmaa
open Go.RowKit

namespace Rv
section
variable {α : Type} [Inhabited α] {l : List α} {k i : Nat}
def rv (l : List α) : Nat → List α
 | 0 => l
 | k + 1 => Hp.swp (rv l k) k (l.length - 1 - k)
theorem rv_len : (rv l k).length = l.length := by
 induction k with
 | zero => rfl
 | succ k ih => rw [rv, Hp.swp_len, ih]
theorem rv_perm : ∀ k, 2 * k ≤ l.length + 1 → (rv l k).Perm l := by
 intro k
 induction k with
 | zero => intro _; exact List.Perm.refl _
 | succ k ih =>
  intro hk
  rw [rv]
  exact (Hp.swp_perm (by rw [rv_len]; omega) (by rw [rv_len]; omega)).trans (ih (by omega))
theorem rv_get : ∀ k, 2 * k ≤ l.length → ∀ i, i < l.length → (rv l k).getD i default = if i < k ∨ l.length - 1 - i < k then l.getD (l.length - 1 - i) default else l.getD i default := by
 intro k
 induction k with
 | zero => intro _ i _; rw [if_neg (by omega)]; rfl
 | succ k ih =>
  intro hk i hi
  have hl := rv_len (l := l) (k := k)
  rw [rv, Hp.swp_get (by omega) (by omega)]
  by_cases e1 : i = l.length - 1 - k
  ·rw [if_pos e1, ih (by omega) k (by omega), if_neg (by omega), if_pos (by omega)]
   congr 1; omega
  ·rw [if_neg e1]
   by_cases e2 : i = k
   ·rw [if_pos e2, ih (by omega) _ (by omega), if_neg (by omega), if_pos (by omega)]
    congr 1; omega
   ·rw [if_neg e2, ih (by omega) i hi]
    by_cases e3 : i < k ∨ l.length - 1 - i < k
    ·rw [if_pos e3, if_pos (by omega)]
    ·rw [if_neg e3, if_neg (by omega)]
theorem rv_end (h : (l.length : Int) - 1 ≤ 2 * (k : Int)) (h2 : 2 * k ≤ l.length) : rv l k = l.reverse := by
 refine List.ext_getElem (by rw [rv_len, List.length_reverse]) fun i h1 h2' => ?_
 rw [rv_len] at h1
 have hg := rv_get k h2 i h1
 rw [List.getElem_reverse]
 have e : (rv l k).getD i default = (rv l k)[i]'(by rw [rv_len]; exact h1) := by rw [List.getD_eq_getElem?_getD, List.getElem?_eq_getElem]; rfl
 rw [← e, hg]
 split
 ·rw [List.getD_eq_getElem?_getD, List.getElem?_eq_getElem (by omega)]; rfl
 ·rw [List.getD_eq_getElem?_getD, List.getElem?_eq_getElem h1]
  have : l.length - 1 - i = i := by omega
  simp only [Option.getD_some, this]
end
end Rv
end Go.Proofs.Ytokehopkfnipmaa
set_option linter.unusedVariables false
set_option linter.unusedSimpArgs false
namespace Go.Proofs.Ytokehopkfnipmaa
open Go.RowKit

theorem RvC_sz_api_Cell : Sz Try.prog 70 2 := fun _ => by kernel_rfl
theorem RvC_ag_api_Cell : Ag Try.prog 70 true := fun _ => by kernel_rfl
set_option maxRecDepth 100000 in
set_option maxHeartbeats 400000 in
theorem reverse_C (A : Option Addr) (c Z : Nat) (l : List Cel) (w : World) (HO : Cel.rep.SOwn 70 16 w Z (Rep.blkOf A) A c (l)) (hok : ∀ y ∈ l, y.ok) :
  Calls Try.prog 160 #[.slice A l.length c] w (fun e w' => e = .returned (.tuple #[]) ∧ Cel.rep.SOwn 70 16 w' Z (Rep.blkOf A) A c (l.reverse) ∧ Mod (Rep.blkOf A) w w') := by
 have uO := fun q hq => (HO.lt q hq).2
 have hl63 := HO.has.len_le
 refine calls_W (n := 28) Try.func160 rfl rfl rfl ?_
 refine sq <| rg <| vl (mv rfl) rfl <| vl (ln Try.underlying55 rfl) rfl <| vl (bsu rfl rfl (inI (by omega))) rfl <| vl (as_ rfl) rfl <| vl (as_ rfl) rfl <| nl <| nT <| bk <| ?_
 refine lp (fun mI EI wI => ∃ k : Nat, ∃ J : Int, EI = [(0, .slice A l.length c), (2, .int .i64 (k : Int)), (3, .int .i64 J)] ∧ mI = (l.length - k) ∧ Mod (Rep.blkOf A) w wI ∧ Cel.rep.SOwn 70 16 wI Z (Rep.blkOf A) A c (Rv.rv l k) ∧ (J = (l.length : Int) - 1 - (k : Int)) ∧ (2 * k ≤ l.length)) _ _ ⟨0, ((l.length : Int) - 1), rfl, rfl, (Mod.rf (Rep.blkOf A) w), HO, by omega, by omega⟩ (.cons rfl (.cons (loI rfl (by first | omega | rfl | (simp <;> omega))) (.cons (loI rfl (by first | omega | rfl | (simp <;> omega))) .nil))) ?_
 rintro m_2 E_3 w_1 ⟨k, J, rfl, rfl, z_1, HR, hJ, hk⟩
 have q_4 := z_1.size
 have u_5 := fun q hq => (HR.lt q hq).2
 have hlr : (Rv.rv l k).length = l.length := Rv.rv_len
 have hokr : ∀ y ∈ Rv.rv l k, y.ok := fun y hy => hok y ((Rv.rv_perm k (by omega)).subset hy)
 refine sq <| sq <| rg <| vl (mv rfl) rfl <| vl (mv rfl) rfl <| vl (blt rfl rfl) rfl <| nl <| nT <| ?_
 refine clt rfl (fun h_6 => ?_) (fun h_6 => ?_)
 ·refine sk <| nT <| sq <| bk <| ?_
  refine rd [(7, 0), (11, 0), (13, 3), (15, 3)] [0, 1, 2, 3, 4, 5, 6, 7, 8, 9, 10, 11, 12, 13, 14, 15] (by kernel_rfl) (by kernel_rfl) ?_
  refine fw rfl rfl (fun _ => mv rfl) rfl <| fw rfl rfl (fun _ => mv rfl) rfl <| fw rfl rfl (fun _ => mv rfl) rfl <| fw rfl rfl (fun _ => mv rfl) rfl <| fw rfl rfl (fun _ => mv rfl) rfl <| fw rfl rfl (fun _ => mv rfl) rfl <| fw rfl rfl (fun _ => iA J.toNat Try.underlying55 RvC_sz_api_Cell rfl rfl (HR.has.adr (Nat.zero_lt_of_lt (show J.toNat < _ from (by first | omega | (rw [List.length_set]; omega))))) (by omega) (by first | omega | (rw [List.length_set]; omega))) rfl <| fq rfl rfl (fun _ x => ld rfl (Rep.SHas.elt hcC ((HR.later x).has.adh (Nat.zero_lt_of_lt (show J.toNat < _ from (by first | omega | (rw [List.length_set]; omega))))) (get_d (l := Rv.rv l k) (u := default) (by first | omega | (rw [List.length_set]; omega))) RvC_ag_api_Cell RvC_sz_api_Cell)) rfl <| fw rfl rfl (fun _ => mv rfl) rfl <| fw rfl rfl (fun _ => mv rfl) rfl <| fw rfl rfl (fun _ => iA k Try.underlying55 RvC_sz_api_Cell rfl rfl (HR.has.adr (Nat.zero_lt_of_lt (show k < _ from (by first | omega | (rw [List.length_set]; omega))))) rfl (by first | omega | (rw [List.length_set]; omega))) rfl <| fq rfl rfl (fun _ x => ld rfl (Rep.SHas.elt hcC ((HR.later x).has.adh (Nat.zero_lt_of_lt (show k < _ from (by first | omega | (rw [List.length_set]; omega))))) (get_d (l := Rv.rv l k) (u := default) (by first | omega | (rw [List.length_set]; omega))) RvC_ag_api_Cell RvC_sz_api_Cell)) rfl <| fw rfl rfl (fun _ => iA k Try.underlying55 RvC_sz_api_Cell rfl rfl (HR.has.adr (Nat.zero_lt_of_lt (show k < _ from (by first | omega | (rw [List.length_set]; omega))))) rfl (by first | omega | (rw [List.length_set]; omega))) rfl <| fb rfl rfl rfl fun w_7 x_8 Q hK => soE (q' := (Rv.rv l k).getD J.toNat default) (i := k) (es := [.int .i64 (((Rv.rv l k).getD J.toNat default).x), .int .i64 (((Rv.rv l k).getD J.toNat default).y)]) (HR.later x_8) Rep.flat_bare (by first | omega | (rw [List.length_set]; omega)) rfl rfl rfl rfl (fun _ => ⟨rfl, (hokr _ (mem_dd (by omega)))⟩) RvC_sz_api_Cell fun w_9 m_10 O_11 => hK _ _ ?_
  have q_12 := x_8.size
  have z_7 := z_1.trans (Mod.of_ext x_8)
  have q_13 := m_10.size
  have z_9 := z_7.md m_10 (fun q hq => .inl hq)
  have q_14 := m_10.size
  refine fw rfl rfl (fun _ => iA J.toNat Try.underlying55 RvC_sz_api_Cell rfl rfl (O_11.has.adr (Nat.zero_lt_of_lt (show J.toNat < _ from (by first | omega | (rw [List.length_set]; omega))))) (by omega) (by first | omega | (rw [List.length_set]; omega))) rfl <| fb rfl rfl rfl fun w_15 x_16 Q hK => soE (q' := (Rv.rv l k).getD k default) (i := J.toNat) (es := [.int .i64 (((Rv.rv l k).getD k default).x), .int .i64 (((Rv.rv l k).getD k default).y)]) (O_11.later x_16) Rep.flat_bare (by first | omega | (rw [List.length_set]; omega)) rfl rfl rfl rfl (fun _ => ⟨rfl, (hokr _ (mem_dd (by omega)))⟩) RvC_sz_api_Cell fun w_17 m_18 O_19 => hK _ _ ?_
  have q_20 := x_16.size
  have z_15 := z_9.trans (Mod.of_ext x_16)
  have q_21 := m_18.size
  have z_17 := z_15.md m_18 (fun q hq => .inl hq)
  have q_22 := m_18.size
  refine fn fun w_23 x_24 => ?_
  have q_25 := x_24.size
  have z_23 := z_17.trans (Mod.of_ext x_24)
  refine nB <| nT <| rg <| vl (mv rfl) rfl <| vl (bad rfl rfl (inI (by omega))) rfl <| vl (mv rfl) rfl <| vl (bsu rfl rfl (inI (by omega))) rfl <| vl (as_ rfl) rfl <| vl (as_ rfl) rfl <| nl <| ?_
  have O_19 := O_19.later x_24
  exact nI _ _ ⟨k + 1, (J - 1), rfl, rfl, z_23, (by have h := O_19; rw [show J.toNat = l.length - 1 - k by omega] at h; exact h), by omega, by omega⟩ (by omega) (.cons rfl (.cons (loI rfl (by first | omega | rfl | (simp <;> omega))) (.cons (loI rfl (by first | omega | rfl | (simp <;> omega))) .nil)))
 ·refine xt <| xT <| xK <| xB <| ne <| tR .nil <| ?_
  exact ⟨rfl, by have h := HR; rw [Rv.rv_end (by omega) (by omega)] at h; exact h, z_1⟩
end Go.Proofs.Ytokehopkfnipmaa
set_option linter.unusedVariables false
set_option linter.unusedSimpArgs false
namespace Go.Proofs.Ytokehopkfnipmaa
open Go.RowKit

theorem Ptf_ag_api_Field : Ag Try.prog 54 true := fun _ => by kernel_rfl
theorem Ptf_sz_api_Field : Sz Try.prog 54 3 := fun _ => by kernel_rfl
theorem Ptf_ag_api_Cell : Ag Try.prog 70 true := fun _ => by kernel_rfl
theorem Ptf_sz_api_Cell : Sz Try.prog 70 2 := fun _ => by kernel_rfl
theorem Ptf_en_path_searched : Enters Try.prog 156 := en Try.func156 (by kernel_rfl) (by kernel_rfl)
theorem Ptf_fd_path_search_2 : Fd Try.prog 229 2 5 := fun _ _ _ => by kernel_rfl
theorem Ptf_ag_S_int : Ag Try.prog 34 false := fun _ => by kernel_rfl
theorem Ptf_en__P_path_search__index : Enters Try.prog 159 := en Try.func159 (by kernel_rfl) (by kernel_rfl)
theorem Ptf_sz_int : Sz Try.prog 3 1 := fun _ => by kernel_rfl
theorem Ptf_ag_int : Ag Try.prog 3 false := fun _ => by kernel_rfl
theorem Ptf_zv_api_Cell : Zv Try.prog 70 (.agg #[.int .i64 0, .int .i64 0]) := fun _ => by kernel_rfl
theorem Ptf_eqs_api_Cell : EqS Try.prog Cel.cells 70 := by
 intro a b w
 obtain ⟨a0, a1⟩ := a
 obtain ⟨b0, b1⟩ := b
 simp only [Cel.cells, Cel.mk.injEq]
 constructor
 ·go_simp
  repeat' split
  all_goals simp_all
 ·go_simp
  repeat' split
  all_goals simp_all
theorem Ptf_eqg_api_Cell : (Try.prog).eqGuardType (Try.prog).depth 70 = false := by kernel_rfl
theorem Ptf_en__P_path_search__cost : Enters Try.prog 157 := en Try.func157 (by kernel_rfl) (by kernel_rfl)
theorem Ptf_en_path_sides : Enters Try.prog 158 := en Try.func158 (by kernel_rfl) (by kernel_rfl)
theorem Ptf_el_S_api_Cell : ElT Try.prog Cel.rep 55 70 16 := ElT.mk_ (z := Cel.zero) (k := 2) Try.underlying55 Cel.info rfl rfl (by decide) Cel.zero_raw
theorem Ptf_en_slices_Reverse_S_api_Cell_api_Cell_ : Enters Try.prog 160 := en Try.func160 (by kernel_rfl) (by kernel_rfl)
section
variable {f : Fld} {a b c nd : Cel} {fr : Cel → Int} {out L : List Cel} {j : Nat}
theorem b4a_ (p q r : Bool) : p = false ∨ (p = true ∧ q = false) ∨ (p = true ∧ q = true ∧ r = false) ∨ (p = true ∧ q = true ∧ r = true) := by cases p <;> cases q <;> cases r <;> simp
theorem prev_none (h : ∀ i, i < 4 → (f.ground ((sidesC c).getD i default) && decide (0 ≤ fr ((sidesC c).getD i default)) && decide (fr ((sidesC c).getD i default) + f.kost c = fr c)) = false) : prevF f fr c = c := by
 have h0 := h 0 (by decide); have h1 := h 1 (by decide); have h2 := h 2 (by decide); have h3 := h 3 (by decide)
 have e : (sidesC c).find? (fun n => f.ground n && decide (0 ≤ fr n) && decide (fr n + f.kost c = fr c)) = none := by
  rw [List.find?_eq_none]
  intro x hx
  obtain ⟨i, hi, rfl⟩ := List.mem_iff_getElem.1 hx
  have := h i hi
  rw [getD_dd hi] at this; rw [this]; decide
 unfold prevF; rw [e]; rfl
theorem prev_at (hj : j < 4) (h : ∀ i, i < j → (f.ground ((sidesC c).getD i default) && decide (0 ≤ fr ((sidesC c).getD i default)) && decide (fr ((sidesC c).getD i default) + f.kost c = fr c)) = false) (hp : (f.ground ((sidesC c).getD j default) && decide (0 ≤ fr ((sidesC c).getD j default)) && decide (fr ((sidesC c).getD j default) + f.kost c = fr c)) = true) : prevF f fr c = (sidesC c).getD j default := by
 have e : (sidesC c).find? (fun n => f.ground n && decide (0 ≤ fr n) && decide (fr n + f.kost c = fr c)) = some ((sidesC c).getD j default) := by
  have hl : (sidesC c).length = 4 := rfl
  rw [List.find?_eq_some_iff_getElem]
  refine ⟨hp, j, by omega, (getD_dd (by omega)).symm, fun i hi => ?_⟩
  have := h i hi
  rw [getD_dd (by omega)] at this; simp only [this]; rfl
 unfold prevF; rw [e]; rfl
theorem way_head (f : Fld) (fr : Cel → Int) (a : Cel) (n : Nat) (c : Cel) : [c] ++ (backF f fr a n c).tail = backF f fr a n c := by
 cases n with
 | zero => rfl
 | succ n => unfold backF; split <;> rfl
theorem way_app (h : out ++ (wayB f fr a c).tail = L) (h2 : wayB f fr a c = c :: wayB f fr a nd) : (out ++ [nd]) ++ (wayB f fr a nd).tail = L := by
 rw [h2, List.tail_cons] at h
 rw [List.append_assoc, show [nd] ++ (wayB f fr a nd).tail = wayB f fr a nd from way_head _ _ _ _ _]; exact h
theorem way_len (h : Frs f a fr) : ∀ {c : Cel}, 0 ≤ fr c → ((wayB f fr a c).length : Int) ≤ fr c + 1 := by
 have key : ∀ n : Nat, ∀ c, 0 ≤ fr c → (fr c).toNat = n → ((wayB f fr a c).length : Int) ≤ fr c + 1 := by
  intro n
  induction n using Nat.strongRecOn with
  | ind n ih =>
   intro c hc hn
   by_cases hne : c = a
   ·subst hne; rw [wayB_self h, h.zero]; simp
   ·obtain ⟨p1, p2, p3, p4⟩ := h.prev hc hne
    have hk := f.kost_bd (c := c)
    have := ih (fr (prevF f fr c)).toNat (by omega) _ p3 rfl
    rw [wayB_step h hc hne, List.length_cons]; omega
 exact fun {c} hc => key _ c hc rfl
end
set_option maxRecDepth 100000 in
set_option maxHeartbeats 400000 in
theorem pfind_no (f : Fld) (a b : Cel) (P : Option Addr) (pc : Nat) (w : World) (hP : repI.SHas 8 w P pc f.places) (he : findE f a b ≠ 0) :
  Calls Try.prog 136 #[.agg #[.int .i64 f.wide, .int .i64 f.high, .slice P f.places.length pc], .agg #[.int .i64 a.x, .int .i64 a.y], .agg #[.int .i64 b.x, .int .i64 b.y]] w (fun e w' => e = .returned (.tuple #[.slice none 0 0, .int .i64 0, .int .i64 (findE f a b)]) ∧ Ext w w') := by
 have kE : (findE f a b != 0) = true := by simpa using he
 refine calls_W (n := 107) Try.func136 rfl rfl rfl ?_
 refine sq <| rg <| bx rfl rfl rfl rfl fun w_1 b_2 x_3 l_4 B_5 => ?_
 have q_6 := x_3.size
 have z_1 := Ext.tr (Ext.rf w) x_3
 have q_7 := B_5.lt
 refine bx rfl rfl rfl rfl fun w_8 b_9 x_10 l_11 B_12 => ?_
 have q_13 := x_10.size
 have z_8 := Ext.tr z_1 x_10
 have q_14 := B_12.lt
 refine bx rfl rfl rfl rfl fun w_15 b_16 x_17 l_18 B_19 => ?_
 have q_20 := x_17.size
 have z_15 := Ext.tr z_8 x_17
 have q_21 := B_19.lt
 refine vl (as_ rfl) rfl <| vl (as_ rfl) rfl <| vl (as_ rfl) rfl <| nl <| nT <| sq <| rg <| ?_
 have B_5 := B_5.later (Ext.tr x_10 x_17)
 refine vl (ld rfl (B_5.all Ptf_ag_api_Field Ptf_sz_api_Field)) rfl <| ?_
 have B_12 := B_12.later x_17
 refine vl (ld rfl (B_12.all Ptf_ag_api_Cell Ptf_sz_api_Cell)) rfl <| vl (ld rfl (B_19.all Ptf_ag_api_Cell Ptf_sz_api_Cell)) rfl <| ca Ptf_en_path_searched rfl rfl ((psearched_no f a b P pc _ (hP.keep z_15) he).mono ?_)
 rintro e w_22 ⟨rfl, x_23⟩
 refine ⟨_, rfl, ?_⟩
 have q_24 := x_23.size
 have z_22 := Ext.tr z_15 x_23
 refine vl (mv rfl) rfl <| vl (ex rfl rfl) rfl <| vl (ex rfl rfl) rfl <| vl (as_ rfl) rfl <| vl (as_ rfl) rfl <| nl <| nT <| sq <| sq <| rg <| vl (mv rfl) rfl <| vl (bne rfl rfl) rfl <| nl <| nT <| cT (evb rfl kE) <| sq <| rg <| vl (mv rfl) rfl <| vl (as_ rfl) rfl <| vl (as_ rfl) rfl <| vl (as_ rfl) rfl <| nl <| nT <| rt <| ?_
 refine tT <| tR (.tmp rfl (.tmp rfl (.tmp rfl .nil))) <| ?_
 exact ⟨rfl, z_22⟩
set_option maxRecDepth 100000 in
set_option maxHeartbeats 2000000 in
theorem pfind_ok (f : Fld) (a b : Cel) (P : Option Addr) (pc : Nat) (w : World) (hP : repI.SHas 8 w P pc f.places) (hf : f.chk = 0) (ga : f.ground a = true) (gb : f.ground b = true) (hfr : 0 ≤ frF f a b b) :
  Calls Try.prog 136 #[.agg #[.int .i64 f.wide, .int .i64 f.high, .slice P f.places.length pc], .agg #[.int .i64 a.x, .int .i64 a.y], .agg #[.int .i64 b.x, .int .i64 b.y]] w (fun e w' => ∃ A c, e = .returned (.tuple #[.slice A (wayB f (frF f a b) a b).reverse.length c, .int .i64 (frF f a b b), .int .i64 0]) ∧ Cel.rep.SOwn 70 16 w' w.heap.size (Rep.blkOf A) A c (wayB f (frF f a b) a b).reverse ∧ Ext w w') := by
 obtain ⟨g1, g2, g3, g4, g5, g6⟩ := Fld.good hf
 have hl16 := Fld.len_le hf
 have hib := Fld.ground_in gb
 obtain ⟨_, _, b1, b2, b3, b4⟩ := Fld.idx hf hib
 refine calls_W (n := 107) Try.func136 rfl rfl rfl ?_
 refine sq <| rg <| bx rfl rfl rfl rfl fun w_1 b_2 x_3 l_4 B_5 => ?_
 have q_6 := x_3.size
 have z_1 := Ext.tr (Ext.rf w) x_3
 have q_7 := B_5.lt
 refine bx rfl rfl rfl rfl fun w_8 b_9 x_10 l_11 B_12 => ?_
 have q_13 := x_10.size
 have z_8 := Ext.tr z_1 x_10
 have q_14 := B_12.lt
 refine bx rfl rfl rfl rfl fun w_15 b_16 x_17 l_18 B_19 => ?_
 have q_20 := x_17.size
 have z_15 := Ext.tr z_8 x_17
 have q_21 := B_19.lt
 refine vl (as_ rfl) rfl <| vl (as_ rfl) rfl <| vl (as_ rfl) rfl <| nl <| nT <| sq <| rg <| ?_
 have B_5 := B_5.later (Ext.tr x_10 x_17)
 refine vl (ld rfl (B_5.all Ptf_ag_api_Field Ptf_sz_api_Field)) rfl <| ?_
 have B_12 := B_12.later x_17
 refine vl (ld rfl (B_12.all Ptf_ag_api_Cell Ptf_sz_api_Cell)) rfl <| vl (ld rfl (B_19.all Ptf_ag_api_Cell Ptf_sz_api_Cell)) rfl <| ca Ptf_en_path_searched rfl rfl ((psearched_some f a b P pc _ (hP.keep z_15) hf ga gb hfr).mono ?_)
 rintro e w_22 ⟨p, F, A, cf, c, far, l, rfl, hpe, HB, hpb, HF, hdF, x_23⟩
 refine ⟨_, rfl, ?_⟩
 have q_24 := x_23.size
 have z_22 := Ext.tr z_15 x_23
 have qB := HB.lt
 have uHF := fun q hq => (HF.lt q hq).2
 have loHF := fun q hq => (HF.lt q hq).1
 obtain ⟨bl1, bl2, bl3⟩ := fr_lt hf hpe.len hib
 have hbl := fun c => hpe.bdF c
 have hFr := Frs.ofF hpe hfr
 refine vl (mv rfl) rfl <| vl (ex rfl rfl) rfl <| vl (ex rfl rfl) rfl <| vl (as_ rfl) rfl <| vl (as_ rfl) rfl <| nl <| nT <| sq <| sq <| rg <| vl (mv rfl) rfl <| vl (bne rfl rfl) rfl <| nl <| nT <| cF rfl <| sk <| nT <| sq <| rg <| ?_
 have B_19 := B_19.later x_23
 refine vl (ld rfl (B_19.all Ptf_ag_api_Cell Ptf_sz_api_Cell)) rfl <| bs (e := 70) (cs := [.int .i64 b.x, .int .i64 b.y]) rfl (fun _ => by kernel_rfl) rfl fun w_25 b_26 x_27 l_28 B_29 => ?_
 have q_30 := x_27.size
 have z_25 := Ext.tr z_22 x_27
 have q_31 := B_29.lt
 refine vl (as_ rfl) rfl <| nl <| nT <| sq <| sq <| rg <| ?_
 have B_19 := B_19.later x_27
 refine vl (ld rfl (B_19.all Ptf_ag_api_Cell Ptf_sz_api_Cell)) rfl <| al rfl Ptf_zv_api_Cell rfl rfl fun w_32 b_33 x_34 l_35 B_36 => ?_
 have q_37 := x_34.size
 have z_32 := Ext.tr z_25 x_34
 have q_38 := B_36.lt
 refine st (new := [.int .i64 b.x, .int .i64 b.y]) rfl rfl B_36 rfl Ptf_sz_api_Cell rfl rfl rfl fun w_39 m_40 B_36 => ?_
 have q_42 := m_40.size
 have z_39 := Ext.mod z_32 m_40 (by simp only [List.mem_singleton, forall_eq]; omega)
 have q_41 := m_40.size
 refine nl <| nT <| bk <| ?_
 have B_29 := B_29.later x_34
 have B_29 := B_29.mod m_40 (by simp only [List.mem_singleton]; omega)
 have OL0 := Blk.ownN (R := Cel.rep) (by_ := 16) (B := w.heap.size) (k := [b]) B_29 [b.cells] rfl ⟨⟨rfl, okI_iff.2 (by omega), okI_iff.2 (by omega)⟩, trivial⟩ (by simp) (by simp) (by decide) (by omega)
 have eL0 : ∀ q ∈ Rep.blkOf (some ⟨b_26, 0, none⟩), q = b_26 := fun q hq => List.mem_singleton.1 hq
 have B_12 := B_12.later (Ext.tr x_23 (Ext.tr x_27 x_34))
 have B_12 := B_12.mod m_40 (by simp only [List.mem_singleton]; omega)
 have B_19 := B_19.later x_34
 have B_19 := B_19.mod m_40 (by simp only [List.mem_singleton]; omega)
 have HB := HB.later (Ext.tr x_27 x_34)
 have HB := HB.mod m_40 (by simp only [List.mem_singleton]; omega)
 have HF := HF.later (Ext.tr x_27 x_34)
 have HF := HF.mod m_40 (fun q hq h => by have hb := List.mem_singleton.1 h; exfalso; (have := uHF q hq; omega))
 refine lp (fun mI EI wI => ∃ c1 : Cel, ∃ bc : Nat, ∃ out : List Cel, ∃ AL : Option Addr, ∃ cL : Nat, EI = [(4, .pointer (some ⟨b_9, 0, none⟩)), (5, .pointer (some ⟨b_16, 0, none⟩)), (6, .slice none 0 0), (7, .int .i64 0), (8, .int .i64 0), (9, .pointer (some ⟨p, 0, none⟩)), (11, .slice AL out.length cL), (12, .pointer (some ⟨bc, 0, none⟩))] ∧ mI = (frF f a b c1).toNat ∧ Ext w wI ∧ Blk wI b_9 [.int .i64 a.x, .int .i64 a.y] 70 (0, 0) ∧ Blk wI b_16 [.int .i64 b.x, .int .i64 b.y] 70 (0, 0) ∧ Blk wI p [.int .i64 f.wide, .int .i64 f.high, .slice P f.places.length pc, .int .i64 b.x, .int .i64 b.y, .slice F far.length cf, .slice A ((l : List Nod).length) c] 229 (0, 0) ∧ repI.SOwn 3 8 wI w_15.heap.size (Rep.blkOf F) F cf far ∧ Blk wI bc [.int .i64 c1.x, .int .i64 c1.y] 70 (0, 0) ∧ Cel.rep.SOwn 70 16 wI w.heap.size (Rep.blkOf AL) AL cL out ∧ (b_2 < bc) ∧ (b_9 < bc) ∧ (b_16 < bc) ∧ (p < bc) ∧ (∀ q ∈ Rep.blkOf F, q < bc) ∧ (0 ≤ frF f a b c1) ∧ (out ++ (wayB f (frF f a b) a c1).tail = wayB f (frF f a b) a b) ∧ (w.heap.size ≤ bc) ∧ (∀ q ∈ Rep.blkOf AL, q = b_9 → False) ∧ (∀ q ∈ Rep.blkOf AL, q = b_16 → False) ∧ (∀ q ∈ Rep.blkOf AL, q = p → False) ∧ (∀ q ∈ Rep.blkOf AL, q = bc → False) ∧ (∀ q ∈ Rep.blkOf AL, q ∈ Rep.blkOf F → False)) _ _ ⟨b, b_33, [b], some ⟨b_26, 0, none⟩, 1, rfl, rfl, z_39, B_12, B_19, HB, HF, B_36, OL0, (by omega), (by omega), (by omega), (by omega), (fun q hq => by have := uHF q hq; omega), hfr, (by unfold wayB; exact way_head _ _ _ _ _), (by omega), (fun q hq hb => by (have := eL0 q hq; omega)), (fun q hq hb => by (have := eL0 q hq; omega)), (fun q hq hb => by (have := eL0 q hq; omega)), (fun q hq hb => by (have := eL0 q hq; omega)), (fun q hq hb => by (have := eL0 q hq; (have := uHF q hb; omega)))⟩ (.cons rfl (.cons rfl (.cons rfl (.cons rfl (.cons rfl (.cons rfl (.cons rfl (.cons rfl .nil)))))))) ?_
 rintro m_49 E_50 w_48 ⟨c1, bc, out, AL, cL, rfl, rfl, z_48, B_12, B_19, HB, HF, HC1, OL1, hx_b_2, hx_b_9, hx_b_16, hx_p, hbF, hc0, hw1, hbw, d_43, d_44, d_45, d_46, d_47⟩
 have q_51 := z_48.size
 have q_52 := B_12.lt
 have q_53 := B_19.lt
 have q_54 := HB.lt
 have u_55 := fun q hq => (HF.lt q hq).2
 have q_56 := HC1.lt
 have u_57 := fun q hq => (OL1.lt q hq).2
 have hbFd : ∀ q ∈ Rep.blkOf F, q = bc → False := fun q hq hb => by have := hbF q hq; omega
 have hci := Fld.ground_in (hFr.gr c1 hc0)
 have hgc := hFr.gr c1 hc0
 obtain ⟨_, _, c1a, c1b, c1c, c1d⟩ := Fld.idx hf hci
 have hkc := f.kost_bd (c := c1)
 have hkk := pcK_ground hf hgc
 have hbc1 := hbl c1
 have hlen1 : out.length ≤ 4801 := by have h1 := congrArg List.length hw1; rw [List.length_append] at h1; have h2 := way_len hFr hfr; have h3 := hbl b; omega
 refine sq <| sq <| rg <| vl (ld rfl (HC1.all Ptf_ag_api_Cell Ptf_sz_api_Cell)) rfl <| vl (ld rfl (B_12.all Ptf_ag_api_Cell Ptf_sz_api_Cell)) rfl <| vl (bnS Ptf_eqs_api_Cell Ptf_eqg_api_Cell (p := c1) (q := a) rfl rfl) rfl <| nl <| nT <| ?_
 refine cb rfl (fun h_58 => ?_) (fun h_58 => ?_)
 ·have hca : c1 ≠ a := by simpa using h_58
  obtain ⟨p1, p2, p3, p4⟩ := hFr.prev hc0 hca
  have hpw := wayB_step hFr hc0 hca
  refine sk <| nT <| sq <| bk <| sq <| rg <| vl (mv rfl) rfl <| vl (ld rfl (HC1.all Ptf_ag_api_Cell Ptf_sz_api_Cell)) rfl <| ca Ptf_en__P_path_search__cost rfl rfl ((pcost_any w f P F A pc cf c p far l b c1 _ z_48 hf hP HB).mono ?_)
  rintro e w_59 ⟨rfl, x_60⟩
  refine ⟨_, rfl, ?_⟩
  have q_61 := x_60.size
  have z_59 := Ext.tr z_48 x_60
  refine vl (mv rfl) rfl <| vl (ex rfl rfl) rfl <| vl (ex rfl rfl) rfl <| vl (as_ rfl) rfl <| vl (as_ rfl) rfl <| nl <| nT <| sq <| sq <| rg <| ?_
  have HC1 := HC1.later x_60
  refine vl (ld rfl (HC1.all Ptf_ag_api_Cell Ptf_sz_api_Cell)) rfl <| ca Ptf_en_path_sides rfl rfl ((psides_any c1 _ (by first | omega | (dsimp only; omega))).mono ?_)
  rintro e w_62 ⟨rfl, x_63⟩
  refine ⟨_, rfl, ?_⟩
  have q_64 := x_63.size
  have z_62 := Ext.tr z_59 x_63
  refine vl (mv rfl) rfl <| nl <| nT <| bk <| ?_
  have B_12 := B_12.later (Ext.tr x_60 x_63)
  have B_19 := B_19.later (Ext.tr x_60 x_63)
  have HB := HB.later (Ext.tr x_60 x_63)
  have HF := HF.later (Ext.tr x_60 x_63)
  have HC1 := HC1.later x_63
  have OL1 := OL1.later (Ext.tr x_60 x_63)
  refine lp (fun mI EI wI => ∃ j : Nat, EI = [(4, .pointer (some ⟨b_9, 0, none⟩)), (5, .pointer (some ⟨b_16, 0, none⟩)), (6, .slice none 0 0), (7, .int .i64 0), (8, .int .i64 0), (9, .pointer (some ⟨p, 0, none⟩)), (11, .slice AL out.length cL), (12, .pointer (some ⟨bc, 0, none⟩)), (13, .int .i64 (pcK f c1)), (32, .agg #[.int .i64 c1.x, .int .i64 c1.y]), (33, .agg #[.int .i64 a.x, .int .i64 a.y]), (34, .bool (!decide (c1 = a))), (35, .tuple #[.int .i64 (pcK f c1), .bool (f.ground c1)]), (36, .pointer (some ⟨p, 0, none⟩)), (37, .agg #[.int .i64 c1.x, .int .i64 c1.y]), (38, .tuple #[.int .i64 (pcK f c1), .bool (f.ground c1)]), (39, .int .i64 (pcK f c1)), (40, .bool (f.ground c1)), (41, .agg #[.int .i64 c1.x, .int .i64 c1.y]), (42, .agg #[.int .i64 c1.x, .int .i64 (c1.y - 1), .int .i64 (c1.x - 1), .int .i64 c1.y, .int .i64 (c1.x + 1), .int .i64 c1.y, .int .i64 c1.x, .int .i64 (c1.y + 1)]), (43, .int .i64 (j : Int))] ∧ mI = 4 - j ∧ Ext w wI ∧ Blk wI b_9 [.int .i64 a.x, .int .i64 a.y] 70 (0, 0) ∧ Blk wI b_16 [.int .i64 b.x, .int .i64 b.y] 70 (0, 0) ∧ Blk wI p [.int .i64 f.wide, .int .i64 f.high, .slice P f.places.length pc, .int .i64 b.x, .int .i64 b.y, .slice F far.length cf, .slice A ((l : List Nod).length) c] 229 (0, 0) ∧ repI.SOwn 3 8 wI w_15.heap.size (Rep.blkOf F) F cf far ∧ Blk wI bc [.int .i64 c1.x, .int .i64 c1.y] 70 (0, 0) ∧ Cel.rep.SOwn 70 16 wI w.heap.size (Rep.blkOf AL) AL cL out ∧ (j ≤ 4) ∧ (∀ i, i < j → (f.ground ((sidesC c1).getD i default) && decide (0 ≤ frF f a b ((sidesC c1).getD i default)) && decide (frF f a b ((sidesC c1).getD i default) + f.kost c1 = frF f a b c1)) = false)) _ _ ⟨0, rfl, rfl, z_62, B_12, B_19, HB, HF, HC1, OL1, by omega, fun i hi => by omega⟩ (.cons rfl (.cons rfl (.cons rfl (.cons rfl (.cons rfl (.cons rfl (.cons rfl (.cons rfl (.cons rfl (.cons rfl (.cons rfl (.cons rfl (.cons rfl (.cons rfl (.cons rfl (.cons rfl (.cons rfl (.cons rfl (.cons rfl (.cons rfl (.cons (loI rfl (by first | omega | rfl | (simp <;> omega))) .nil))))))))))))))))))))) ?_
  rintro m_66 E_67 w_65 ⟨j, rfl, rfl, z_65, B_12, B_19, HB, HF, HC1, OL1, hj, hno⟩
  have q_68 := z_65.size
  have q_69 := B_12.lt
  have q_70 := B_19.lt
  have q_71 := HB.lt
  have u_72 := fun q hq => (HF.lt q hq).2
  have q_73 := HC1.lt
  have u_74 := fun q hq => (OL1.lt q hq).2
  refine sq <| rg <| vl (blt rfl rfl) rfl <| nl <| nT <| sq <| ?_
  refine clt rfl (fun h_75 => ?_) (fun h_75 => ?_)
  ·refine sk <| nT <| sq <| bk <| sq <| rg <| ?_
   obtain ⟨nd, hnd⟩ : ∃ nd, (sidesC c1).getD j default = nd := ⟨_, rfl⟩
   have hnb := sides_bd (c := c1) (j := j) (by omega)
   rw [hnd] at hnb
   refine vl (ixk rfl rfl (psides_ix c1 j (by omega) hnd _)) rfl <| al rfl Ptf_zv_api_Cell rfl rfl fun w_76 b_77 x_78 l_79 B_80 => ?_
   have q_81 := x_78.size
   have z_76 := Ext.tr z_65 x_78
   have q_82 := B_80.lt
   refine st (new := [.int .i64 nd.x, .int .i64 nd.y]) rfl rfl B_80 rfl Ptf_sz_api_Cell rfl rfl rfl fun w_83 m_84 B_80 => ?_
   have q_86 := m_84.size
   have z_83 := Ext.mod z_76 m_84 (by simp only [List.mem_singleton, forall_eq]; omega)
   have q_85 := m_84.size
   refine nl <| nT <| sq <| rg <| vl (mv rfl) rfl <| vl (ld rfl (B_80.all Ptf_ag_api_Cell Ptf_sz_api_Cell)) rfl <| ?_
   have HB := HB.later x_78
   have HB := HB.mod m_84 (by simp only [List.mem_singleton]; omega)
   refine ca Ptf_en__P_path_search__cost rfl rfl ((pcost_any w f P F A pc cf c p far l b nd _ z_83 hf hP HB).mono ?_)
   rintro e w_87 ⟨rfl, x_88⟩
   refine ⟨_, rfl, ?_⟩
   have q_89 := x_88.size
   have z_87 := Ext.tr z_83 x_88
   refine vl (mv rfl) rfl <| vl (ex rfl rfl) rfl <| vl (ex rfl rfl) rfl <| vl (as_ rfl) rfl <| vl (as_ rfl) rfl <| nl <| nT <| sq <| ?_
   rcases b4a_ (f.ground nd) (decide (0 ≤ frF f a b nd)) (((frF f a b nd) + (pcK f c1)) == (frF f a b c1)) with c0 | ⟨c0, k1_⟩ | ⟨c0, k1_, k2_⟩ | ⟨c0, k1_, k2_⟩
   ·have hn1 : (f.ground nd && decide (0 ≤ frF f a b nd) && decide (frF f a b nd + f.kost c1 = frF f a b c1)) = false := by rw [c0]; rfl
    refine rd [(5, 0), (7, 0), (8, 0), (10, 0), (17, 0), (19, 0), (20, 0), (22, 0), (28, 0), (30, 0), (31, 0), (33, 0)] [0, 1, 2, 3, 4, 5, 6, 7, 8, 9, 10, 11, 12, 13, 14, 15, 16, 17, 18, 19, 20, 21, 22, 23, 24, 25, 26, 27, 28, 29, 30, 31, 32, 33, 34, 35] (by kernel_rfl) (by kernel_rfl) ?_
    refine fw rfl rfl (fun _ => mv (evb rfl c0)) rfl <| fw rfl rfl (fun _ => mv rfl) rfl <| fW (v := undef) rfl rfl rfl rfl rfl rfl (fun hc => nomatch hc) rfl <| fW (v := undef) rfl rfl rfl rfl rfl rfl (fun hc => nomatch hc) rfl <| fW (v := undef) rfl rfl rfl rfl rfl rfl (fun hc => nomatch hc) rfl <| fQ (v := undef) rfl rfl rfl rfl rfl rfl (fun hc => nomatch hc) rfl <| fW (v := undef) rfl rfl rfl rfl rfl rfl (fun hc => nomatch hc) rfl <| fQ (v := undef) rfl rfl rfl rfl rfl rfl (fun hc => nomatch hc) rfl <| fC (v := undef) (args := []) rfl rfl rfl rfl rfl rfl Ptf_en__P_path_search__index (fun hc => nomatch hc) (fun hc => nomatch hc) rfl <| fW (v := undef) rfl rfl rfl rfl rfl rfl (fun hc => nomatch hc) rfl <| fQ (v := undef) rfl rfl rfl rfl rfl rfl (fun hc => nomatch hc) rfl <| fW (v := undef) rfl rfl rfl rfl rfl rfl (fun hc => nomatch hc) rfl <| fw rfl rfl (fun _ => pkF rfl rfl) rfl <| fw rfl rfl (fun _ => mv rfl) rfl <| fW (v := undef) rfl rfl rfl rfl rfl rfl (fun hc => nomatch hc) rfl <| fW (v := undef) rfl rfl rfl rfl rfl rfl (fun hc => nomatch hc) rfl <| fW (v := undef) rfl rfl rfl rfl rfl rfl (fun hc => nomatch hc) rfl <| fQ (v := undef) rfl rfl rfl rfl rfl rfl (fun hc => nomatch hc) rfl <| fW (v := undef) rfl rfl rfl rfl rfl rfl (fun hc => nomatch hc) rfl <| fQ (v := undef) rfl rfl rfl rfl rfl rfl (fun hc => nomatch hc) rfl <| fC (v := undef) (args := []) rfl rfl rfl rfl rfl rfl Ptf_en__P_path_search__index (fun hc => nomatch hc) (fun hc => nomatch hc) rfl <| fW (v := undef) rfl rfl rfl rfl rfl rfl (fun hc => nomatch hc) rfl <| fQ (v := undef) rfl rfl rfl rfl rfl rfl (fun hc => nomatch hc) rfl <| fW (v := undef) rfl rfl rfl rfl rfl rfl (fun hc => nomatch hc) rfl <| ?_
    refine fW (v := undef) rfl rfl rfl rfl rfl rfl (fun hc => nomatch hc) rfl <| fW (v := undef) rfl rfl rfl rfl rfl rfl (fun hc => nomatch hc) rfl <| fW (v := undef) rfl rfl rfl rfl rfl rfl (fun hc => nomatch hc) rfl <| fW (v := undef) rfl rfl rfl rfl rfl rfl (fun hc => nomatch hc) rfl <| fQ (v := undef) rfl rfl rfl rfl rfl rfl (fun hc => nomatch hc) rfl <| fW (v := undef) rfl rfl rfl rfl rfl rfl (fun hc => nomatch hc) rfl <| fQ (v := undef) rfl rfl rfl rfl rfl rfl (fun hc => nomatch hc) rfl <| fC (v := undef) (args := []) rfl rfl rfl rfl rfl rfl Ptf_en__P_path_search__index (fun hc => nomatch hc) (fun hc => nomatch hc) rfl <| fW (v := undef) rfl rfl rfl rfl rfl rfl (fun hc => nomatch hc) rfl <| fQ (v := undef) rfl rfl rfl rfl rfl rfl (fun hc => nomatch hc) rfl <| fW (v := undef) rfl rfl rfl rfl rfl rfl (fun hc => nomatch hc) rfl <| fw rfl rfl (fun _ => pkF rfl rfl) rfl <| fn fun w_90 x_91 => ?_
    have q_92 := x_91.size
    have z_90 := Ext.tr z_87 x_91
    refine nT <| cF rfl <| sk <| nB <| nT <| rg <| vl (bad rfl rfl (inI (by omega))) rfl <| vl (mv rfl) rfl <| nl <| ?_
    have B_12 := B_12.later x_78
    have B_12 := B_12.mod m_84 (by simp only [List.mem_singleton]; omega)
    have B_12 := B_12.later (Ext.tr x_88 x_91)
    have B_19 := B_19.later x_78
    have B_19 := B_19.mod m_84 (by simp only [List.mem_singleton]; omega)
    have B_19 := B_19.later (Ext.tr x_88 x_91)
    have HB := HB.later (Ext.tr x_88 x_91)
    have HF := HF.later x_78
    have HF := HF.mod m_84 (fun q hq h => by have hb := List.mem_singleton.1 h; exfalso; (have := u_72 q hq; have := uHF q hq; have := u_55 q hq; omega))
    have HF := HF.later (Ext.tr x_88 x_91)
    have HC1 := HC1.later x_78
    have HC1 := HC1.mod m_84 (by simp only [List.mem_singleton]; omega)
    have HC1 := HC1.later (Ext.tr x_88 x_91)
    have OL1 := OL1.later x_78
    have OL1 := OL1.mod m_84 (fun q hq h => by have hb := List.mem_singleton.1 h; exfalso; (have := u_74 q hq; have := u_57 q hq; omega))
    have OL1 := OL1.later (Ext.tr x_88 x_91)
    exact nI _ _ ⟨j + 1, rfl, rfl, z_90, B_12, B_19, HB, HF, HC1, OL1, by omega, lt_succ_all hno (by rw [hnd]; exact hn1)⟩ (by omega) (.cons rfl (.cons rfl (.cons rfl (.cons rfl (.cons rfl (.cons rfl (.cons rfl (.cons rfl (.cons rfl (.cons rfl (.cons rfl (.cons rfl (.cons rfl (.cons rfl (.cons rfl (.cons rfl (.cons rfl (.cons rfl (.cons rfl (.cons rfl (.cons (loI rfl (by first | omega | rfl | (simp <;> omega))) .nil)))))))))))))))))))))
   ·have hni := Fld.ground_in c0
    obtain ⟨nl1, nl2, nl3⟩ := fr_lt hf hpe.len hni
    have hn1 : (f.ground nd && decide (0 ≤ frF f a b nd) && decide (frF f a b nd + f.kost c1 = frF f a b c1)) = false := by rw [c0, k1_]; rfl
    refine rd [(5, 0), (7, 0), (8, 0), (10, 0), (17, 0), (19, 0), (20, 0), (22, 0), (28, 0), (30, 0), (31, 0), (33, 0)] [0, 1, 2, 3, 4, 5, 6, 7, 8, 9, 10, 11, 12, 13, 14, 15, 16, 17, 18, 19, 20, 21, 22, 23, 24, 25, 26, 27, 28, 29, 30, 31, 32, 33, 34, 35] (by kernel_rfl) (by kernel_rfl) ?_
    refine fw rfl rfl (fun _ => mv (evb rfl c0)) rfl <| fw rfl rfl (fun _ => mv rfl) rfl <| fW rfl rfl rfl rfl rfl rfl (fun hc _ => mv rfl) rfl <| fW rfl rfl rfl rfl rfl rfl (fun hc _ => nc rfl) rfl <| fW rfl rfl rfl rfl rfl rfl (fun hc _ => fa Ptf_fd_path_search_2 rfl) rfl <| ?_
    have HB := HB.later x_88
    refine fQ rfl rfl rfl rfl rfl rfl (fun hc _ x => ld rfl ((HB.later x).one Ptf_ag_S_int rfl)) rfl <| fW rfl rfl rfl rfl rfl rfl (fun hc _ => mv rfl) rfl <| ?_
    have B_80 := B_80.later x_88
    refine fQ rfl rfl rfl rfl rfl rfl (fun hc _ x => ld rfl ((B_80.later x).all Ptf_ag_api_Cell Ptf_sz_api_Cell)) rfl <| fC rfl rfl rfl rfl rfl rfl Ptf_en__P_path_search__index (fun hc => rfl) (fun hc _ x => pindex_any w f P F A pc cf c p far l b nd _ (Ext.tr z_87 x) hf hP (HB.later x) (by first | omega | (dsimp only; omega))) rfl <| ?_
    have HF := HF.later x_78
    have HF := HF.mod m_84 (fun q hq h => by have hb := List.mem_singleton.1 h; exfalso; (have := u_72 q hq; have := uHF q hq; have := u_55 q hq; omega))
    have HF := HF.later x_88
    refine fW rfl rfl rfl rfl rfl rfl (fun hc _ => iA ((nd.y * f.wide + nd.x).toNat) Try.underlying34 Ptf_sz_int rfl rfl (HF.has.adr (Nat.zero_lt_of_lt (show (nd.y * f.wide + nd.x).toNat < _ from (by have h_ := (fr_lt hf hpe.len hni).1; omega)))) (by (try simp only [Bool.or_eq_true, Bool.or_eq_false_iff, Bool.and_eq_true, Bool.and_eq_false_iff, decide_eq_true_eq, decide_eq_false_iff_not, beq_iff_eq, bne_iff_ne, beq_eq_false_iff_ne, bne_eq_false_iff_eq, Bool.not_eq_true', Bool.not_eq_false', Bool.not_eq_true, Bool.not_eq_false, Int.not_lt, Int.not_le, Nat.not_lt, Nat.not_le, ne_eq, Classical.not_not] at hc); omega) (by have h_ := (fr_lt hf hpe.len hni).1; omega)) rfl <| fQ rfl rfl rfl rfl rfl rfl (fun hc _ x => ld rfl (Rep.SHas.one' hcI ((HF.later x).has.adh (Nat.zero_lt_of_lt (show (nd.y * f.wide + nd.x).toNat < _ from (by have h_ := (fr_lt hf hpe.len hni).1; omega)))) (hpe.get hf hni) rfl Ptf_ag_int)) rfl <| fW rfl rfl rfl rfl rfl rfl (fun hc _ => bge rfl rfl) rfl <| fw rfl rfl (fun _ => pkT rfl (evb rfl k1_)) rfl <| fw rfl rfl (fun _ => mv rfl) rfl <| fW (v := undef) rfl rfl rfl rfl rfl rfl (fun hc => nomatch hc) rfl <| fW (v := undef) rfl rfl rfl rfl rfl rfl (fun hc => nomatch hc) rfl <| fW (v := undef) rfl rfl rfl rfl rfl rfl (fun hc => nomatch hc) rfl <| fQ (v := undef) rfl rfl rfl rfl rfl rfl (fun hc => nomatch hc) rfl <| fW (v := undef) rfl rfl rfl rfl rfl rfl (fun hc => nomatch hc) rfl <| fQ (v := undef) rfl rfl rfl rfl rfl rfl (fun hc => nomatch hc) rfl <| fC (v := undef) (args := []) rfl rfl rfl rfl rfl rfl Ptf_en__P_path_search__index (fun hc => nomatch hc) (fun hc => nomatch hc) rfl <| fW (v := undef) rfl rfl rfl rfl rfl rfl (fun hc => nomatch hc) rfl <| fQ (v := undef) rfl rfl rfl rfl rfl rfl (fun hc => nomatch hc) rfl <| fW (v := undef) rfl rfl rfl rfl rfl rfl (fun hc => nomatch hc) rfl <| fW (v := undef) rfl rfl rfl rfl rfl rfl (fun hc => nomatch hc) rfl <| fW (v := undef) rfl rfl rfl rfl rfl rfl (fun hc => nomatch hc) rfl <| fW (v := undef) rfl rfl rfl rfl rfl rfl (fun hc => nomatch hc) rfl <| fW (v := undef) rfl rfl rfl rfl rfl rfl (fun hc => nomatch hc) rfl <| fQ (v := undef) rfl rfl rfl rfl rfl rfl (fun hc => nomatch hc) rfl <| fW (v := undef) rfl rfl rfl rfl rfl rfl (fun hc => nomatch hc) rfl <| fQ (v := undef) rfl rfl rfl rfl rfl rfl (fun hc => nomatch hc) rfl <| fC (v := undef) (args := []) rfl rfl rfl rfl rfl rfl Ptf_en__P_path_search__index (fun hc => nomatch hc) (fun hc => nomatch hc) rfl <| fW (v := undef) rfl rfl rfl rfl rfl rfl (fun hc => nomatch hc) rfl <| ?_
    refine fQ (v := undef) rfl rfl rfl rfl rfl rfl (fun hc => nomatch hc) rfl <| fW (v := undef) rfl rfl rfl rfl rfl rfl (fun hc => nomatch hc) rfl <| fw rfl rfl (fun _ => pkF rfl rfl) rfl <| fn fun w_93 x_94 => ?_
    have q_95 := x_94.size
    have z_93 := Ext.tr z_87 x_94
    refine nT <| cF rfl <| sk <| nB <| nT <| rg <| vl (bad rfl rfl (inI (by omega))) rfl <| vl (mv rfl) rfl <| nl <| ?_
    have B_12 := B_12.later x_78
    have B_12 := B_12.mod m_84 (by simp only [List.mem_singleton]; omega)
    have B_12 := B_12.later (Ext.tr x_88 x_94)
    have B_19 := B_19.later x_78
    have B_19 := B_19.mod m_84 (by simp only [List.mem_singleton]; omega)
    have B_19 := B_19.later (Ext.tr x_88 x_94)
    have HB := HB.later x_94
    have HF := HF.later x_94
    have HC1 := HC1.later x_78
    have HC1 := HC1.mod m_84 (by simp only [List.mem_singleton]; omega)
    have HC1 := HC1.later (Ext.tr x_88 x_94)
    have OL1 := OL1.later x_78
    have OL1 := OL1.mod m_84 (fun q hq h => by have hb := List.mem_singleton.1 h; exfalso; (have := u_74 q hq; have := u_57 q hq; omega))
    have OL1 := OL1.later (Ext.tr x_88 x_94)
    exact nI _ _ ⟨j + 1, rfl, rfl, z_93, B_12, B_19, HB, HF, HC1, OL1, by omega, lt_succ_all hno (by rw [hnd]; exact hn1)⟩ (by omega) (.cons rfl (.cons rfl (.cons rfl (.cons rfl (.cons rfl (.cons rfl (.cons rfl (.cons rfl (.cons rfl (.cons rfl (.cons rfl (.cons rfl (.cons rfl (.cons rfl (.cons rfl (.cons rfl (.cons rfl (.cons rfl (.cons rfl (.cons rfl (.cons (loI rfl (by first | omega | rfl | (simp <;> omega))) .nil)))))))))))))))))))))
   ·have hni := Fld.ground_in c0
    obtain ⟨nl1, nl2, nl3⟩ := fr_lt hf hpe.len hni
    obtain ⟨ml1, ml2, ml3⟩ := fr_lt hf hpe.len hci
    have hbn1 := hbl nd
    have hnn := of_decide_eq_true k1_
    have hn1 : (f.ground nd && decide (0 ≤ frF f a b nd) && decide (frF f a b nd + f.kost c1 = frF f a b c1)) = false := by rw [hkk, beq_eq_false_iff_ne] at k2_; rw [c0, k1_, decide_eq_false k2_]; rfl
    refine rd [(5, 0), (7, 0), (8, 0), (10, 0), (17, 0), (19, 0), (20, 0), (22, 0), (28, 0), (30, 0), (31, 0), (33, 0)] [0, 1, 2, 3, 4, 5, 6, 7, 8, 9, 10, 11, 12, 13, 14, 15, 16, 17, 18, 19, 20, 21, 22, 23, 24, 25, 26, 27, 28, 29, 30, 31, 32, 33, 34, 35] (by kernel_rfl) (by kernel_rfl) ?_
    refine fw rfl rfl (fun _ => mv (evb rfl c0)) rfl <| fw rfl rfl (fun _ => mv rfl) rfl <| fW rfl rfl rfl rfl rfl rfl (fun hc _ => mv rfl) rfl <| fW rfl rfl rfl rfl rfl rfl (fun hc _ => nc rfl) rfl <| fW rfl rfl rfl rfl rfl rfl (fun hc _ => fa Ptf_fd_path_search_2 rfl) rfl <| ?_
    have HB := HB.later x_88
    refine fQ rfl rfl rfl rfl rfl rfl (fun hc _ x => ld rfl ((HB.later x).one Ptf_ag_S_int rfl)) rfl <| fW rfl rfl rfl rfl rfl rfl (fun hc _ => mv rfl) rfl <| ?_
    have B_80 := B_80.later x_88
    refine fQ rfl rfl rfl rfl rfl rfl (fun hc _ x => ld rfl ((B_80.later x).all Ptf_ag_api_Cell Ptf_sz_api_Cell)) rfl <| fC rfl rfl rfl rfl rfl rfl Ptf_en__P_path_search__index (fun hc => rfl) (fun hc _ x => pindex_any w f P F A pc cf c p far l b nd _ (Ext.tr z_87 x) hf hP (HB.later x) (by first | omega | (dsimp only; omega))) rfl <| ?_
    have HF := HF.later x_78
    have HF := HF.mod m_84 (fun q hq h => by have hb := List.mem_singleton.1 h; exfalso; (have := u_72 q hq; have := uHF q hq; have := u_55 q hq; omega))
    have HF := HF.later x_88
    refine fW rfl rfl rfl rfl rfl rfl (fun hc _ => iA ((nd.y * f.wide + nd.x).toNat) Try.underlying34 Ptf_sz_int rfl rfl (HF.has.adr (Nat.zero_lt_of_lt (show (nd.y * f.wide + nd.x).toNat < _ from (by have h_ := (fr_lt hf hpe.len hni).1; omega)))) (by (try simp only [Bool.or_eq_true, Bool.or_eq_false_iff, Bool.and_eq_true, Bool.and_eq_false_iff, decide_eq_true_eq, decide_eq_false_iff_not, beq_iff_eq, bne_iff_ne, beq_eq_false_iff_ne, bne_eq_false_iff_eq, Bool.not_eq_true', Bool.not_eq_false', Bool.not_eq_true, Bool.not_eq_false, Int.not_lt, Int.not_le, Nat.not_lt, Nat.not_le, ne_eq, Classical.not_not] at hc); omega) (by have h_ := (fr_lt hf hpe.len hni).1; omega)) rfl <| fQ rfl rfl rfl rfl rfl rfl (fun hc _ x => ld rfl (Rep.SHas.one' hcI ((HF.later x).has.adh (Nat.zero_lt_of_lt (show (nd.y * f.wide + nd.x).toNat < _ from (by have h_ := (fr_lt hf hpe.len hni).1; omega)))) (hpe.get hf hni) rfl Ptf_ag_int)) rfl <| fW rfl rfl rfl rfl rfl rfl (fun hc _ => bge rfl rfl) rfl <| fw rfl rfl (fun _ => pkT rfl (evb rfl k1_)) rfl <| fw rfl rfl (fun _ => mv rfl) rfl <| fW rfl rfl rfl rfl rfl rfl (fun hc _ => mv rfl) rfl <| fW rfl rfl rfl rfl rfl rfl (fun hc _ => nc rfl) rfl <| fW rfl rfl rfl rfl rfl rfl (fun hc _ => fa Ptf_fd_path_search_2 rfl) rfl <| fQ rfl rfl rfl rfl rfl rfl (fun hc _ x => ld rfl ((HB.later x).one Ptf_ag_S_int rfl)) rfl <| fW rfl rfl rfl rfl rfl rfl (fun hc _ => mv rfl) rfl <| fQ rfl rfl rfl rfl rfl rfl (fun hc _ x => ld rfl ((B_80.later x).all Ptf_ag_api_Cell Ptf_sz_api_Cell)) rfl <| fC rfl rfl rfl rfl rfl rfl Ptf_en__P_path_search__index (fun hc => rfl) (fun hc _ x => pindex_any w f P F A pc cf c p far l b nd _ (Ext.tr z_87 x) hf hP (HB.later x) (by first | omega | (dsimp only; omega))) rfl <| fW rfl rfl rfl rfl rfl rfl (fun hc _ => iA ((nd.y * f.wide + nd.x).toNat) Try.underlying34 Ptf_sz_int rfl rfl (HF.has.adr (Nat.zero_lt_of_lt (show (nd.y * f.wide + nd.x).toNat < _ from (by have h_ := (fr_lt hf hpe.len hni).1; omega)))) (by (try simp only [Bool.or_eq_true, Bool.or_eq_false_iff, Bool.and_eq_true, Bool.and_eq_false_iff, decide_eq_true_eq, decide_eq_false_iff_not, beq_iff_eq, bne_iff_ne, beq_eq_false_iff_ne, bne_eq_false_iff_eq, Bool.not_eq_true', Bool.not_eq_false', Bool.not_eq_true, Bool.not_eq_false, Int.not_lt, Int.not_le, Nat.not_lt, Nat.not_le, ne_eq, Classical.not_not] at hc); omega) (by have h_ := (fr_lt hf hpe.len hni).1; omega)) rfl <| fQ rfl rfl rfl rfl rfl rfl (fun hc _ x => ld rfl (Rep.SHas.one' hcI ((HF.later x).has.adh (Nat.zero_lt_of_lt (show (nd.y * f.wide + nd.x).toNat < _ from (by have h_ := (fr_lt hf hpe.len hni).1; omega)))) (hpe.get hf hni) rfl Ptf_ag_int)) rfl <| fW rfl rfl rfl rfl rfl rfl (fun hc _ => mv rfl) rfl <| fW rfl rfl rfl rfl rfl rfl (fun hc _ => bad rfl rfl (inI (by (try simp only [Bool.or_eq_true, Bool.or_eq_false_iff, Bool.and_eq_true, Bool.and_eq_false_iff, decide_eq_true_eq, decide_eq_false_iff_not, beq_iff_eq, bne_iff_ne, beq_eq_false_iff_ne, bne_eq_false_iff_eq, Bool.not_eq_true', Bool.not_eq_false', Bool.not_eq_true, Bool.not_eq_false, Int.not_lt, Int.not_le, Nat.not_lt, Nat.not_le, ne_eq, Classical.not_not] at hc); omega))) rfl <| fW rfl rfl rfl rfl rfl rfl (fun hc _ => mv rfl) rfl <| fW rfl rfl rfl rfl rfl rfl (fun hc _ => nc rfl) rfl <| fW rfl rfl rfl rfl rfl rfl (fun hc _ => fa Ptf_fd_path_search_2 rfl) rfl <| fQ rfl rfl rfl rfl rfl rfl (fun hc _ x => ld rfl ((HB.later x).one Ptf_ag_S_int rfl)) rfl <| fW rfl rfl rfl rfl rfl rfl (fun hc _ => mv rfl) rfl <| ?_
    have HC1 := HC1.later x_78
    have HC1 := HC1.mod m_84 (by simp only [List.mem_singleton]; omega)
    have HC1 := HC1.later x_88
    refine fQ rfl rfl rfl rfl rfl rfl (fun hc _ x => ld rfl ((HC1.later x).all Ptf_ag_api_Cell Ptf_sz_api_Cell)) rfl <| fC rfl rfl rfl rfl rfl rfl Ptf_en__P_path_search__index (fun hc => rfl) (fun hc _ x => pindex_any w f P F A pc cf c p far l b c1 _ (Ext.tr z_87 x) hf hP (HB.later x) (by first | omega | (dsimp only; omega))) rfl <| fW rfl rfl rfl rfl rfl rfl (fun hc _ => iA ((c1.y * f.wide + c1.x).toNat) Try.underlying34 Ptf_sz_int rfl rfl (HF.has.adr (Nat.zero_lt_of_lt (show (c1.y * f.wide + c1.x).toNat < _ from (by have h_ := (fr_lt hf hpe.len hci).1; omega)))) (by (try simp only [Bool.or_eq_true, Bool.or_eq_false_iff, Bool.and_eq_true, Bool.and_eq_false_iff, decide_eq_true_eq, decide_eq_false_iff_not, beq_iff_eq, bne_iff_ne, beq_eq_false_iff_ne, bne_eq_false_iff_eq, Bool.not_eq_true', Bool.not_eq_false', Bool.not_eq_true, Bool.not_eq_false, Int.not_lt, Int.not_le, Nat.not_lt, Nat.not_le, ne_eq, Classical.not_not] at hc); omega) (by have h_ := (fr_lt hf hpe.len hci).1; omega)) rfl <| fQ rfl rfl rfl rfl rfl rfl (fun hc _ x => ld rfl (Rep.SHas.one' hcI ((HF.later x).has.adh (Nat.zero_lt_of_lt (show (c1.y * f.wide + c1.x).toNat < _ from (by have h_ := (fr_lt hf hpe.len hci).1; omega)))) (hpe.get hf hci) rfl Ptf_ag_int)) rfl <| fW rfl rfl rfl rfl rfl rfl (fun hc _ => beq rfl rfl) rfl <| fw rfl rfl (fun _ => pkT rfl (evb rfl k2_)) rfl <| fn fun w_96 x_97 => ?_
    have q_98 := x_97.size
    have z_96 := Ext.tr z_87 x_97
    refine nT <| cF rfl <| sk <| nB <| nT <| rg <| vl (bad rfl rfl (inI (by omega))) rfl <| vl (mv rfl) rfl <| nl <| ?_
    have B_12 := B_12.later x_78
    have B_12 := B_12.mod m_84 (by simp only [List.mem_singleton]; omega)
    have B_12 := B_12.later (Ext.tr x_88 x_97)
    have B_19 := B_19.later x_78
    have B_19 := B_19.mod m_84 (by simp only [List.mem_singleton]; omega)
    have B_19 := B_19.later (Ext.tr x_88 x_97)
    have HB := HB.later x_97
    have HF := HF.later x_97
    have HC1 := HC1.later x_97
    have OL1 := OL1.later x_78
    have OL1 := OL1.mod m_84 (fun q hq h => by have hb := List.mem_singleton.1 h; exfalso; (have := u_74 q hq; have := u_57 q hq; omega))
    have OL1 := OL1.later (Ext.tr x_88 x_97)
    exact nI _ _ ⟨j + 1, rfl, rfl, z_96, B_12, B_19, HB, HF, HC1, OL1, by omega, lt_succ_all hno (by rw [hnd]; exact hn1)⟩ (by omega) (.cons rfl (.cons rfl (.cons rfl (.cons rfl (.cons rfl (.cons rfl (.cons rfl (.cons rfl (.cons rfl (.cons rfl (.cons rfl (.cons rfl (.cons rfl (.cons rfl (.cons rfl (.cons rfl (.cons rfl (.cons rfl (.cons rfl (.cons rfl (.cons (loI rfl (by first | omega | rfl | (simp <;> omega))) .nil)))))))))))))))))))))
   ·have hni := Fld.ground_in c0
    obtain ⟨nl1, nl2, nl3⟩ := fr_lt hf hpe.len hni
    obtain ⟨ml1, ml2, ml3⟩ := fr_lt hf hpe.len hci
    have hbn1 := hbl nd
    have hnn := of_decide_eq_true k1_
    have hpv : prevF f (frF f a b) c1 = nd := by rw [hkk, beq_iff_eq] at k2_; rw [← hnd]; exact prev_at (by omega) hno (by rw [hnd, c0, k1_, decide_eq_true k2_]; rfl)
    rw [hpv] at p1 p2 p3 p4 hpw
    obtain ⟨_, _, n1a, n1b, n1c, n1d⟩ := Fld.idx hf hni
    have hw2 := way_app hw1 hpw
    refine rd [(5, 0), (7, 0), (8, 0), (10, 0), (17, 0), (19, 0), (20, 0), (22, 0), (28, 0), (30, 0), (31, 0), (33, 0)] [0, 1, 2, 3, 4, 5, 6, 7, 8, 9, 10, 11, 12, 13, 14, 15, 16, 17, 18, 19, 20, 21, 22, 23, 24, 25, 26, 27, 28, 29, 30, 31, 32, 33, 34, 35] (by kernel_rfl) (by kernel_rfl) ?_
    refine fw rfl rfl (fun _ => mv (evb rfl c0)) rfl <| fw rfl rfl (fun _ => mv rfl) rfl <| fW rfl rfl rfl rfl rfl rfl (fun hc _ => mv rfl) rfl <| fW rfl rfl rfl rfl rfl rfl (fun hc _ => nc rfl) rfl <| fW rfl rfl rfl rfl rfl rfl (fun hc _ => fa Ptf_fd_path_search_2 rfl) rfl <| ?_
    have HB := HB.later x_88
    refine fQ rfl rfl rfl rfl rfl rfl (fun hc _ x => ld rfl ((HB.later x).one Ptf_ag_S_int rfl)) rfl <| fW rfl rfl rfl rfl rfl rfl (fun hc _ => mv rfl) rfl <| ?_
    have B_80 := B_80.later x_88
    refine fQ rfl rfl rfl rfl rfl rfl (fun hc _ x => ld rfl ((B_80.later x).all Ptf_ag_api_Cell Ptf_sz_api_Cell)) rfl <| fC rfl rfl rfl rfl rfl rfl Ptf_en__P_path_search__index (fun hc => rfl) (fun hc _ x => pindex_any w f P F A pc cf c p far l b nd _ (Ext.tr z_87 x) hf hP (HB.later x) (by first | omega | (dsimp only; omega))) rfl <| ?_
    have HF := HF.later x_78
    have HF := HF.mod m_84 (fun q hq h => by have hb := List.mem_singleton.1 h; exfalso; (have := u_72 q hq; have := uHF q hq; have := u_55 q hq; omega))
    have HF := HF.later x_88
    refine fW rfl rfl rfl rfl rfl rfl (fun hc _ => iA ((nd.y * f.wide + nd.x).toNat) Try.underlying34 Ptf_sz_int rfl rfl (HF.has.adr (Nat.zero_lt_of_lt (show (nd.y * f.wide + nd.x).toNat < _ from (by have h_ := (fr_lt hf hpe.len hni).1; omega)))) (by (try simp only [Bool.or_eq_true, Bool.or_eq_false_iff, Bool.and_eq_true, Bool.and_eq_false_iff, decide_eq_true_eq, decide_eq_false_iff_not, beq_iff_eq, bne_iff_ne, beq_eq_false_iff_ne, bne_eq_false_iff_eq, Bool.not_eq_true', Bool.not_eq_false', Bool.not_eq_true, Bool.not_eq_false, Int.not_lt, Int.not_le, Nat.not_lt, Nat.not_le, ne_eq, Classical.not_not] at hc); omega) (by have h_ := (fr_lt hf hpe.len hni).1; omega)) rfl <| fQ rfl rfl rfl rfl rfl rfl (fun hc _ x => ld rfl (Rep.SHas.one' hcI ((HF.later x).has.adh (Nat.zero_lt_of_lt (show (nd.y * f.wide + nd.x).toNat < _ from (by have h_ := (fr_lt hf hpe.len hni).1; omega)))) (hpe.get hf hni) rfl Ptf_ag_int)) rfl <| fW rfl rfl rfl rfl rfl rfl (fun hc _ => bge rfl rfl) rfl <| fw rfl rfl (fun _ => pkT rfl (evb rfl k1_)) rfl <| fw rfl rfl (fun _ => mv rfl) rfl <| fW rfl rfl rfl rfl rfl rfl (fun hc _ => mv rfl) rfl <| fW rfl rfl rfl rfl rfl rfl (fun hc _ => nc rfl) rfl <| fW rfl rfl rfl rfl rfl rfl (fun hc _ => fa Ptf_fd_path_search_2 rfl) rfl <| fQ rfl rfl rfl rfl rfl rfl (fun hc _ x => ld rfl ((HB.later x).one Ptf_ag_S_int rfl)) rfl <| fW rfl rfl rfl rfl rfl rfl (fun hc _ => mv rfl) rfl <| fQ rfl rfl rfl rfl rfl rfl (fun hc _ x => ld rfl ((B_80.later x).all Ptf_ag_api_Cell Ptf_sz_api_Cell)) rfl <| fC rfl rfl rfl rfl rfl rfl Ptf_en__P_path_search__index (fun hc => rfl) (fun hc _ x => pindex_any w f P F A pc cf c p far l b nd _ (Ext.tr z_87 x) hf hP (HB.later x) (by first | omega | (dsimp only; omega))) rfl <| fW rfl rfl rfl rfl rfl rfl (fun hc _ => iA ((nd.y * f.wide + nd.x).toNat) Try.underlying34 Ptf_sz_int rfl rfl (HF.has.adr (Nat.zero_lt_of_lt (show (nd.y * f.wide + nd.x).toNat < _ from (by have h_ := (fr_lt hf hpe.len hni).1; omega)))) (by (try simp only [Bool.or_eq_true, Bool.or_eq_false_iff, Bool.and_eq_true, Bool.and_eq_false_iff, decide_eq_true_eq, decide_eq_false_iff_not, beq_iff_eq, bne_iff_ne, beq_eq_false_iff_ne, bne_eq_false_iff_eq, Bool.not_eq_true', Bool.not_eq_false', Bool.not_eq_true, Bool.not_eq_false, Int.not_lt, Int.not_le, Nat.not_lt, Nat.not_le, ne_eq, Classical.not_not] at hc); omega) (by have h_ := (fr_lt hf hpe.len hni).1; omega)) rfl <| fQ rfl rfl rfl rfl rfl rfl (fun hc _ x => ld rfl (Rep.SHas.one' hcI ((HF.later x).has.adh (Nat.zero_lt_of_lt (show (nd.y * f.wide + nd.x).toNat < _ from (by have h_ := (fr_lt hf hpe.len hni).1; omega)))) (hpe.get hf hni) rfl Ptf_ag_int)) rfl <| fW rfl rfl rfl rfl rfl rfl (fun hc _ => mv rfl) rfl <| fW rfl rfl rfl rfl rfl rfl (fun hc _ => bad rfl rfl (inI (by (try simp only [Bool.or_eq_true, Bool.or_eq_false_iff, Bool.and_eq_true, Bool.and_eq_false_iff, decide_eq_true_eq, decide_eq_false_iff_not, beq_iff_eq, bne_iff_ne, beq_eq_false_iff_ne, bne_eq_false_iff_eq, Bool.not_eq_true', Bool.not_eq_false', Bool.not_eq_true, Bool.not_eq_false, Int.not_lt, Int.not_le, Nat.not_lt, Nat.not_le, ne_eq, Classical.not_not] at hc); omega))) rfl <| fW rfl rfl rfl rfl rfl rfl (fun hc _ => mv rfl) rfl <| fW rfl rfl rfl rfl rfl rfl (fun hc _ => nc rfl) rfl <| fW rfl rfl rfl rfl rfl rfl (fun hc _ => fa Ptf_fd_path_search_2 rfl) rfl <| fQ rfl rfl rfl rfl rfl rfl (fun hc _ x => ld rfl ((HB.later x).one Ptf_ag_S_int rfl)) rfl <| fW rfl rfl rfl rfl rfl rfl (fun hc _ => mv rfl) rfl <| ?_
    have HC1 := HC1.later x_78
    have HC1 := HC1.mod m_84 (by simp only [List.mem_singleton]; omega)
    have HC1 := HC1.later x_88
    refine fQ rfl rfl rfl rfl rfl rfl (fun hc _ x => ld rfl ((HC1.later x).all Ptf_ag_api_Cell Ptf_sz_api_Cell)) rfl <| fC rfl rfl rfl rfl rfl rfl Ptf_en__P_path_search__index (fun hc => rfl) (fun hc _ x => pindex_any w f P F A pc cf c p far l b c1 _ (Ext.tr z_87 x) hf hP (HB.later x) (by first | omega | (dsimp only; omega))) rfl <| fW rfl rfl rfl rfl rfl rfl (fun hc _ => iA ((c1.y * f.wide + c1.x).toNat) Try.underlying34 Ptf_sz_int rfl rfl (HF.has.adr (Nat.zero_lt_of_lt (show (c1.y * f.wide + c1.x).toNat < _ from (by have h_ := (fr_lt hf hpe.len hci).1; omega)))) (by (try simp only [Bool.or_eq_true, Bool.or_eq_false_iff, Bool.and_eq_true, Bool.and_eq_false_iff, decide_eq_true_eq, decide_eq_false_iff_not, beq_iff_eq, bne_iff_ne, beq_eq_false_iff_ne, bne_eq_false_iff_eq, Bool.not_eq_true', Bool.not_eq_false', Bool.not_eq_true, Bool.not_eq_false, Int.not_lt, Int.not_le, Nat.not_lt, Nat.not_le, ne_eq, Classical.not_not] at hc); omega) (by have h_ := (fr_lt hf hpe.len hci).1; omega)) rfl <| fQ rfl rfl rfl rfl rfl rfl (fun hc _ x => ld rfl (Rep.SHas.one' hcI ((HF.later x).has.adh (Nat.zero_lt_of_lt (show (c1.y * f.wide + c1.x).toNat < _ from (by have h_ := (fr_lt hf hpe.len hci).1; omega)))) (hpe.get hf hci) rfl Ptf_ag_int)) rfl <| fW rfl rfl rfl rfl rfl rfl (fun hc _ => beq rfl rfl) rfl <| fw rfl rfl (fun _ => pkT rfl (evb rfl k2_)) rfl <| fn fun w_99 x_100 => ?_
    have q_101 := x_100.size
    have z_99 := Ext.tr z_87 x_100
    refine nT <| cT rfl <| sq <| rg <| ?_
    have B_80 := B_80.later x_100
    refine vl (ld rfl (B_80.all Ptf_ag_api_Cell Ptf_sz_api_Cell)) rfl <| ?_
    have HC1 := HC1.later x_100
    refine st (new := [.int .i64 nd.x, .int .i64 nd.y]) rfl rfl HC1 rfl Ptf_sz_api_Cell rfl rfl rfl fun w_102 m_103 HC1 => ?_
    have q_105 := m_103.size
    have z_102 := Ext.mod z_99 m_103 (by simp only [List.mem_singleton, forall_eq]; omega)
    have q_104 := m_103.size
    refine nl <| nT <| xt <| xN rfl <| xT <| xK <| xB <| nT <| rg <| vl (mv rfl) rfl <| vl (ld rfl (HC1.all Ptf_ag_api_Cell Ptf_sz_api_Cell)) rfl <| bs (e := 70) (cs := [.int .i64 nd.x, .int .i64 nd.y]) rfl (fun _ => by kernel_rfl) rfl fun w_106 b_107 x_108 l_109 B_110 => ?_
    have q_111 := x_108.size
    have z_106 := Ext.tr z_102 x_108
    have q_112 := B_110.lt
    have OL1 := OL1.later x_78
    have OL1 := OL1.mod m_84 (fun q hq h => by have hb := List.mem_singleton.1 h; exfalso; (have := u_74 q hq; have := u_57 q hq; omega))
    have OL1 := OL1.later (Ext.tr x_88 x_100)
    have OL1 := OL1.mod m_103 (fun q hq h => by have hb := List.mem_singleton.1 h; exfalso; (exact d_46 q hq hb))
    have OL1 := OL1.later x_108
    refine ap Ptf_el_S_api_Cell Rep.flat_bare OL1 (Blk.has1 (R := Cel.rep) (by_ := 16) (q := nd) B_110 ⟨rfl, ⟨okI_iff.2 (by (try dsimp only); omega), okI_iff.2 (by (try dsimp only); omega)⟩⟩ (by decide)) rfl rfl (by have hwl := hlen1; simp only [List.length_cons, List.length_nil]; omega) (by have hwl := hlen1; simp only [List.length_cons, List.length_nil]; omega) (by omega) rfl fun w_113 A_114 c_115 m_116 O_117 g_118 n_119 => ?_
    have q_120 := m_116.size
    have z_113 := Ext.mod z_106 m_116 (fun q hq => Nat.le_trans (by omega) (OL1.lt q hq).1)
    have u_121 := fun q hq => (O_117.lt q hq).2
    have q_122 := m_116.size
    refine vl (as_ rfl) rfl <| nl <| nB <| nT <| sq <| rg <| ?_
    have HC1 := HC1.later x_108
    have HC1 := HC1.mod m_116 (fun hq => d_46 _ hq rfl)
    refine vl (ld rfl (HC1.all Ptf_ag_api_Cell Ptf_sz_api_Cell)) rfl <| nl <| nT <| rg <| al rfl Ptf_zv_api_Cell rfl rfl fun w_123 b_124 x_125 l_126 B_127 => ?_
    have q_128 := x_125.size
    have z_123 := Ext.tr z_113 x_125
    have q_129 := B_127.lt
    refine st (new := [.int .i64 nd.x, .int .i64 nd.y]) rfl rfl B_127 rfl Ptf_sz_api_Cell rfl rfl rfl fun w_130 m_131 B_127 => ?_
    have q_133 := m_131.size
    have z_130 := Ext.mod z_123 m_131 (by simp only [List.mem_singleton, forall_eq]; omega)
    have q_132 := m_131.size
    refine nl <| ?_
    have B_12 := B_12.later x_78
    have B_12 := B_12.mod m_84 (by simp only [List.mem_singleton]; omega)
    have B_12 := B_12.later (Ext.tr x_88 x_100)
    have B_12 := B_12.mod m_103 (by simp only [List.mem_singleton]; omega)
    have B_12 := B_12.later x_108
    have B_12 := B_12.mod m_116 (fun hq => d_43 _ hq rfl)
    have B_12 := B_12.later x_125
    have B_12 := B_12.mod m_131 (by simp only [List.mem_singleton]; omega)
    have B_19 := B_19.later x_78
    have B_19 := B_19.mod m_84 (by simp only [List.mem_singleton]; omega)
    have B_19 := B_19.later (Ext.tr x_88 x_100)
    have B_19 := B_19.mod m_103 (by simp only [List.mem_singleton]; omega)
    have B_19 := B_19.later x_108
    have B_19 := B_19.mod m_116 (fun hq => d_44 _ hq rfl)
    have B_19 := B_19.later x_125
    have B_19 := B_19.mod m_131 (by simp only [List.mem_singleton]; omega)
    have HB := HB.later x_100
    have HB := HB.mod m_103 (by simp only [List.mem_singleton]; omega)
    have HB := HB.later x_108
    have HB := HB.mod m_116 (fun hq => d_45 _ hq rfl)
    have HB := HB.later x_125
    have HB := HB.mod m_131 (by simp only [List.mem_singleton]; omega)
    have HF := HF.later x_100
    have HF := HF.mod m_103 (fun q hq h => by have hb := List.mem_singleton.1 h; exfalso; (exact hbFd q hq hb))
    have HF := HF.later x_108
    have HF := HF.mod m_116 (fun q hq h => by exfalso; (exact d_47 q h hq))
    have HF := HF.later x_125
    have HF := HF.mod m_131 (fun q hq h => by have hb := List.mem_singleton.1 h; exfalso; (have := u_72 q hq; have := uHF q hq; have := u_55 q hq; omega))
    have HC1 := HC1.later x_125
    have HC1 := HC1.mod m_131 (by simp only [List.mem_singleton]; omega)
    have O_117 := O_117.later x_125
    have O_117 := O_117.mod m_131 (fun q hq h => by have hb := List.mem_singleton.1 h; exfalso; (have := u_121 q hq; omega))
    exact nI _ _ ⟨nd, b_124, out ++ [nd], A_114, c_115, rfl, rfl, z_130, B_12, B_19, HB, HF, B_127, O_117, (by omega), (by omega), (by omega), (by omega), (fun q hq => by have := hbF q hq; omega), p3, hw2, (by omega), (fun q hq hb => by (exact Or.elim (g_118 q hq) (fun k_134 => by (exact d_43 q k_134 hb)) (fun k_134 => by omega))), (fun q hq hb => by (exact Or.elim (g_118 q hq) (fun k_135 => by (exact d_44 q k_135 hb)) (fun k_135 => by omega))), (fun q hq hb => by (exact Or.elim (g_118 q hq) (fun k_136 => by (exact d_45 q k_136 hb)) (fun k_136 => by omega))), (fun q hq hb => by (have := u_121 q hq; omega)), (fun q hq hb => by (exact Or.elim (g_118 q hq) (fun k_137 => by (exact d_47 q k_137 hb)) (fun k_137 => by (have := u_72 q hb; have := uHF q hb; have := u_55 q hb; omega))))⟩ (by omega) (.cons rfl (.cons rfl (.cons rfl (.cons rfl (.cons rfl (.cons rfl (.cons rfl (.cons rfl .nil))))))))
  ·exfalso
   have e4 : j = 4 := by omega
   rw [e4] at hno
   exact Fld.sides_ne p1 (prev_none hno)
 ·have hca : c1 = a := by simpa using h_58
  refine xt <| xT <| xK <| xB <| nT <| sq <| rg <| vl (mv rfl) rfl <| ca Ptf_en_slices_Reverse_S_api_Cell_api_Cell_ rfl rfl ((reverse_C _ _ w.heap.size out _ OL1 (Cel.all_ok OL1.has)).mono ?_)
  rintro e w_140 ⟨rfl, O_138, m_139⟩
  refine ⟨_, rfl, ?_⟩
  have q_141 := m_139.size
  have z_140 := Ext.mod z_48 m_139 (fun q hq => (OL1.lt q hq).1)
  refine nl <| nT <| sq <| ?_
  refine rd [(4, 0), (6, 0), (7, 0), (9, 0)] [0, 1, 2, 3, 4, 5, 6, 7, 8, 9, 10, 11, 12] (by kernel_rfl) (by kernel_rfl) ?_
  refine fw rfl rfl (fun _ => mv rfl) rfl <| fw rfl rfl (fun _ => mv rfl) rfl <| fw rfl rfl (fun _ => nc rfl) rfl <| fw rfl rfl (fun _ => fa Ptf_fd_path_search_2 rfl) rfl <| ?_
  have HB := HB.mod m_139 (fun hq => d_45 _ hq rfl)
  refine fq rfl rfl (fun _ x => ld rfl ((HB.later x).one Ptf_ag_S_int rfl)) rfl <| fw rfl rfl (fun _ => mv rfl) rfl <| ?_
  have B_19 := B_19.mod m_139 (fun hq => d_44 _ hq rfl)
  refine fq rfl rfl (fun _ x => ld rfl ((B_19.later x).all Ptf_ag_api_Cell Ptf_sz_api_Cell)) rfl <| fc rfl rfl Ptf_en__P_path_search__index rfl (fun _ x => pindex_any w f P F A pc cf c p far l b b _ (Ext.tr z_140 x) hf hP (HB.later x) (by first | omega | (dsimp only; omega))) rfl <| ?_
  have HF := HF.mod m_139 (fun q hq h => by exfalso; (exact d_47 q h hq))
  refine fw rfl rfl (fun _ => iA ((b.y * f.wide + b.x).toNat) Try.underlying34 Ptf_sz_int rfl rfl (HF.has.adr (Nat.zero_lt_of_lt (show (b.y * f.wide + b.x).toNat < _ from (by have h_ := (fr_lt hf hpe.len hib).1; omega)))) (by omega) (by have h_ := (fr_lt hf hpe.len hib).1; omega)) rfl <| fq rfl rfl (fun _ x => ld rfl (Rep.SHas.one' hcI ((HF.later x).has.adh (Nat.zero_lt_of_lt (show (b.y * f.wide + b.x).toNat < _ from (by have h_ := (fr_lt hf hpe.len hib).1; omega)))) (hpe.get hf hib) rfl Ptf_ag_int)) rfl <| fw rfl rfl (fun _ => as_ rfl) rfl <| fw rfl rfl (fun _ => as_ rfl) rfl <| fw rfl rfl (fun _ => as_ rfl) rfl <| fn fun w_142 x_143 => ?_
  have q_144 := x_143.size
  have z_142 := Ext.tr z_140 x_143
  refine nT <| rt <| tR (.tmp rfl (.tmp rfl (.tmp rfl .nil))) <| ?_
  have O_138 := O_138.later x_143
  have hout : out = wayB f (frF f a b) a b := by rw [hca, wayB_self hFr] at hw1; simpa using hw1
  exact ⟨_, _, by rw [← hout, List.length_reverse]; rfl, by rw [← hout]; exact O_138, z_142⟩
end Go.Proofs.Ytokehopkfnipmaa
set_option linter.unusedVariables false
set_option linter.unusedSimpArgs false
namespace Go.Proofs.Ytokehopkfnipmaa
open Go.RowKit

section
variable {f : Fld} {a b c x : Cel} {dl far : List Int} {d : Int}
def allC (f : Fld) : List Cel := (List.range f.high.toNat).flatMap fun (y : Nat) => (List.range f.wide.toNat).map fun (x : Nat) => (⟨(x : Int), (y : Int)⟩ : Cel)
def certC (f : Fld) (a b : Cel) (dl far : List Int) (c : Cel) : Bool :=
 (decide (0 ≤ f.fr dl c) || decide (f.fr dl c = -1)) &&
 (!decide (0 ≤ f.fr dl c) || (f.ground c && ((decide (c = a) && decide (f.fr dl c = 0)) || (sidesC c).any fun p => decide (0 ≤ f.fr dl p) && decide (f.fr dl c = f.fr dl p + f.kost c)))) &&
 (!decide (0 ≤ f.fr dl c) || (f.adj c).all fun y => decide (0 ≤ f.fr dl y) && decide (f.fr dl y ≤ f.fr dl c + f.kost y)) &&
 decide (f.fr far c = if 0 ≤ f.fr dl c ∧ (f.fr dl b < 0 ∨ f.fr dl c + Fld.est b c ≤ f.fr dl b) then f.fr dl c else -1) &&
 decide (f.fr dl c ≤ 3 * (f.places.length : Int))
def certB (f : Fld) (a b : Cel) (dl far : List Int) : Bool := decide (far.length = f.places.length) && decide (f.fr dl a = 0) && (allC f).all (certC f a b dl far)
end
theorem pfind_any (f : Fld) (a b : Cel) (P : Option Addr) (pc : Nat) (w : World) (hP : repI.SHas 8 w P pc f.places) :
  Calls Try.prog 136 #[.agg #[.int .i64 f.wide, .int .i64 f.high, .slice P f.places.length pc], .agg #[.int .i64 a.x, .int .i64 a.y], .agg #[.int .i64 b.x, .int .i64 b.y]] w (fun e w' => ∃ A c, e = .returned (.tuple #[.slice A (findP f a b).length c, .int .i64 (findK f a b), .int .i64 (findE f a b)]) ∧ Cel.rep.SOwn 70 16 w' w.heap.size (Rep.blkOf A) A c (findP f a b) ∧ Ext w w') := by
 by_cases he : findE f a b = 0
 ·rcases find_cases f a b with ⟨h1, h2⟩ | ⟨h1, h2, h3⟩ | ⟨h1, h2, h3, h4⟩ | ⟨h1, h2, h3, h4 | h4⟩
  ·rw [h2] at he; exact absurd he h1
  ·rw [h3] at he; exact absurd he h2
  ·rw [h4] at he; cases he
  ·rw [h4.2] at he; cases he
  ·unfold findP findK
   rw [if_pos he, if_pos he, he]
   exact pfind_ok f a b P pc w hP h1 h2 h3 h4.1
 ·unfold findP findK
  rw [if_neg he, if_neg he]
  exact (pfind_no f a b P pc w hP he).mono fun e w' h => ⟨none, 0, h.1, Rep.SOwn.nil _, h.2⟩
section
variable {f : Fld} {a b : Cel} {far : List Int}
end
end Go.Proofs.Ytokehopkfnipmaa
