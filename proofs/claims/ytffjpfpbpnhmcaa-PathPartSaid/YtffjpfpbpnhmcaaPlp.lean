/-
  PathPart. (Printed by bin/pathlaw2.py.)
-/
import Derived.Test.YtffjpfpbpnhmcaaPlv
import Derived.Test.YtffjpfpbpnhmcaaPpt
import Derived.Test.YtffjpfpbpnhmcaaSigP
set_option linter.unusedVariables false
set_option linter.unusedSimpArgs false
namespace Go.Proofs.Ytffjpfpbpnhmcaa
open Go.RowKit

theorem Plp_ag_api_Field : Ag Try.prog 24 true := fun _ => by kernel_rfl
theorem Plp_sz_api_Field : Sz Try.prog 24 3 := fun _ => by kernel_rfl
theorem Plp_ag_api_Cell : Ag Try.prog 32 true := fun _ => by kernel_rfl
theorem Plp_sz_api_Cell : Sz Try.prog 32 2 := fun _ => by kernel_rfl
theorem Plp_en_path_Find : Enters Try.prog 20 := en Try.func20 (by kernel_rfl) (by kernel_rfl)
theorem Plp_en_mustkeep_pathLives : Enters Try.prog 21 := en Try.func21 (by kernel_rfl) (by kernel_rfl)
theorem Plp_en_path_Far : Enters Try.prog 22 := en Try.func22 (by kernel_rfl) (by kernel_rfl)
theorem Plp_en_slices_Equal_S_api_Cell_api_Cell_ : Enters Try.prog 23 := en Try.func23 (by kernel_rfl) (by kernel_rfl)
set_option maxRecDepth 100000 in
set_option maxHeartbeats 1000000 in
theorem pathPart_bad (f : Fld) (a b c : Cel) (n : Int) (P : Option Addr) (pc : Nat) (w : World) (hP : repI.SHas 8 w P pc f.places) (he : findE f a b ≠ 0) :
    Calls Try.prog 6 #[.agg #[.int .i64 f.wide, .int .i64 f.high, .slice P f.places.length pc], .agg #[.int .i64 a.x, .int .i64 a.y], .agg #[.int .i64 b.x, .int .i64 b.y], .agg #[.int .i64 c.x, .int .i64 c.y], .int .i64 n] w (fun e w' => e = .returned (.bool true) ∧ Ext w w') := by
  have kE : (findE f a b != 0) = true := by simpa using he
  refine calls_W (n := 115) Try.func6 rfl rfl rfl ?_
  refine sq <| rg <| bx rfl rfl rfl rfl fun w_1 b_2 x_3 l_4 B_5 => ?_
  have q_6 := x_3.size
  have z_1 := Ext.tr (Ext.rf w) x_3
  have q_7 := B_5.lt
  refine bx rfl rfl rfl rfl fun w_8 b_9 x_10 l_11 B_12 => ?_
  have q_13 := x_10.size
  have z_8 := Ext.tr z_1 x_10
  have q_14 := B_12.lt
  refine bx rfl rfl rfl rfl fun w_15 b_16 x_17 l_18 B_19 => ?_
  have q_20 := x_17.size
  have z_15 := Ext.tr z_8 x_17
  have q_21 := B_19.lt
  refine bx rfl rfl rfl rfl fun w_22 b_23 x_24 l_25 B_26 => ?_
  have q_27 := x_24.size
  have z_22 := Ext.tr z_15 x_24
  have q_28 := B_26.lt
  refine vl (as_ rfl) rfl <| nl <| nT <| sq <| rg <| ?_
  have B_5 := B_5.later (Ext.tr x_10 (Ext.tr x_17 x_24))
  refine vl (ld rfl (B_5.all Plp_ag_api_Field Plp_sz_api_Field)) rfl <| ?_
  have B_12 := B_12.later (Ext.tr x_17 x_24)
  refine vl (ld rfl (B_12.all Plp_ag_api_Cell Plp_sz_api_Cell)) rfl <| ?_
  have B_19 := B_19.later x_24
  refine vl (ld rfl (B_19.all Plp_ag_api_Cell Plp_sz_api_Cell)) rfl <| ca Plp_en_path_Find rfl rfl ((pfind_any f a b _ _ _ (hP.keep z_22)).mono ?_)
  rintro e w_32 ⟨A_29, c_29, rfl, OP_29, x_33⟩
  refine ⟨_, rfl, ?_⟩
  have q_34 := x_33.size
  have z_32 := Ext.tr z_22 x_33
  have u_30 := fun q hq => (OP_29.lt q hq).2
  have lo_31 := fun q hq => (OP_29.lt q hq).1
  have hcp_29 := OP_29.has.1
  refine vl (mv rfl) rfl <| vl (ex rfl rfl) rfl <| vl (ex rfl rfl) rfl <| vl (ex rfl rfl) rfl <| vl (as_ rfl) rfl <| vl (as_ rfl) rfl <| vl (as_ rfl) rfl <| nl <| nT <| sq <| sq <| rg <| ca Plp_en_mustkeep_pathLives rfl rfl ((pathLives_any _).mono ?_)
  rintro e w_35 ⟨rfl, x_36⟩
  refine ⟨_, rfl, ?_⟩
  have q_37 := x_36.size
  have z_35 := Ext.tr z_32 x_36
  refine vl (nt rfl) rfl <| vl (mv rfl) rfl <| ug rfl rfl rfl <| vl (mv rfl) rfl <| ug rfl rfl rfl <| vl (bne rfl rfl) rfl <| vl (pkF rfl (evb rfl kE)) rfl <| nl <| nT <| cT rfl <| sq <| rg <| ca Plp_en_mustkeep_pathLives rfl rfl ((pathLives_any _).mono ?_)
  rintro e w_38 ⟨rfl, x_39⟩
  refine ⟨_, rfl, ?_⟩
  have q_40 := x_39.size
  have z_38 := Ext.tr z_35 x_39
  refine vl (as_ rfl) rfl <| nl <| nT <| rt <| tT <| tR (.tmp rfl .nil) <| ?_
  exact ⟨rfl, z_38⟩
set_option maxRecDepth 100000 in
set_option maxHeartbeats 1000000 in
theorem pathPart_11 (f : Fld) (a b c : Cel) (n : Int) (P : Option Addr) (pc : Nat) (pt : Cel) (w : World) (hP : repI.SHas 8 w P pc f.places) (he : findE f a b = 0) (hg : findE f a c = 0) (hn0 : 0 ≤ n) (hn1 : n < ((findP f a b).length : Int)) (hx : (findP f a b).getD n.toNat default = pt) :
    Calls Try.prog 6 #[.agg #[.int .i64 f.wide, .int .i64 f.high, .slice P f.places.length pc], .agg #[.int .i64 a.x, .int .i64 a.y], .agg #[.int .i64 b.x, .int .i64 b.y], .agg #[.int .i64 c.x, .int .i64 c.y], .int .i64 n] w (fun e w' => e = .returned (.bool true) ∧ Ext w w') := by
  have kE : (findE f a b != 0) = false := by simpa using he
  obtain ⟨hf, ga, gb, h0, hk, hp⟩ := find_dat he
  have hbd := (frF_dst hf ga h0).bd hf ga
  have hl16 := Fld.len_le hf
  obtain ⟨hn_, hlen, hgr⟩ := findP_once he
  obtain ⟨t1, t2⟩ := way_third hf ga h0 hg
  obtain ⟨_, _, gc, c0_, ck_, _⟩ := find_dat hg
  obtain ⟨_, _, _, d0_, dk_, _⟩ := find_dat t1
  have kg : (findE f a c == 0) = true := by simpa using hg
  have kh : (findE f c b != 0) = false := by simpa using t1
  have hbd2 := (frF_dst hf ga c0_).bd hf ga
  have hbd3 := (frF_dst hf gc d0_).bd hf gc
  obtain ⟨hx1, hx2, hx3, hx4⟩ := way_part he (n := n.toNat) (by omega) hx
  have hxg : (findP f a b)[n.toNat]? = some pt := by rw [← hx]; exact get_d (by omega)
  obtain ⟨_, _, gx, x0_, xk_, _⟩ := find_dat hx1
  obtain ⟨_, _, _, y0_, yk_, _⟩ := find_dat hx2
  have hbd4 := (frF_dst hf ga x0_).bd hf ga
  have hbd5 := (frF_dst hf gx y0_).bd hf gx
  refine calls_W (n := 115) Try.func6 rfl rfl rfl ?_
  refine sq <| rg <| bx rfl rfl rfl rfl fun w_1 b_2 x_3 l_4 B_5 => ?_
  have q_6 := x_3.size
  have z_1 := Ext.tr (Ext.rf w) x_3
  have q_7 := B_5.lt
  refine bx rfl rfl rfl rfl fun w_8 b_9 x_10 l_11 B_12 => ?_
  have q_13 := x_10.size
  have z_8 := Ext.tr z_1 x_10
  have q_14 := B_12.lt
  refine bx rfl rfl rfl rfl fun w_15 b_16 x_17 l_18 B_19 => ?_
  have q_20 := x_17.size
  have z_15 := Ext.tr z_8 x_17
  have q_21 := B_19.lt
  refine bx rfl rfl rfl rfl fun w_22 b_23 x_24 l_25 B_26 => ?_
  have q_27 := x_24.size
  have z_22 := Ext.tr z_15 x_24
  have q_28 := B_26.lt
  refine vl (as_ rfl) rfl <| nl <| nT <| sq <| rg <| ?_
  have B_5 := B_5.later (Ext.tr x_10 (Ext.tr x_17 x_24))
  refine vl (ld rfl (B_5.all Plp_ag_api_Field Plp_sz_api_Field)) rfl <| ?_
  have B_12 := B_12.later (Ext.tr x_17 x_24)
  refine vl (ld rfl (B_12.all Plp_ag_api_Cell Plp_sz_api_Cell)) rfl <| ?_
  have B_19 := B_19.later x_24
  refine vl (ld rfl (B_19.all Plp_ag_api_Cell Plp_sz_api_Cell)) rfl <| ca Plp_en_path_Find rfl rfl ((pfind_any f a b _ _ _ (hP.keep z_22)).mono ?_)
  rintro e w_32 ⟨A_29, c_29, rfl, OP_29, x_33⟩
  refine ⟨_, rfl, ?_⟩
  have q_34 := x_33.size
  have z_32 := Ext.tr z_22 x_33
  have u_30 := fun q hq => (OP_29.lt q hq).2
  have lo_31 := fun q hq => (OP_29.lt q hq).1
  have hcp_29 := OP_29.has.1
  refine vl (mv rfl) rfl <| vl (ex rfl rfl) rfl <| vl (ex rfl rfl) rfl <| vl (ex rfl rfl) rfl <| vl (as_ rfl) rfl <| vl (as_ rfl) rfl <| vl (as_ rfl) rfl <| nl <| nT <| sq <| sq <| rg <| ca Plp_en_mustkeep_pathLives rfl rfl ((pathLives_any _).mono ?_)
  rintro e w_35 ⟨rfl, x_36⟩
  refine ⟨_, rfl, ?_⟩
  have q_37 := x_36.size
  have z_35 := Ext.tr z_32 x_36
  refine vl (nt rfl) rfl <| vl (mv rfl) rfl <| ug rfl rfl rfl <| vl (mv rfl) rfl <| ug rfl rfl rfl <| vl (bne rfl rfl) rfl <| vl (pkF rfl (evb rfl kE)) rfl <| nl <| nT <| cF rfl <| sk <| nT <| sq <| rg <| ?_
  have B_5 := B_5.later (Ext.tr x_33 x_36)
  refine vl (ld rfl (B_5.all Plp_ag_api_Field Plp_sz_api_Field)) rfl <| ?_
  have B_12 := B_12.later (Ext.tr x_33 x_36)
  refine vl (ld rfl (B_12.all Plp_ag_api_Cell Plp_sz_api_Cell)) rfl <| ?_
  have B_26 := B_26.later (Ext.tr x_33 x_36)
  refine vl (ld rfl (B_26.all Plp_ag_api_Cell Plp_sz_api_Cell)) rfl <| ca Plp_en_path_Far rfl rfl ((pfar_any f a c _ _ _ (hP.keep z_35)).mono ?_)
  rintro e w_38 ⟨rfl, x_39⟩
  refine ⟨_, rfl, ?_⟩
  have q_40 := x_39.size
  have z_38 := Ext.tr z_35 x_39
  refine vl (mv rfl) rfl <| vl (ex rfl rfl) rfl <| vl (ex rfl rfl) rfl <| vl (as_ rfl) rfl <| vl (as_ rfl) rfl <| nl <| nT <| sq <| rg <| ?_
  have B_5 := B_5.later x_39
  refine vl (ld rfl (B_5.all Plp_ag_api_Field Plp_sz_api_Field)) rfl <| ?_
  have B_26 := B_26.later x_39
  refine vl (ld rfl (B_26.all Plp_ag_api_Cell Plp_sz_api_Cell)) rfl <| ?_
  have B_19 := B_19.later (Ext.tr x_33 (Ext.tr x_36 x_39))
  refine vl (ld rfl (B_19.all Plp_ag_api_Cell Plp_sz_api_Cell)) rfl <| ca Plp_en_path_Far rfl rfl ((pfar_any f c b _ _ _ (hP.keep z_38)).mono ?_)
  rintro e w_41 ⟨rfl, x_42⟩
  refine ⟨_, rfl, ?_⟩
  have q_43 := x_42.size
  have z_41 := Ext.tr z_38 x_42
  refine vl (mv rfl) rfl <| vl (ex rfl rfl) rfl <| vl (ex rfl rfl) rfl <| vl (as_ rfl) rfl <| vl (as_ rfl) rfl <| nl <| nT <| sq <| sq <| rg <| vl (mv rfl) rfl <| vl (beq rfl rfl) rfl <| vl (mv (evb rfl kg)) rfl <| ug rfl rfl rfl <| vl (mv rfl) rfl <| ug rfl rfl rfl <| vl (bne rfl rfl) rfl <| ug rfl rfl rfl <| vl (mv (evb rfl kh)) rfl <| ug rfl rfl rfl <| vl (mv rfl) rfl <| ug rfl rfl rfl <| vl (mv rfl) rfl <| ug rfl rfl rfl <| ?_
  refine vl (bad rfl rfl (inI (by omega))) rfl <| ug rfl rfl rfl <| vl (mv rfl) rfl <| ug rfl rfl rfl <| vl (blt rfl rfl) rfl <| ug rfl rfl rfl <| vl (pkF rfl rfl) rfl <| vl (pkT rfl rfl) rfl <| nl <| nT <| ?_
  have h_44 : (decide ((findK f a c) + (findK f c b) < findK f a b)) = false := by exact decide_eq_false (by omega)
  refine cF (by rw [← h_44]; rfl) <| sk <| nT <| sq <| sq <| rg <| vl (mv rfl) rfl <| vl (blt rfl rfl) rfl <| vl (mv rfl) rfl <| vQ rfl rfl rfl rfl (fun hc => mv rfl) rfl <| vQ rfl rfl rfl rfl (fun hc => mv rfl) rfl <| vQ rfl rfl rfl rfl (fun hc => ln Try.underlying25 (gt hc rfl)) rfl <| vQ rfl rfl rfl rfl (fun hc => bge (gt hc rfl) (gt hc rfl)) rfl <| vl (pO rfl rfl rfl rfl) rfl <| nl <| nT <| ?_
  have h_45 : ((decide (n < 0)) || (decide ((((findP f a b).length : Nat) : Int) ≤ n))) = false := by rw [Bool.or_eq_false_iff]; exact ⟨decide_eq_false (by omega), decide_eq_false (by omega)⟩
  refine cF (by rw [← h_45]; rfl) <| sk <| nT <| sq <| ?_
  refine rd [(0, 0), (1, 0), (5, 0), (6, 2)] [0, 1, 2, 3, 4, 5, 6, 7, 8, 9, 10, 11, 12, 13] (by kernel_rfl) (by kernel_rfl) ?_
  have B_5 := B_5.later x_42
  refine fq rfl rfl (fun _ x => ld rfl ((B_5.later x).all Plp_ag_api_Field Plp_sz_api_Field)) rfl <| ?_
  have B_12 := B_12.later (Ext.tr x_39 x_42)
  refine fq rfl rfl (fun _ x => ld rfl ((B_12.later x).all Plp_ag_api_Cell Plp_sz_api_Cell)) rfl <| fw rfl rfl (fun _ => mv rfl) rfl <| fw rfl rfl (fun _ => mv rfl) rfl <| ?_
  have OP_29 := OP_29.later (Ext.tr x_36 (Ext.tr x_39 x_42))
  refine fw rfl rfl (fun _ => iA n.toNat Try.underlying25 Plp_sz_api_Cell rfl rfl (OP_29.has.adr (Nat.zero_lt_of_lt (show n.toNat < _ from (by omega)))) (by omega) (by omega)) rfl <| fq rfl rfl (fun _ x => ld rfl (Rep.SHas.elt hcC ((OP_29.later x).has.adh (Nat.zero_lt_of_lt (show n.toNat < _ from (by omega)))) hxg Plp_ag_api_Cell Plp_sz_api_Cell)) rfl <| fx rfl rfl rfl fun w_46 x_47 Q hK => ca Plp_en_path_Find rfl rfl ((pfind_any f a pt _ _ _ (hP.keep (Ext.tr z_41 x_47))).mono ?_)
  rintro e w_51 ⟨A_48, c_48, rfl, OP_48, x_52⟩
  refine ⟨_, rfl, hK _ _ ⟨Ext.tr x_47 x_52, ?_⟩⟩
  have q_53 := x_47.size
  have z_46 := Ext.tr z_41 x_47
  have q_54 := x_52.size
  have z_51 := Ext.tr z_46 x_52
  have u_49 := fun q hq => (OP_48.lt q hq).2
  have lo_50 := fun q hq => (OP_48.lt q hq).1
  have hcp_48 := OP_48.has.1
  refine fw rfl rfl (fun _ => mv rfl) rfl <| fw rfl rfl (fun _ => ex rfl rfl) rfl <| fw rfl rfl (fun _ => ex rfl rfl) rfl <| fw rfl rfl (fun _ => ex rfl rfl) rfl <| fw rfl rfl (fun _ => as_ rfl) rfl <| fw rfl rfl (fun _ => as_ rfl) rfl <| fw rfl rfl (fun _ => as_ rfl) rfl <| fn fun w_55 x_56 => ?_
  have q_57 := x_56.size
  have z_55 := Ext.tr z_51 x_56
  refine nT <| sq <| ?_
  refine rd [(0, 0), (4, 0), (5, 0), (6, 0)] [0, 1, 2, 3, 4, 5, 6, 7, 8, 9, 10, 11] (by kernel_rfl) (by kernel_rfl) ?_
  have B_5 := B_5.later (Ext.tr x_47 (Ext.tr x_52 x_56))
  refine fq rfl rfl (fun _ x => ld rfl ((B_5.later x).all Plp_ag_api_Field Plp_sz_api_Field)) rfl <| fw rfl rfl (fun _ => mv rfl) rfl <| fw rfl rfl (fun _ => mv rfl) rfl <| ?_
  have OP_29 := OP_29.later (Ext.tr x_47 (Ext.tr x_52 x_56))
  refine fw rfl rfl (fun _ => iA n.toNat Try.underlying25 Plp_sz_api_Cell rfl rfl (OP_29.has.adr (Nat.zero_lt_of_lt (show n.toNat < _ from (by omega)))) (by omega) (by omega)) rfl <| fq rfl rfl (fun _ x => ld rfl (Rep.SHas.elt hcC ((OP_29.later x).has.adh (Nat.zero_lt_of_lt (show n.toNat < _ from (by omega)))) hxg Plp_ag_api_Cell Plp_sz_api_Cell)) rfl <| ?_
  have B_19 := B_19.later (Ext.tr x_42 (Ext.tr x_47 (Ext.tr x_52 x_56)))
  refine fq rfl rfl (fun _ x => ld rfl ((B_19.later x).all Plp_ag_api_Cell Plp_sz_api_Cell)) rfl <| fc rfl rfl Plp_en_path_Far rfl (fun _ x => pfar_any f pt b _ _ _ (hP.keep (Ext.tr z_55 x))) rfl <| fw rfl rfl (fun _ => mv rfl) rfl <| fw rfl rfl (fun _ => ex rfl rfl) rfl <| fw rfl rfl (fun _ => ex rfl rfl) rfl <| fw rfl rfl (fun _ => as_ rfl) rfl <| fw rfl rfl (fun _ => as_ rfl) rfl <| fn fun w_58 x_59 => ?_
  have q_60 := x_59.size
  have z_58 := Ext.tr z_55 x_59
  refine nT <| sq <| rg <| vl (mv rfl) rfl <| vl (beq rfl rfl) rfl <| vl (mv rfl) rfl <| vQ rfl rfl rfl rfl (fun hc => mv rfl) rfl <| vQ rfl rfl rfl rfl (fun hc => beq (gt hc rfl) rfl) rfl <| vl (pA rfl rfl rfl rfl) rfl <| vl (mv rfl) rfl <| vQ rfl rfl rfl rfl (fun hc => mv rfl) rfl <| vQ rfl rfl rfl rfl (fun hc => mv rfl) rfl <| vQ rfl rfl rfl rfl (fun hc => mv rfl) rfl <| vQ rfl rfl rfl rfl (fun hc => bad (gt hc rfl) rfl (inI (by (try simp only [Bool.or_eq_true, Bool.or_eq_false_iff, Bool.and_eq_true, Bool.and_eq_false_iff, decide_eq_true_eq, decide_eq_false_iff_not, beq_iff_eq, bne_iff_ne, beq_eq_false_iff_ne, bne_eq_false_iff_eq, Bool.not_eq_true', Bool.not_eq_false', Bool.not_eq_true, Bool.not_eq_false, Int.not_lt, Int.not_le, Nat.not_lt, Nat.not_le, ne_eq, Classical.not_not] at hc); omega))) rfl <| vQ rfl rfl rfl rfl (fun hc => sP (n.toNat + 1) ((findP f a b).take (n.toNat + 1)).length Try.underlying25 Plp_sz_api_Cell (gt hc rfl) (gt hc rfl) (by omega) (by omega) (by rw [List.length_take]; omega)) rfl <| ?_
  have OP_48 := OP_48.later (Ext.tr x_56 x_59)
  have OP_29 := OP_29.later x_59
  refine vC rfl rfl rfl rfl Plp_en_slices_Equal_S_api_Cell_api_Cell_ (fun hc => ec (gt hc rfl) (ec (gt hc rfl) rfl)) (fun hc => equal_C _ _ _ _ _ _ (findP f a pt) ((findP f a b).take (n.toNat + 1)) _ OP_48.has (OP_29.has.pre (n.toNat + 1))) rfl fun w_61 x_62 => ?_
  have q_63 := x_62.size
  have z_61 := Ext.tr z_58 x_62
  refine vl (pA rfl rfl rfl rfl) rfl <| vl (mv rfl) rfl <| vQ rfl rfl rfl rfl (fun hc => mv rfl) rfl <| vQ rfl rfl rfl rfl (fun hc => mv rfl) rfl <| vQ rfl rfl rfl rfl (fun hc => bad (gt hc rfl) (gt hc rfl) (inI (by (try simp only [Bool.or_eq_true, Bool.or_eq_false_iff, Bool.and_eq_true, Bool.and_eq_false_iff, decide_eq_true_eq, decide_eq_false_iff_not, beq_iff_eq, bne_iff_ne, beq_eq_false_iff_ne, bne_eq_false_iff_eq, Bool.not_eq_true', Bool.not_eq_false', Bool.not_eq_true, Bool.not_eq_false, Int.not_lt, Int.not_le, Nat.not_lt, Nat.not_le, ne_eq, Classical.not_not] at hc); omega))) rfl <| vQ rfl rfl rfl rfl (fun hc => mv rfl) rfl <| vQ rfl rfl rfl rfl (fun hc => beq (gt hc rfl) (gt hc rfl)) rfl <| vl (pA rfl rfl rfl rfl) rfl <| vl (as_ rfl) rfl <| nl <| nT <| rt <| tR (.tmp rfl .nil) <| ?_
  exact ⟨ret_true (by rw [hx1, hx2]; simp [hx3, hx4]), z_61⟩
set_option maxRecDepth 100000 in
set_option maxHeartbeats 1000000 in
theorem pathPart_10 (f : Fld) (a b c : Cel) (n : Int) (P : Option Addr) (pc : Nat) (w : World) (hP : repI.SHas 8 w P pc f.places) (he : findE f a b = 0) (hg : findE f a c = 0) (hn0 : n < 0 ∨ ((findP f a b).length : Int) ≤ n) :
    Calls Try.prog 6 #[.agg #[.int .i64 f.wide, .int .i64 f.high, .slice P f.places.length pc], .agg #[.int .i64 a.x, .int .i64 a.y], .agg #[.int .i64 b.x, .int .i64 b.y], .agg #[.int .i64 c.x, .int .i64 c.y], .int .i64 n] w (fun e w' => e = .returned (.bool true) ∧ Ext w w') := by
  have kE : (findE f a b != 0) = false := by simpa using he
  obtain ⟨hf, ga, gb, h0, hk, hp⟩ := find_dat he
  have hbd := (frF_dst hf ga h0).bd hf ga
  have hl16 := Fld.len_le hf
  obtain ⟨hn_, hlen, hgr⟩ := findP_once he
  obtain ⟨t1, t2⟩ := way_third hf ga h0 hg
  obtain ⟨_, _, gc, c0_, ck_, _⟩ := find_dat hg
  obtain ⟨_, _, _, d0_, dk_, _⟩ := find_dat t1
  have kg : (findE f a c == 0) = true := by simpa using hg
  have kh : (findE f c b != 0) = false := by simpa using t1
  have hbd2 := (frF_dst hf ga c0_).bd hf ga
  have hbd3 := (frF_dst hf gc d0_).bd hf gc
  refine calls_W (n := 115) Try.func6 rfl rfl rfl ?_
  refine sq <| rg <| bx rfl rfl rfl rfl fun w_1 b_2 x_3 l_4 B_5 => ?_
  have q_6 := x_3.size
  have z_1 := Ext.tr (Ext.rf w) x_3
  have q_7 := B_5.lt
  refine bx rfl rfl rfl rfl fun w_8 b_9 x_10 l_11 B_12 => ?_
  have q_13 := x_10.size
  have z_8 := Ext.tr z_1 x_10
  have q_14 := B_12.lt
  refine bx rfl rfl rfl rfl fun w_15 b_16 x_17 l_18 B_19 => ?_
  have q_20 := x_17.size
  have z_15 := Ext.tr z_8 x_17
  have q_21 := B_19.lt
  refine bx rfl rfl rfl rfl fun w_22 b_23 x_24 l_25 B_26 => ?_
  have q_27 := x_24.size
  have z_22 := Ext.tr z_15 x_24
  have q_28 := B_26.lt
  refine vl (as_ rfl) rfl <| nl <| nT <| sq <| rg <| ?_
  have B_5 := B_5.later (Ext.tr x_10 (Ext.tr x_17 x_24))
  refine vl (ld rfl (B_5.all Plp_ag_api_Field Plp_sz_api_Field)) rfl <| ?_
  have B_12 := B_12.later (Ext.tr x_17 x_24)
  refine vl (ld rfl (B_12.all Plp_ag_api_Cell Plp_sz_api_Cell)) rfl <| ?_
  have B_19 := B_19.later x_24
  refine vl (ld rfl (B_19.all Plp_ag_api_Cell Plp_sz_api_Cell)) rfl <| ca Plp_en_path_Find rfl rfl ((pfind_any f a b _ _ _ (hP.keep z_22)).mono ?_)
  rintro e w_32 ⟨A_29, c_29, rfl, OP_29, x_33⟩
  refine ⟨_, rfl, ?_⟩
  have q_34 := x_33.size
  have z_32 := Ext.tr z_22 x_33
  have u_30 := fun q hq => (OP_29.lt q hq).2
  have lo_31 := fun q hq => (OP_29.lt q hq).1
  have hcp_29 := OP_29.has.1
  refine vl (mv rfl) rfl <| vl (ex rfl rfl) rfl <| vl (ex rfl rfl) rfl <| vl (ex rfl rfl) rfl <| vl (as_ rfl) rfl <| vl (as_ rfl) rfl <| vl (as_ rfl) rfl <| nl <| nT <| sq <| sq <| rg <| ca Plp_en_mustkeep_pathLives rfl rfl ((pathLives_any _).mono ?_)
  rintro e w_35 ⟨rfl, x_36⟩
  refine ⟨_, rfl, ?_⟩
  have q_37 := x_36.size
  have z_35 := Ext.tr z_32 x_36
  refine vl (nt rfl) rfl <| vl (mv rfl) rfl <| ug rfl rfl rfl <| vl (mv rfl) rfl <| ug rfl rfl rfl <| vl (bne rfl rfl) rfl <| vl (pkF rfl (evb rfl kE)) rfl <| nl <| nT <| cF rfl <| sk <| nT <| sq <| rg <| ?_
  have B_5 := B_5.later (Ext.tr x_33 x_36)
  refine vl (ld rfl (B_5.all Plp_ag_api_Field Plp_sz_api_Field)) rfl <| ?_
  have B_12 := B_12.later (Ext.tr x_33 x_36)
  refine vl (ld rfl (B_12.all Plp_ag_api_Cell Plp_sz_api_Cell)) rfl <| ?_
  have B_26 := B_26.later (Ext.tr x_33 x_36)
  refine vl (ld rfl (B_26.all Plp_ag_api_Cell Plp_sz_api_Cell)) rfl <| ca Plp_en_path_Far rfl rfl ((pfar_any f a c _ _ _ (hP.keep z_35)).mono ?_)
  rintro e w_38 ⟨rfl, x_39⟩
  refine ⟨_, rfl, ?_⟩
  have q_40 := x_39.size
  have z_38 := Ext.tr z_35 x_39
  refine vl (mv rfl) rfl <| vl (ex rfl rfl) rfl <| vl (ex rfl rfl) rfl <| vl (as_ rfl) rfl <| vl (as_ rfl) rfl <| nl <| nT <| sq <| rg <| ?_
  have B_5 := B_5.later x_39
  refine vl (ld rfl (B_5.all Plp_ag_api_Field Plp_sz_api_Field)) rfl <| ?_
  have B_26 := B_26.later x_39
  refine vl (ld rfl (B_26.all Plp_ag_api_Cell Plp_sz_api_Cell)) rfl <| ?_
  have B_19 := B_19.later (Ext.tr x_33 (Ext.tr x_36 x_39))
  refine vl (ld rfl (B_19.all Plp_ag_api_Cell Plp_sz_api_Cell)) rfl <| ca Plp_en_path_Far rfl rfl ((pfar_any f c b _ _ _ (hP.keep z_38)).mono ?_)
  rintro e w_41 ⟨rfl, x_42⟩
  refine ⟨_, rfl, ?_⟩
  have q_43 := x_42.size
  have z_41 := Ext.tr z_38 x_42
  refine vl (mv rfl) rfl <| vl (ex rfl rfl) rfl <| vl (ex rfl rfl) rfl <| vl (as_ rfl) rfl <| vl (as_ rfl) rfl <| nl <| nT <| sq <| sq <| rg <| vl (mv rfl) rfl <| vl (beq rfl rfl) rfl <| vl (mv (evb rfl kg)) rfl <| ug rfl rfl rfl <| vl (mv rfl) rfl <| ug rfl rfl rfl <| vl (bne rfl rfl) rfl <| ug rfl rfl rfl <| vl (mv (evb rfl kh)) rfl <| ug rfl rfl rfl <| vl (mv rfl) rfl <| ug rfl rfl rfl <| vl (mv rfl) rfl <| ug rfl rfl rfl <| ?_
  refine vl (bad rfl rfl (inI (by omega))) rfl <| ug rfl rfl rfl <| vl (mv rfl) rfl <| ug rfl rfl rfl <| vl (blt rfl rfl) rfl <| ug rfl rfl rfl <| vl (pkF rfl rfl) rfl <| vl (pkT rfl rfl) rfl <| nl <| nT <| ?_
  have h_44 : (decide ((findK f a c) + (findK f c b) < findK f a b)) = false := by exact decide_eq_false (by omega)
  refine cF (by rw [← h_44]; rfl) <| sk <| nT <| sq <| sq <| rg <| vl (mv rfl) rfl <| vl (blt rfl rfl) rfl <| vl (mv rfl) rfl <| vQ rfl rfl rfl rfl (fun hc => mv rfl) rfl <| vQ rfl rfl rfl rfl (fun hc => mv rfl) rfl <| vQ rfl rfl rfl rfl (fun hc => ln Try.underlying25 (gt hc rfl)) rfl <| vQ rfl rfl rfl rfl (fun hc => bge (gt hc rfl) (gt hc rfl)) rfl <| vl (pO rfl rfl rfl rfl) rfl <| nl <| nT <| ?_
  have h_45 : ((decide (n < 0)) || (decide ((((findP f a b).length : Nat) : Int) ≤ n))) = true := by rw [Bool.or_eq_true, decide_eq_true_eq, decide_eq_true_eq]; omega
  refine cT (by rw [← h_45]; rfl) <| sq <| rg <| vl (as_ rfl) rfl <| nl <| nT <| rt <| tT <| tR (.tmp rfl .nil) <| ?_
  exact ⟨rfl, z_41⟩
set_option maxRecDepth 100000 in
set_option maxHeartbeats 1000000 in
theorem pathPart_01 (f : Fld) (a b c : Cel) (n : Int) (P : Option Addr) (pc : Nat) (pt : Cel) (w : World) (hP : repI.SHas 8 w P pc f.places) (he : findE f a b = 0) (hg : findE f a c ≠ 0) (hn0 : 0 ≤ n) (hn1 : n < ((findP f a b).length : Int)) (hx : (findP f a b).getD n.toNat default = pt) :
    Calls Try.prog 6 #[.agg #[.int .i64 f.wide, .int .i64 f.high, .slice P f.places.length pc], .agg #[.int .i64 a.x, .int .i64 a.y], .agg #[.int .i64 b.x, .int .i64 b.y], .agg #[.int .i64 c.x, .int .i64 c.y], .int .i64 n] w (fun e w' => e = .returned (.bool true) ∧ Ext w w') := by
  have kE : (findE f a b != 0) = false := by simpa using he
  obtain ⟨hf, ga, gb, h0, hk, hp⟩ := find_dat he
  have hbd := (frF_dst hf ga h0).bd hf ga
  have hl16 := Fld.len_le hf
  obtain ⟨hn_, hlen, hgr⟩ := findP_once he
  have kg : (findE f a c == 0) = false := by simpa using hg
  obtain ⟨hx1, hx2, hx3, hx4⟩ := way_part he (n := n.toNat) (by omega) hx
  have hxg : (findP f a b)[n.toNat]? = some pt := by rw [← hx]; exact get_d (by omega)
  obtain ⟨_, _, gx, x0_, xk_, _⟩ := find_dat hx1
  obtain ⟨_, _, _, y0_, yk_, _⟩ := find_dat hx2
  have hbd4 := (frF_dst hf ga x0_).bd hf ga
  have hbd5 := (frF_dst hf gx y0_).bd hf gx
  refine calls_W (n := 115) Try.func6 rfl rfl rfl ?_
  refine sq <| rg <| bx rfl rfl rfl rfl fun w_1 b_2 x_3 l_4 B_5 => ?_
  have q_6 := x_3.size
  have z_1 := Ext.tr (Ext.rf w) x_3
  have q_7 := B_5.lt
  refine bx rfl rfl rfl rfl fun w_8 b_9 x_10 l_11 B_12 => ?_
  have q_13 := x_10.size
  have z_8 := Ext.tr z_1 x_10
  have q_14 := B_12.lt
  refine bx rfl rfl rfl rfl fun w_15 b_16 x_17 l_18 B_19 => ?_
  have q_20 := x_17.size
  have z_15 := Ext.tr z_8 x_17
  have q_21 := B_19.lt
  refine bx rfl rfl rfl rfl fun w_22 b_23 x_24 l_25 B_26 => ?_
  have q_27 := x_24.size
  have z_22 := Ext.tr z_15 x_24
  have q_28 := B_26.lt
  refine vl (as_ rfl) rfl <| nl <| nT <| sq <| rg <| ?_
  have B_5 := B_5.later (Ext.tr x_10 (Ext.tr x_17 x_24))
  refine vl (ld rfl (B_5.all Plp_ag_api_Field Plp_sz_api_Field)) rfl <| ?_
  have B_12 := B_12.later (Ext.tr x_17 x_24)
  refine vl (ld rfl (B_12.all Plp_ag_api_Cell Plp_sz_api_Cell)) rfl <| ?_
  have B_19 := B_19.later x_24
  refine vl (ld rfl (B_19.all Plp_ag_api_Cell Plp_sz_api_Cell)) rfl <| ca Plp_en_path_Find rfl rfl ((pfind_any f a b _ _ _ (hP.keep z_22)).mono ?_)
  rintro e w_32 ⟨A_29, c_29, rfl, OP_29, x_33⟩
  refine ⟨_, rfl, ?_⟩
  have q_34 := x_33.size
  have z_32 := Ext.tr z_22 x_33
  have u_30 := fun q hq => (OP_29.lt q hq).2
  have lo_31 := fun q hq => (OP_29.lt q hq).1
  have hcp_29 := OP_29.has.1
  refine vl (mv rfl) rfl <| vl (ex rfl rfl) rfl <| vl (ex rfl rfl) rfl <| vl (ex rfl rfl) rfl <| vl (as_ rfl) rfl <| vl (as_ rfl) rfl <| vl (as_ rfl) rfl <| nl <| nT <| sq <| sq <| rg <| ca Plp_en_mustkeep_pathLives rfl rfl ((pathLives_any _).mono ?_)
  rintro e w_35 ⟨rfl, x_36⟩
  refine ⟨_, rfl, ?_⟩
  have q_37 := x_36.size
  have z_35 := Ext.tr z_32 x_36
  refine vl (nt rfl) rfl <| vl (mv rfl) rfl <| ug rfl rfl rfl <| vl (mv rfl) rfl <| ug rfl rfl rfl <| vl (bne rfl rfl) rfl <| vl (pkF rfl (evb rfl kE)) rfl <| nl <| nT <| cF rfl <| sk <| nT <| sq <| rg <| ?_
  have B_5 := B_5.later (Ext.tr x_33 x_36)
  refine vl (ld rfl (B_5.all Plp_ag_api_Field Plp_sz_api_Field)) rfl <| ?_
  have B_12 := B_12.later (Ext.tr x_33 x_36)
  refine vl (ld rfl (B_12.all Plp_ag_api_Cell Plp_sz_api_Cell)) rfl <| ?_
  have B_26 := B_26.later (Ext.tr x_33 x_36)
  refine vl (ld rfl (B_26.all Plp_ag_api_Cell Plp_sz_api_Cell)) rfl <| ca Plp_en_path_Far rfl rfl ((pfar_any f a c _ _ _ (hP.keep z_35)).mono ?_)
  rintro e w_38 ⟨rfl, x_39⟩
  refine ⟨_, rfl, ?_⟩
  have q_40 := x_39.size
  have z_38 := Ext.tr z_35 x_39
  refine vl (mv rfl) rfl <| vl (ex rfl rfl) rfl <| vl (ex rfl rfl) rfl <| vl (as_ rfl) rfl <| vl (as_ rfl) rfl <| nl <| nT <| sq <| rg <| ?_
  have B_5 := B_5.later x_39
  refine vl (ld rfl (B_5.all Plp_ag_api_Field Plp_sz_api_Field)) rfl <| ?_
  have B_26 := B_26.later x_39
  refine vl (ld rfl (B_26.all Plp_ag_api_Cell Plp_sz_api_Cell)) rfl <| ?_
  have B_19 := B_19.later (Ext.tr x_33 (Ext.tr x_36 x_39))
  refine vl (ld rfl (B_19.all Plp_ag_api_Cell Plp_sz_api_Cell)) rfl <| ca Plp_en_path_Far rfl rfl ((pfar_any f c b _ _ _ (hP.keep z_38)).mono ?_)
  rintro e w_41 ⟨rfl, x_42⟩
  refine ⟨_, rfl, ?_⟩
  have q_43 := x_42.size
  have z_41 := Ext.tr z_38 x_42
  refine vl (mv rfl) rfl <| vl (ex rfl rfl) rfl <| vl (ex rfl rfl) rfl <| vl (as_ rfl) rfl <| vl (as_ rfl) rfl <| nl <| nT <| sq <| sq <| rg <| vl (mv rfl) rfl <| vl (beq rfl rfl) rfl <| vl (mv (evb rfl kg)) rfl <| vQ (v := undef) rfl rfl rfl rfl (fun hc => nomatch hc) rfl <| vQ (v := undef) rfl rfl rfl rfl (fun hc => nomatch hc) rfl <| vQ (v := undef) rfl rfl rfl rfl (fun hc => nomatch hc) rfl <| vU rfl rfl rfl rfl rfl <| vU rfl rfl rfl rfl rfl <| vU rfl rfl rfl rfl rfl <| vU rfl rfl rfl rfl rfl <| vU rfl rfl rfl rfl rfl <| vQ (v := undef) rfl rfl rfl rfl (fun hc => nomatch hc) rfl <| vl (pkF rfl rfl) rfl <| nl <| ?_
  refine nT <| cF rfl <| sk <| nT <| sq <| sq <| rg <| vl (mv rfl) rfl <| vl (blt rfl rfl) rfl <| vl (mv rfl) rfl <| vQ rfl rfl rfl rfl (fun hc => mv rfl) rfl <| vQ rfl rfl rfl rfl (fun hc => mv rfl) rfl <| vQ rfl rfl rfl rfl (fun hc => ln Try.underlying25 (gt hc rfl)) rfl <| vQ rfl rfl rfl rfl (fun hc => bge (gt hc rfl) (gt hc rfl)) rfl <| vl (pO rfl rfl rfl rfl) rfl <| nl <| nT <| ?_
  have h_44 : ((decide (n < 0)) || (decide ((((findP f a b).length : Nat) : Int) ≤ n))) = false := by rw [Bool.or_eq_false_iff]; exact ⟨decide_eq_false (by omega), decide_eq_false (by omega)⟩
  refine cF (by rw [← h_44]; rfl) <| sk <| nT <| sq <| ?_
  refine rd [(0, 0), (1, 0), (5, 0), (6, 2)] [0, 1, 2, 3, 4, 5, 6, 7, 8, 9, 10, 11, 12, 13] (by kernel_rfl) (by kernel_rfl) ?_
  have B_5 := B_5.later x_42
  refine fq rfl rfl (fun _ x => ld rfl ((B_5.later x).all Plp_ag_api_Field Plp_sz_api_Field)) rfl <| ?_
  have B_12 := B_12.later (Ext.tr x_39 x_42)
  refine fq rfl rfl (fun _ x => ld rfl ((B_12.later x).all Plp_ag_api_Cell Plp_sz_api_Cell)) rfl <| fw rfl rfl (fun _ => mv rfl) rfl <| fw rfl rfl (fun _ => mv rfl) rfl <| ?_
  have OP_29 := OP_29.later (Ext.tr x_36 (Ext.tr x_39 x_42))
  refine fw rfl rfl (fun _ => iA n.toNat Try.underlying25 Plp_sz_api_Cell rfl rfl (OP_29.has.adr (Nat.zero_lt_of_lt (show n.toNat < _ from (by omega)))) (by omega) (by omega)) rfl <| fq rfl rfl (fun _ x => ld rfl (Rep.SHas.elt hcC ((OP_29.later x).has.adh (Nat.zero_lt_of_lt (show n.toNat < _ from (by omega)))) hxg Plp_ag_api_Cell Plp_sz_api_Cell)) rfl <| fx rfl rfl rfl fun w_45 x_46 Q hK => ca Plp_en_path_Find rfl rfl ((pfind_any f a pt _ _ _ (hP.keep (Ext.tr z_41 x_46))).mono ?_)
  rintro e w_50 ⟨A_47, c_47, rfl, OP_47, x_51⟩
  refine ⟨_, rfl, hK _ _ ⟨Ext.tr x_46 x_51, ?_⟩⟩
  have q_52 := x_46.size
  have z_45 := Ext.tr z_41 x_46
  have q_53 := x_51.size
  have z_50 := Ext.tr z_45 x_51
  have u_48 := fun q hq => (OP_47.lt q hq).2
  have lo_49 := fun q hq => (OP_47.lt q hq).1
  have hcp_47 := OP_47.has.1
  refine fw rfl rfl (fun _ => mv rfl) rfl <| fw rfl rfl (fun _ => ex rfl rfl) rfl <| fw rfl rfl (fun _ => ex rfl rfl) rfl <| fw rfl rfl (fun _ => ex rfl rfl) rfl <| fw rfl rfl (fun _ => as_ rfl) rfl <| fw rfl rfl (fun _ => as_ rfl) rfl <| fw rfl rfl (fun _ => as_ rfl) rfl <| fn fun w_54 x_55 => ?_
  have q_56 := x_55.size
  have z_54 := Ext.tr z_50 x_55
  refine nT <| sq <| ?_
  refine rd [(0, 0), (4, 0), (5, 0), (6, 0)] [0, 1, 2, 3, 4, 5, 6, 7, 8, 9, 10, 11] (by kernel_rfl) (by kernel_rfl) ?_
  have B_5 := B_5.later (Ext.tr x_46 (Ext.tr x_51 x_55))
  refine fq rfl rfl (fun _ x => ld rfl ((B_5.later x).all Plp_ag_api_Field Plp_sz_api_Field)) rfl <| fw rfl rfl (fun _ => mv rfl) rfl <| fw rfl rfl (fun _ => mv rfl) rfl <| ?_
  have OP_29 := OP_29.later (Ext.tr x_46 (Ext.tr x_51 x_55))
  refine fw rfl rfl (fun _ => iA n.toNat Try.underlying25 Plp_sz_api_Cell rfl rfl (OP_29.has.adr (Nat.zero_lt_of_lt (show n.toNat < _ from (by omega)))) (by omega) (by omega)) rfl <| fq rfl rfl (fun _ x => ld rfl (Rep.SHas.elt hcC ((OP_29.later x).has.adh (Nat.zero_lt_of_lt (show n.toNat < _ from (by omega)))) hxg Plp_ag_api_Cell Plp_sz_api_Cell)) rfl <| ?_
  have B_19 := B_19.later (Ext.tr x_42 (Ext.tr x_46 (Ext.tr x_51 x_55)))
  refine fq rfl rfl (fun _ x => ld rfl ((B_19.later x).all Plp_ag_api_Cell Plp_sz_api_Cell)) rfl <| fc rfl rfl Plp_en_path_Far rfl (fun _ x => pfar_any f pt b _ _ _ (hP.keep (Ext.tr z_54 x))) rfl <| fw rfl rfl (fun _ => mv rfl) rfl <| fw rfl rfl (fun _ => ex rfl rfl) rfl <| fw rfl rfl (fun _ => ex rfl rfl) rfl <| fw rfl rfl (fun _ => as_ rfl) rfl <| fw rfl rfl (fun _ => as_ rfl) rfl <| fn fun w_57 x_58 => ?_
  have q_59 := x_58.size
  have z_57 := Ext.tr z_54 x_58
  refine nT <| sq <| rg <| vl (mv rfl) rfl <| vl (beq rfl rfl) rfl <| vl (mv rfl) rfl <| vQ rfl rfl rfl rfl (fun hc => mv rfl) rfl <| vQ rfl rfl rfl rfl (fun hc => beq (gt hc rfl) rfl) rfl <| vl (pA rfl rfl rfl rfl) rfl <| vl (mv rfl) rfl <| vQ rfl rfl rfl rfl (fun hc => mv rfl) rfl <| vQ rfl rfl rfl rfl (fun hc => mv rfl) rfl <| vQ rfl rfl rfl rfl (fun hc => mv rfl) rfl <| vQ rfl rfl rfl rfl (fun hc => bad (gt hc rfl) rfl (inI (by (try simp only [Bool.or_eq_true, Bool.or_eq_false_iff, Bool.and_eq_true, Bool.and_eq_false_iff, decide_eq_true_eq, decide_eq_false_iff_not, beq_iff_eq, bne_iff_ne, beq_eq_false_iff_ne, bne_eq_false_iff_eq, Bool.not_eq_true', Bool.not_eq_false', Bool.not_eq_true, Bool.not_eq_false, Int.not_lt, Int.not_le, Nat.not_lt, Nat.not_le, ne_eq, Classical.not_not] at hc); omega))) rfl <| vQ rfl rfl rfl rfl (fun hc => sP (n.toNat + 1) ((findP f a b).take (n.toNat + 1)).length Try.underlying25 Plp_sz_api_Cell (gt hc rfl) (gt hc rfl) (by omega) (by omega) (by rw [List.length_take]; omega)) rfl <| ?_
  have OP_47 := OP_47.later (Ext.tr x_55 x_58)
  have OP_29 := OP_29.later x_58
  refine vC rfl rfl rfl rfl Plp_en_slices_Equal_S_api_Cell_api_Cell_ (fun hc => ec (gt hc rfl) (ec (gt hc rfl) rfl)) (fun hc => equal_C _ _ _ _ _ _ (findP f a pt) ((findP f a b).take (n.toNat + 1)) _ OP_47.has (OP_29.has.pre (n.toNat + 1))) rfl fun w_60 x_61 => ?_
  have q_62 := x_61.size
  have z_60 := Ext.tr z_57 x_61
  refine vl (pA rfl rfl rfl rfl) rfl <| vl (mv rfl) rfl <| vQ rfl rfl rfl rfl (fun hc => mv rfl) rfl <| vQ rfl rfl rfl rfl (fun hc => mv rfl) rfl <| vQ rfl rfl rfl rfl (fun hc => bad (gt hc rfl) (gt hc rfl) (inI (by (try simp only [Bool.or_eq_true, Bool.or_eq_false_iff, Bool.and_eq_true, Bool.and_eq_false_iff, decide_eq_true_eq, decide_eq_false_iff_not, beq_iff_eq, bne_iff_ne, beq_eq_false_iff_ne, bne_eq_false_iff_eq, Bool.not_eq_true', Bool.not_eq_false', Bool.not_eq_true, Bool.not_eq_false, Int.not_lt, Int.not_le, Nat.not_lt, Nat.not_le, ne_eq, Classical.not_not] at hc); omega))) rfl <| vQ rfl rfl rfl rfl (fun hc => mv rfl) rfl <| vQ rfl rfl rfl rfl (fun hc => beq (gt hc rfl) (gt hc rfl)) rfl <| vl (pA rfl rfl rfl rfl) rfl <| vl (as_ rfl) rfl <| nl <| nT <| rt <| tR (.tmp rfl .nil) <| ?_
  exact ⟨ret_true (by rw [hx1, hx2]; simp [hx3, hx4]), z_60⟩
set_option maxRecDepth 100000 in
set_option maxHeartbeats 1000000 in
theorem pathPart_00 (f : Fld) (a b c : Cel) (n : Int) (P : Option Addr) (pc : Nat) (w : World) (hP : repI.SHas 8 w P pc f.places) (he : findE f a b = 0) (hg : findE f a c ≠ 0) (hn0 : n < 0 ∨ ((findP f a b).length : Int) ≤ n) :
    Calls Try.prog 6 #[.agg #[.int .i64 f.wide, .int .i64 f.high, .slice P f.places.length pc], .agg #[.int .i64 a.x, .int .i64 a.y], .agg #[.int .i64 b.x, .int .i64 b.y], .agg #[.int .i64 c.x, .int .i64 c.y], .int .i64 n] w (fun e w' => e = .returned (.bool true) ∧ Ext w w') := by
  have kE : (findE f a b != 0) = false := by simpa using he
  obtain ⟨hf, ga, gb, h0, hk, hp⟩ := find_dat he
  have hbd := (frF_dst hf ga h0).bd hf ga
  have hl16 := Fld.len_le hf
  obtain ⟨hn_, hlen, hgr⟩ := findP_once he
  have kg : (findE f a c == 0) = false := by simpa using hg
  refine calls_W (n := 115) Try.func6 rfl rfl rfl ?_
  refine sq <| rg <| bx rfl rfl rfl rfl fun w_1 b_2 x_3 l_4 B_5 => ?_
  have q_6 := x_3.size
  have z_1 := Ext.tr (Ext.rf w) x_3
  have q_7 := B_5.lt
  refine bx rfl rfl rfl rfl fun w_8 b_9 x_10 l_11 B_12 => ?_
  have q_13 := x_10.size
  have z_8 := Ext.tr z_1 x_10
  have q_14 := B_12.lt
  refine bx rfl rfl rfl rfl fun w_15 b_16 x_17 l_18 B_19 => ?_
  have q_20 := x_17.size
  have z_15 := Ext.tr z_8 x_17
  have q_21 := B_19.lt
  refine bx rfl rfl rfl rfl fun w_22 b_23 x_24 l_25 B_26 => ?_
  have q_27 := x_24.size
  have z_22 := Ext.tr z_15 x_24
  have q_28 := B_26.lt
  refine vl (as_ rfl) rfl <| nl <| nT <| sq <| rg <| ?_
  have B_5 := B_5.later (Ext.tr x_10 (Ext.tr x_17 x_24))
  refine vl (ld rfl (B_5.all Plp_ag_api_Field Plp_sz_api_Field)) rfl <| ?_
  have B_12 := B_12.later (Ext.tr x_17 x_24)
  refine vl (ld rfl (B_12.all Plp_ag_api_Cell Plp_sz_api_Cell)) rfl <| ?_
  have B_19 := B_19.later x_24
  refine vl (ld rfl (B_19.all Plp_ag_api_Cell Plp_sz_api_Cell)) rfl <| ca Plp_en_path_Find rfl rfl ((pfind_any f a b _ _ _ (hP.keep z_22)).mono ?_)
  rintro e w_32 ⟨A_29, c_29, rfl, OP_29, x_33⟩
  refine ⟨_, rfl, ?_⟩
  have q_34 := x_33.size
  have z_32 := Ext.tr z_22 x_33
  have u_30 := fun q hq => (OP_29.lt q hq).2
  have lo_31 := fun q hq => (OP_29.lt q hq).1
  have hcp_29 := OP_29.has.1
  refine vl (mv rfl) rfl <| vl (ex rfl rfl) rfl <| vl (ex rfl rfl) rfl <| vl (ex rfl rfl) rfl <| vl (as_ rfl) rfl <| vl (as_ rfl) rfl <| vl (as_ rfl) rfl <| nl <| nT <| sq <| sq <| rg <| ca Plp_en_mustkeep_pathLives rfl rfl ((pathLives_any _).mono ?_)
  rintro e w_35 ⟨rfl, x_36⟩
  refine ⟨_, rfl, ?_⟩
  have q_37 := x_36.size
  have z_35 := Ext.tr z_32 x_36
  refine vl (nt rfl) rfl <| vl (mv rfl) rfl <| ug rfl rfl rfl <| vl (mv rfl) rfl <| ug rfl rfl rfl <| vl (bne rfl rfl) rfl <| vl (pkF rfl (evb rfl kE)) rfl <| nl <| nT <| cF rfl <| sk <| nT <| sq <| rg <| ?_
  have B_5 := B_5.later (Ext.tr x_33 x_36)
  refine vl (ld rfl (B_5.all Plp_ag_api_Field Plp_sz_api_Field)) rfl <| ?_
  have B_12 := B_12.later (Ext.tr x_33 x_36)
  refine vl (ld rfl (B_12.all Plp_ag_api_Cell Plp_sz_api_Cell)) rfl <| ?_
  have B_26 := B_26.later (Ext.tr x_33 x_36)
  refine vl (ld rfl (B_26.all Plp_ag_api_Cell Plp_sz_api_Cell)) rfl <| ca Plp_en_path_Far rfl rfl ((pfar_any f a c _ _ _ (hP.keep z_35)).mono ?_)
  rintro e w_38 ⟨rfl, x_39⟩
  refine ⟨_, rfl, ?_⟩
  have q_40 := x_39.size
  have z_38 := Ext.tr z_35 x_39
  refine vl (mv rfl) rfl <| vl (ex rfl rfl) rfl <| vl (ex rfl rfl) rfl <| vl (as_ rfl) rfl <| vl (as_ rfl) rfl <| nl <| nT <| sq <| rg <| ?_
  have B_5 := B_5.later x_39
  refine vl (ld rfl (B_5.all Plp_ag_api_Field Plp_sz_api_Field)) rfl <| ?_
  have B_26 := B_26.later x_39
  refine vl (ld rfl (B_26.all Plp_ag_api_Cell Plp_sz_api_Cell)) rfl <| ?_
  have B_19 := B_19.later (Ext.tr x_33 (Ext.tr x_36 x_39))
  refine vl (ld rfl (B_19.all Plp_ag_api_Cell Plp_sz_api_Cell)) rfl <| ca Plp_en_path_Far rfl rfl ((pfar_any f c b _ _ _ (hP.keep z_38)).mono ?_)
  rintro e w_41 ⟨rfl, x_42⟩
  refine ⟨_, rfl, ?_⟩
  have q_43 := x_42.size
  have z_41 := Ext.tr z_38 x_42
  refine vl (mv rfl) rfl <| vl (ex rfl rfl) rfl <| vl (ex rfl rfl) rfl <| vl (as_ rfl) rfl <| vl (as_ rfl) rfl <| nl <| nT <| sq <| sq <| rg <| vl (mv rfl) rfl <| vl (beq rfl rfl) rfl <| vl (mv (evb rfl kg)) rfl <| vQ (v := undef) rfl rfl rfl rfl (fun hc => nomatch hc) rfl <| vQ (v := undef) rfl rfl rfl rfl (fun hc => nomatch hc) rfl <| vQ (v := undef) rfl rfl rfl rfl (fun hc => nomatch hc) rfl <| vU rfl rfl rfl rfl rfl <| vU rfl rfl rfl rfl rfl <| vU rfl rfl rfl rfl rfl <| vU rfl rfl rfl rfl rfl <| vU rfl rfl rfl rfl rfl <| vQ (v := undef) rfl rfl rfl rfl (fun hc => nomatch hc) rfl <| vl (pkF rfl rfl) rfl <| nl <| ?_
  refine nT <| cF rfl <| sk <| nT <| sq <| sq <| rg <| vl (mv rfl) rfl <| vl (blt rfl rfl) rfl <| vl (mv rfl) rfl <| vQ rfl rfl rfl rfl (fun hc => mv rfl) rfl <| vQ rfl rfl rfl rfl (fun hc => mv rfl) rfl <| vQ rfl rfl rfl rfl (fun hc => ln Try.underlying25 (gt hc rfl)) rfl <| vQ rfl rfl rfl rfl (fun hc => bge (gt hc rfl) (gt hc rfl)) rfl <| vl (pO rfl rfl rfl rfl) rfl <| nl <| nT <| ?_
  have h_44 : ((decide (n < 0)) || (decide ((((findP f a b).length : Nat) : Int) ≤ n))) = true := by rw [Bool.or_eq_true, decide_eq_true_eq, decide_eq_true_eq]; omega
  refine cT (by rw [← h_44]; rfl) <| sq <| rg <| vl (as_ rfl) rfl <| nl <| nT <| rt <| tT <| tR (.tmp rfl .nil) <| ?_
  exact ⟨rfl, z_41⟩
theorem pathPart_any (c0 : Array Value) (c1 : Array Value) (c2 : Array Value) (c3 : Array Value) (a4 : Int) (w : World) (h0 : (.cons (.int .i64) (.cons (.int .i64) (.cons (.slice (.int .i64) 8) .nil)) : Sh).Ok w c0.toList) (h1 : (.cons (.int .i64) (.cons (.int .i64) .nil) : Sh).Ok w c1.toList) (h2 : (.cons (.int .i64) (.cons (.int .i64) .nil) : Sh).Ok w c2.toList) (h3 : (.cons (.int .i64) (.cons (.int .i64) .nil) : Sh).Ok w c3.toList) (w4 : (Lit.int .i64 a4).wf = true) :
    Calls Try.prog 6 #[.agg c0, .agg c1, .agg c2, .agg c3, .int .i64 a4] w fun e w' => e = .returned (.bool true) ∧ Below w.heap.size w w' := by
  obtain ⟨f, A, cp, e0, hP, hkw, hkh⟩ := Fld.opens w _ (show Wd.fsh.Ok w c0.toList from h0)
  have hc : c0 = #[.int .i64 f.wide, .int .i64 f.high, .slice A f.places.length cp] := by rw [← e0]
  subst hc
  obtain ⟨a, e1⟩ := Cel.opens_v w _ (show Cel.sh.Ok w c1.toList from h1)
  have hc1 : c1 = #[.int .i64 a.x, .int .i64 a.y] := by rw [← e1]
  subst hc1
  obtain ⟨b, e2⟩ := Cel.opens_v w _ (show Cel.sh.Ok w c2.toList from h2)
  have hc2 : c2 = #[.int .i64 b.x, .int .i64 b.y] := by rw [← e2]
  subst hc2
  obtain ⟨c, e3⟩ := Cel.opens_v w _ (show Cel.sh.Ok w c3.toList from h3)
  have hc3 : c3 = #[.int .i64 c.x, .int .i64 c.y] := by rw [← e3]
  subst hc3
  by_cases he : findE f a b = 0
  · by_cases hg : findE f a c = 0
    · by_cases hn : 0 ≤ a4 ∧ a4 < ((findP f a b).length : Int)
      · exact pathPart_11 f a b c a4 A cp _ w hP he hg hn.1 hn.2 rfl
      · exact pathPart_10 f a b c a4 A cp w hP he hg (by omega)
    · by_cases hn : 0 ≤ a4 ∧ a4 < ((findP f a b).length : Int)
      · exact pathPart_01 f a b c a4 A cp _ w hP he hg hn.1 hn.2 rfl
      · exact pathPart_00 f a b c a4 A cp w hP he hg (by omega)
  · exact pathPart_bad f a b c a4 A cp w hP he
end Go.Proofs.Ytffjpfpbpnhmcaa
