/-
  PathOnce. (Printed by bin/pathlaw2.py.)
-/
import Derived.Test.YtffjpfpbpnhmcaaPlv
import Derived.Test.YtffjpfpbpnhmcaaPlw
import Derived.Test.YtffjpfpbpnhmcaaSigP
set_option linter.unusedVariables false
set_option linter.unusedSimpArgs false
namespace Go.Proofs.Ytffjpfpbpnhmcaa
open Go.RowKit

theorem Plo_ag_api_Field : Ag Try.prog 24 true := fun _ => by kernel_rfl
theorem Plo_sz_api_Field : Sz Try.prog 24 3 := fun _ => by kernel_rfl
theorem Plo_ag_api_Cell : Ag Try.prog 32 true := fun _ => by kernel_rfl
theorem Plo_sz_api_Cell : Sz Try.prog 32 2 := fun _ => by kernel_rfl
theorem Plo_en_path_Find : Enters Try.prog 20 := en Try.func20 (by kernel_rfl) (by kernel_rfl)
theorem Plo_en_mustkeep_pathLives : Enters Try.prog 21 := en Try.func21 (by kernel_rfl) (by kernel_rfl)
theorem Plo_zv_api_Cell : Zv Try.prog 32 (.agg #[.int .i64 0, .int .i64 0]) := fun _ => by kernel_rfl
theorem Plo_en_slices_Contains_S_api_Cell_api_Cell_ : Enters Try.prog 24 := en Try.func24 (by kernel_rfl) (by kernel_rfl)
theorem Plo_fd_api_Field_2 : Fd Try.prog 24 2 2 := fun _ _ _ => by kernel_rfl
theorem Plo_ag_S_int : Ag Try.prog 22 false := fun _ => by kernel_rfl
set_option maxRecDepth 100000 in
set_option maxHeartbeats 400000 in
theorem pathOnce_bad (f : Fld) (a b : Cel) (P : Option Addr) (pc : Nat) (w : World) (hP : repI.SHas 8 w P pc f.places) (he : findE f a b ≠ 0) :
    Calls Try.prog 7 #[.agg #[.int .i64 f.wide, .int .i64 f.high, .slice P f.places.length pc], .agg #[.int .i64 a.x, .int .i64 a.y], .agg #[.int .i64 b.x, .int .i64 b.y]] w (fun e w' => e = .returned (.bool true) ∧ Ext w w') := by
  have kE : (findE f a b != 0) = true := by simpa using he
  refine calls_W (n := 46) Try.func7 rfl rfl rfl ?_
  refine sq <| rg <| bx rfl rfl rfl rfl fun w_1 b_2 x_3 l_4 B_5 => ?_
  have q_6 := x_3.size
  have z_1 := Ext.tr (Ext.rf w) x_3
  have q_7 := B_5.lt
  refine bx rfl rfl rfl rfl fun w_8 b_9 x_10 l_11 B_12 => ?_
  have q_13 := x_10.size
  have z_8 := Ext.tr z_1 x_10
  have q_14 := B_12.lt
  refine bx rfl rfl rfl rfl fun w_15 b_16 x_17 l_18 B_19 => ?_
  have q_20 := x_17.size
  have z_15 := Ext.tr z_8 x_17
  have q_21 := B_19.lt
  refine vl (as_ rfl) rfl <| nl <| nT <| sq <| rg <| ?_
  have B_5 := B_5.later (Ext.tr x_10 x_17)
  refine vl (ld rfl (B_5.all Plo_ag_api_Field Plo_sz_api_Field)) rfl <| ?_
  have B_12 := B_12.later x_17
  refine vl (ld rfl (B_12.all Plo_ag_api_Cell Plo_sz_api_Cell)) rfl <| vl (ld rfl (B_19.all Plo_ag_api_Cell Plo_sz_api_Cell)) rfl <| ca Plo_en_path_Find rfl rfl ((pfind_any f a b _ _ _ (hP.keep z_15)).mono ?_)
  rintro e w_25 ⟨A_22, c_22, rfl, OP_22, x_26⟩
  refine ⟨_, rfl, ?_⟩
  have q_27 := x_26.size
  have z_25 := Ext.tr z_15 x_26
  have u_23 := fun q hq => (OP_22.lt q hq).2
  have lo_24 := fun q hq => (OP_22.lt q hq).1
  have hcp_22 := OP_22.has.1
  refine vl (mv rfl) rfl <| vl (ex rfl rfl) rfl <| vl (ex rfl rfl) rfl <| vl (ex rfl rfl) rfl <| vl (as_ rfl) rfl <| vl (as_ rfl) rfl <| vl (as_ rfl) rfl <| nl <| nT <| sq <| sq <| rg <| ca Plo_en_mustkeep_pathLives rfl rfl ((pathLives_any _).mono ?_)
  rintro e w_28 ⟨rfl, x_29⟩
  refine ⟨_, rfl, ?_⟩
  have q_30 := x_29.size
  have z_28 := Ext.tr z_25 x_29
  refine vl (nt rfl) rfl <| vl (mv rfl) rfl <| ug rfl rfl rfl <| vl (mv rfl) rfl <| ug rfl rfl rfl <| vl (bne rfl rfl) rfl <| vl (pkF rfl (evb rfl kE)) rfl <| nl <| nT <| cT rfl <| sq <| rg <| ca Plo_en_mustkeep_pathLives rfl rfl ((pathLives_any _).mono ?_)
  rintro e w_31 ⟨rfl, x_32⟩
  refine ⟨_, rfl, ?_⟩
  have q_33 := x_32.size
  have z_31 := Ext.tr z_28 x_32
  refine vl (as_ rfl) rfl <| nl <| nT <| rt <| tT <| tR (.tmp rfl .nil) <| ?_
  exact ⟨rfl, z_31⟩
set_option maxRecDepth 100000 in
set_option maxHeartbeats 400000 in
theorem pathOnce_ok (f : Fld) (a b : Cel) (P : Option Addr) (pc : Nat) (w : World) (hP : repI.SHas 8 w P pc f.places) (he : findE f a b = 0) :
    Calls Try.prog 7 #[.agg #[.int .i64 f.wide, .int .i64 f.high, .slice P f.places.length pc], .agg #[.int .i64 a.x, .int .i64 a.y], .agg #[.int .i64 b.x, .int .i64 b.y]] w (fun e w' => e = .returned (.bool true) ∧ Ext w w') := by
  have kE : (findE f a b != 0) = false := by simpa using he
  obtain ⟨hn, hlen, hgr⟩ := findP_once he
  have hl16 := Fld.len_le (find_dat he).1
  refine calls_W (n := 46) Try.func7 rfl rfl rfl ?_
  refine sq <| rg <| bx rfl rfl rfl rfl fun w_1 b_2 x_3 l_4 B_5 => ?_
  have q_6 := x_3.size
  have z_1 := Ext.tr (Ext.rf w) x_3
  have q_7 := B_5.lt
  refine bx rfl rfl rfl rfl fun w_8 b_9 x_10 l_11 B_12 => ?_
  have q_13 := x_10.size
  have z_8 := Ext.tr z_1 x_10
  have q_14 := B_12.lt
  refine bx rfl rfl rfl rfl fun w_15 b_16 x_17 l_18 B_19 => ?_
  have q_20 := x_17.size
  have z_15 := Ext.tr z_8 x_17
  have q_21 := B_19.lt
  refine vl (as_ rfl) rfl <| nl <| nT <| sq <| rg <| ?_
  have B_5 := B_5.later (Ext.tr x_10 x_17)
  refine vl (ld rfl (B_5.all Plo_ag_api_Field Plo_sz_api_Field)) rfl <| ?_
  have B_12 := B_12.later x_17
  refine vl (ld rfl (B_12.all Plo_ag_api_Cell Plo_sz_api_Cell)) rfl <| vl (ld rfl (B_19.all Plo_ag_api_Cell Plo_sz_api_Cell)) rfl <| ca Plo_en_path_Find rfl rfl ((pfind_any f a b _ _ _ (hP.keep z_15)).mono ?_)
  rintro e w_25 ⟨A_22, c_22, rfl, OP_22, x_26⟩
  refine ⟨_, rfl, ?_⟩
  have q_27 := x_26.size
  have z_25 := Ext.tr z_15 x_26
  have u_23 := fun q hq => (OP_22.lt q hq).2
  have lo_24 := fun q hq => (OP_22.lt q hq).1
  have hcp_22 := OP_22.has.1
  refine vl (mv rfl) rfl <| vl (ex rfl rfl) rfl <| vl (ex rfl rfl) rfl <| vl (ex rfl rfl) rfl <| vl (as_ rfl) rfl <| vl (as_ rfl) rfl <| vl (as_ rfl) rfl <| nl <| nT <| sq <| sq <| rg <| ca Plo_en_mustkeep_pathLives rfl rfl ((pathLives_any _).mono ?_)
  rintro e w_28 ⟨rfl, x_29⟩
  refine ⟨_, rfl, ?_⟩
  have q_30 := x_29.size
  have z_28 := Ext.tr z_25 x_29
  refine vl (nt rfl) rfl <| vl (mv rfl) rfl <| ug rfl rfl rfl <| vl (mv rfl) rfl <| ug rfl rfl rfl <| vl (bne rfl rfl) rfl <| vl (pkF rfl (evb rfl kE)) rfl <| nl <| nT <| cF rfl <| sk <| nT <| sq <| sq <| rg <| vl (mv rfl) rfl <| vl (ln Try.underlying25 rfl) rfl <| vl (mv rfl) rfl <| nl <| nT <| bk <| ?_
  have B_5 := B_5.later (Ext.tr x_26 x_29)
  have OP_22 := OP_22.later x_29
  refine lp (fun mI EI wI => ∃ k : Nat, EI = [(3, .pointer (some ⟨b_2, 0, none⟩)), (7, .slice A_22 ((findP f a b).length) c_22), (27, .slice A_22 ((findP f a b).length) c_22), (28, .int .i64 ((((findP f a b).length : Nat) : Int))), (29, .int .i64 (k : Int))] ∧ mI = (findP f a b).length - k ∧ Ext w wI ∧ Blk wI b_2 [.int .i64 f.wide, .int .i64 f.high, .slice P f.places.length pc] 24 (0, 0) ∧ Cel.rep.SOwn 32 16 wI w_15.heap.size (Rep.blkOf A_22) A_22 c_22 (findP f a b) ∧ (k ≤ (findP f a b).length)) _ _ ⟨0, rfl, rfl, z_28, B_5, OP_22, by omega⟩ (.cons rfl (.cons rfl (.cons rfl (.cons rfl (.cons (loI rfl (by first | omega | rfl | (simp <;> omega))) .nil))))) ?_
  rintro m_32 E_33 w_31 ⟨k, rfl, rfl, z_31, B_5, OP_22, hk⟩
  have q_34 := z_31.size
  have q_35 := B_5.lt
  have u_36 := fun q hq => (OP_22.lt q hq).2
  refine sq <| rg <| vl (blt rfl rfl) rfl <| nl <| nT <| sq <| ?_
  refine clt rfl (fun h_37 => ?_) (fun h_37 => ?_)
  · refine sk <| nT <| sq <| bk <| sq <| rg <| vl (mv rfl) rfl <| vl (iA k Try.underlying25 Plo_sz_api_Cell rfl rfl (OP_22.has.adr (Nat.zero_lt_of_lt (show k < _ from (by omega)))) rfl (by omega)) rfl <| vl (ld rfl (Rep.SHas.elt hcC (OP_22.has.adh (Nat.zero_lt_of_lt (show k < _ from (by omega)))) (get_d (l := findP f a b) (u := default) (by omega)) Plo_ag_api_Cell Plo_sz_api_Cell)) rfl <| al rfl Plo_zv_api_Cell rfl rfl fun w_38 b_39 x_40 l_41 B_42 => ?_
    have q_43 := x_40.size
    have z_38 := Ext.tr z_31 x_40
    have q_44 := B_42.lt
    refine vl (as_ rfl) rfl <| st (new := [.int .i64 (((findP f a b).getD k default).x), .int .i64 (((findP f a b).getD k default).y)]) rfl rfl B_42 rfl Plo_sz_api_Cell rfl rfl rfl fun w_45 m_46 B_42 => ?_
    have q_48 := m_46.size
    have z_45 := Ext.mod z_38 m_46 (by simp only [List.mem_singleton, forall_eq]; omega)
    have q_47 := m_46.size
    refine nl <| nT <| sq <| ?_
    refine rd [(3, 0), (4, 0)] [0, 1, 2, 3, 4] (by kernel_rfl) (by kernel_rfl) ?_
    refine fw rfl rfl (fun _ => mv rfl) rfl <| fw rfl rfl (fun _ => mv rfl) rfl <| fw rfl rfl (fun _ => sP k ((findP f a b).take k).length Try.underlying25 Plo_sz_api_Cell rfl rfl rfl (by omega) (by rw [List.length_take]; omega)) rfl <| fq rfl rfl (fun _ x => ld rfl ((B_42.later x).all Plo_ag_api_Cell Plo_sz_api_Cell)) rfl <| ?_
    have OP_22 := OP_22.later x_40
    have OP_22 := OP_22.mod m_46 (fun q hq h => by have hb := List.mem_singleton.1 h; exfalso; (have := u_36 q hq; have := u_23 q hq; omega))
    refine fc rfl rfl Plo_en_slices_Contains_S_api_Cell_api_Cell_ rfl (fun _ x => contains_C ((findP f a b).getD k default) _ _ ((findP f a b).take k) _ ((OP_22.later x).has.pre k)) rfl <| fn fun w_49 x_50 => ?_
    have q_51 := x_50.size
    have z_49 := Ext.tr z_45 x_50
    refine nT <| ?_
    have h_52 : (((findP f a b).take k).any (fun y => decide ((findP f a b).getD k default = y))) = false := by exact once_no hn (by omega)
    refine cF (by rw [← h_52]; rfl) <| sk <| nB <| nT <| rg <| vl (bad rfl rfl (inI (by omega))) rfl <| vl (mv rfl) rfl <| nl <| ?_
    have B_5 := B_5.later x_40
    have B_5 := B_5.mod m_46 (by simp only [List.mem_singleton]; omega)
    have B_5 := B_5.later x_50
    have OP_22 := OP_22.later x_50
    exact nI _ _ ⟨k + 1, rfl, rfl, z_49, B_5, OP_22, by omega⟩ (by omega) (.cons rfl (.cons rfl (.cons rfl (.cons rfl (.cons (loI rfl (by first | omega | rfl | (simp <;> omega))) .nil)))))
  · refine xt <| xT <| xK <| xB <| nT <| sq <| rg <| vl (mv rfl) rfl <| vl (ln Try.underlying25 rfl) rfl <| vl (fa Plo_fd_api_Field_2 rfl) rfl <| vl (ld rfl (B_5.one Plo_ag_S_int rfl)) rfl <| vl (ln Try.underlying22 rfl) rfl <| vl (ble rfl rfl) rfl <| vl (as_ rfl) rfl <| nl <| nT <| rt <| tR (.tmp rfl .nil) <| ?_
    exact ⟨ret_true (decide_eq_true (by omega)), z_31⟩
theorem pathOnce_any (c0 : Array Value) (c1 : Array Value) (c2 : Array Value) (w : World) (h0 : (.cons (.int .i64) (.cons (.int .i64) (.cons (.slice (.int .i64) 8) .nil)) : Sh).Ok w c0.toList) (h1 : (.cons (.int .i64) (.cons (.int .i64) .nil) : Sh).Ok w c1.toList) (h2 : (.cons (.int .i64) (.cons (.int .i64) .nil) : Sh).Ok w c2.toList) :
    Calls Try.prog 7 #[.agg c0, .agg c1, .agg c2] w fun e w' => e = .returned (.bool true) ∧ Below w.heap.size w w' := by
  obtain ⟨f, A, cp, e0, hP, hkw, hkh⟩ := Fld.opens w _ (show Wd.fsh.Ok w c0.toList from h0)
  have hc : c0 = #[.int .i64 f.wide, .int .i64 f.high, .slice A f.places.length cp] := by rw [← e0]
  subst hc
  obtain ⟨a, e1⟩ := Cel.opens_v w _ (show Cel.sh.Ok w c1.toList from h1)
  have hc1 : c1 = #[.int .i64 a.x, .int .i64 a.y] := by rw [← e1]
  subst hc1
  obtain ⟨b, e2⟩ := Cel.opens_v w _ (show Cel.sh.Ok w c2.toList from h2)
  have hc2 : c2 = #[.int .i64 b.x, .int .i64 b.y] := by rw [← e2]
  subst hc2
  by_cases he : findE f a b = 0
  · exact pathOnce_ok f a b A cp w hP he
  · exact pathOnce_bad f a b A cp w hP he
end Go.Proofs.Ytffjpfpbpnhmcaa
