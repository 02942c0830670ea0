import Derived.Test.YtffjpfpbpnhmcaaMrU
set_option linter.unusedVariables false
set_option linter.unusedSimpArgs false
namespace Go.Proofs.Ytffjpfpbpnhmcaa
open Go.RowKit

theorem MrK_en_mustkeep_marchLives : Enters Try.prog 29 := en Try.func29 (by kernel_rfl) (by kernel_rfl)
theorem MrK_ag_api_World : Ag Try.prog 49 true := fun _ => by kernel_rfl
theorem MrK_sz_api_World : Sz Try.prog 49 9 := fun _ => by kernel_rfl
theorem MrK_en_troop_Check : Enters Try.prog 34 := en Try.func34 (by kernel_rfl) (by kernel_rfl)
theorem MrK_fd_api_World_4 : Fd Try.prog 49 4 6 := fun _ _ _ => by kernel_rfl
theorem MrK_ag_S_api_Troop : Ag Try.prog 47 false := fun _ => by kernel_rfl
theorem MrK_sz_api_Troop : Sz Try.prog 65 7 := fun _ => by kernel_rfl
theorem MrK_ag_api_Troop : Ag Try.prog 65 true := fun _ => by kernel_rfl
theorem MrK_zv_api_Troop : Zv Try.prog 65 (.agg #[.int .i64 0, .int .i64 0, .int .i64 0, .int .i64 0, .int .i64 0, .int .i64 0, .int .i64 0]) := fun _ => by kernel_rfl
theorem MrK_sz_S_api_Troop : Sz Try.prog 47 1 := fun _ => by kernel_rfl
theorem MrK_fd_api_World_0 : Fd Try.prog 49 0 0 := fun _ _ _ => by kernel_rfl
theorem MrK_ag_api_Field : Ag Try.prog 24 true := fun _ => by kernel_rfl
theorem MrK_sz_api_Field : Sz Try.prog 24 3 := fun _ => by kernel_rfl
theorem MrK_fd_api_Troop_3 : Fd Try.prog 65 3 3 := fun _ _ _ => by kernel_rfl
theorem MrK_ag_api_Cell : Ag Try.prog 32 true := fun _ => by kernel_rfl
theorem MrK_sz_api_Cell : Sz Try.prog 32 2 := fun _ => by kernel_rfl
theorem MrK_en_path_Find : Enters Try.prog 20 := en Try.func20 (by kernel_rfl) (by kernel_rfl)
theorem MrK_fd_api_Troop_0 : Fd Try.prog 65 0 0 := fun _ _ _ => by kernel_rfl
theorem MrK_ag_int : Ag Try.prog 3 false := fun _ => by kernel_rfl
theorem MrK_en_march_Reach : Enters Try.prog 39 := en Try.func39 (by kernel_rfl) (by kernel_rfl)
theorem MrK_zv_api_World : Zv Try.prog 49 (.agg #[.int .i64 0, .int .i64 0, .slice none 0 0, .slice none 0 0, .slice none 0 0, .slice none 0 0, .slice none 0 0, .int .i64 0, .int .i64 0]) := fun _ => by kernel_rfl
theorem MrK_eqs_api_Troop : EqS Try.prog Trp.cells 65 := by
  intro a b w
  obtain ⟨a0, a1, a2, ⟨a3, a4⟩, a5, a6⟩ := a
  obtain ⟨b0, b1, b2, ⟨b3, b4⟩, b5, b6⟩ := b
  simp only [Trp.cells, Trp.mk.injEq, Cel.mk.injEq]
  constructor
  · go_simp
    repeat' split
    all_goals simp_all
  · go_simp
    repeat' split
    all_goals simp_all
theorem MrK_eqg_api_Troop : (Try.prog).eqGuardType (Try.prog).depth 65 = false := by kernel_rfl
theorem MrK_eqs_api_Cell : EqS Try.prog Cel.cells 32 := by
  intro a b w
  obtain ⟨a0, a1⟩ := a
  obtain ⟨b0, b1⟩ := b
  simp only [Cel.cells, Cel.mk.injEq]
  constructor
  · go_simp
    repeat' split
    all_goals simp_all
  · go_simp
    repeat' split
    all_goals simp_all
theorem MrK_eqg_api_Cell : (Try.prog).eqGuardType (Try.prog).depth 32 = false := by kernel_rfl
theorem mr_getK {α : Type} [Inhabited α] {T : List α} {k : Nat} {x : α} (hk : k < T.length) (h : T.getD k default = x) : T[k]? = some x := by
  rw [← h, List.getD_eq_getElem?_getD, List.getElem?_eq_getElem hk]; rfl
set_option maxRecDepth 100000 in
set_option maxHeartbeats 1000000 in
theorem marchComes_bad (a : Wd.At) (W : Wd) (at_ : Int) (to : Cel) (w : World) (hW : Wd.Has w a W) (hto : to.ok) (hc : ¬ W.chk = 0) :
    Calls Try.prog 11 #[.agg ((Wd.cells a W).toArray), .int .i64 at_, .agg #[.int .i64 to.x, .int .i64 to.y]] w (fun e w' => e = .returned (.bool true) ∧ Ext w w') := by
  have k1 : (W.chk != 0) = true := by simpa using hc
  refine calls_W (n := 98) Try.func11 rfl rfl rfl ?_
  refine sq <| rg <| bx rfl rfl rfl rfl fun w_1 b_2 x_3 l_4 B_5 => ?_
  have q_6 := x_3.size
  have z_1 := Ext.tr (Ext.rf w) x_3
  have q_7 := B_5.lt
  refine bx rfl rfl rfl rfl fun w_8 b_9 x_10 l_11 B_12 => ?_
  have q_13 := x_10.size
  have z_8 := Ext.tr z_1 x_10
  have q_14 := B_12.lt
  refine vl (as_ rfl) rfl <| nl <| nT <| sq <| sq <| rg <| ca MrK_en_mustkeep_marchLives rfl rfl ((marchLives_any _).mono ?_)
  rintro e w_15 ⟨rfl, x_16⟩
  refine ⟨_, rfl, ?_⟩
  have q_17 := x_16.size
  have z_15 := Ext.tr z_8 x_16
  refine vl (nt rfl) rfl <| vl (mv rfl) rfl <| ug rfl rfl rfl <| ?_
  have B_5 := B_5.later (Ext.tr x_10 x_16)
  refine vl (ld rfl (B_5.all MrK_ag_api_World MrK_sz_api_World)) rfl <| ug rfl rfl rfl <| ca MrK_en_troop_Check rfl rfl ((check_any a W _ (hW.keep z_15)).mono ?_)
  rintro e w_18 ⟨rfl, x_19⟩
  refine ⟨_, rfl, ?_⟩
  have q_20 := x_19.size
  have z_18 := Ext.tr z_15 x_19
  refine ug rfl rfl rfl <| vl (bne rfl rfl) rfl <| vl (pkF rfl (evb rfl k1)) rfl <| vl (mv rfl) rfl <| vQ (v := undef) rfl rfl rfl rfl (fun hc => nomatch hc) rfl <| vQ (v := undef) rfl rfl rfl rfl (fun hc => nomatch hc) rfl <| vl (pkT rfl rfl) rfl <| vl (mv rfl) rfl <| vQ (v := undef) rfl rfl rfl rfl (fun hc => nomatch hc) rfl <| vQ (v := undef) rfl rfl rfl rfl (fun hc => nomatch hc) rfl <| vQ (v := undef) rfl rfl rfl rfl (fun hc => nomatch hc) rfl <| vQ (v := undef) rfl rfl rfl rfl (fun hc => nomatch hc) rfl <| vQ (v := undef) rfl rfl rfl rfl (fun hc => nomatch hc) rfl <| vl (pkT rfl rfl) rfl <| nl <| nT <| cT rfl <| sq <| rg <| ca MrK_en_mustkeep_marchLives rfl rfl ((marchLives_any _).mono ?_)
  rintro e w_21 ⟨rfl, x_22⟩
  refine ⟨_, rfl, ?_⟩
  have q_23 := x_22.size
  have z_21 := Ext.tr z_18 x_22
  refine vl (as_ rfl) rfl <| nl <| nT <| rt <| tT <| tR (.tmp rfl .nil) <| ?_
  exact ⟨rfl, z_21⟩
set_option maxRecDepth 100000 in
set_option maxHeartbeats 1000000 in
theorem marchComes_out (a : Wd.At) (W : Wd) (at_ : Int) (to : Cel) (w : World) (hW : Wd.Has w a W) (hto : to.ok) (hc : W.chk = 0) (ho : at_ < 0 ∨ (W.troops.length : Int) ≤ at_) :
    Calls Try.prog 11 #[.agg ((Wd.cells a W).toArray), .int .i64 at_, .agg #[.int .i64 to.x, .int .i64 to.y]] w (fun e w' => e = .returned (.bool true) ∧ Ext w w') := by
  have k1 : (W.chk != 0) = false := by simpa using hc
  have hnt := (Good.of_chk hc).nt
  refine calls_W (n := 98) Try.func11 rfl rfl rfl ?_
  refine sq <| rg <| bx rfl rfl rfl rfl fun w_1 b_2 x_3 l_4 B_5 => ?_
  have q_6 := x_3.size
  have z_1 := Ext.tr (Ext.rf w) x_3
  have q_7 := B_5.lt
  refine bx rfl rfl rfl rfl fun w_8 b_9 x_10 l_11 B_12 => ?_
  have q_13 := x_10.size
  have z_8 := Ext.tr z_1 x_10
  have q_14 := B_12.lt
  refine vl (as_ rfl) rfl <| nl <| nT <| sq <| sq <| rg <| ca MrK_en_mustkeep_marchLives rfl rfl ((marchLives_any _).mono ?_)
  rintro e w_15 ⟨rfl, x_16⟩
  refine ⟨_, rfl, ?_⟩
  have q_17 := x_16.size
  have z_15 := Ext.tr z_8 x_16
  refine vl (nt rfl) rfl <| vl (mv rfl) rfl <| ug rfl rfl rfl <| ?_
  have B_5 := B_5.later (Ext.tr x_10 x_16)
  refine vl (ld rfl (B_5.all MrK_ag_api_World MrK_sz_api_World)) rfl <| ug rfl rfl rfl <| ca MrK_en_troop_Check rfl rfl ((check_any a W _ (hW.keep z_15)).mono ?_)
  rintro e w_18 ⟨rfl, x_19⟩
  refine ⟨_, rfl, ?_⟩
  have q_20 := x_19.size
  have z_18 := Ext.tr z_15 x_19
  refine ug rfl rfl rfl <| vl (bne rfl rfl) rfl <| vl (pkF rfl (evb rfl k1)) rfl <| vl (mv rfl) rfl <| ug rfl rfl rfl <| vl (mv rfl) rfl <| ug rfl rfl rfl <| vl (blt rfl rfl) rfl <| vl (pkF rfl rfl) rfl <| vl (mv rfl) rfl <| vQ rfl rfl rfl rfl (fun hc => mv rfl) rfl <| vQ rfl rfl rfl rfl (fun hc => fa MrK_fd_api_World_4 rfl) rfl <| ?_
  have B_5 := B_5.later x_19
  refine vQ rfl rfl rfl rfl (fun hc => ld (gt hc rfl) (B_5.one MrK_ag_S_api_Troop rfl)) rfl <| vQ rfl rfl rfl rfl (fun hc => ln Try.underlying47 (gt hc rfl)) rfl <| vQ rfl rfl rfl rfl (fun hc => bge (gt hc rfl) (gt hc rfl)) rfl <| vl (pO rfl rfl rfl rfl) rfl <| nl <| nT <| ?_
  have h_21 : ((decide (at_ < 0)) || (decide ((W.troops.length : Int) ≤ at_))) = true := by rw [Bool.or_eq_true, decide_eq_true_eq, decide_eq_true_eq]; exact ho
  refine cT (by rw [← h_21]; rfl) <| sq <| rg <| ca MrK_en_mustkeep_marchLives rfl rfl ((marchLives_any _).mono ?_)
  rintro e w_22 ⟨rfl, x_23⟩
  refine ⟨_, rfl, ?_⟩
  have q_24 := x_23.size
  have z_22 := Ext.tr z_18 x_23
  refine vl (as_ rfl) rfl <| nl <| nT <| rt <| tT <| tR (.tmp rfl .nil) <| ?_
  exact ⟨rfl, z_22⟩
set_option maxRecDepth 100000 in
set_option maxHeartbeats 1000000 in
theorem marchComes_no (a : Wd.At) (W : Wd) (at_ : Int) (to : Cel) (t : Trp) (w : World) (hW : Wd.Has w a W) (hto : to.ok) (hc : W.chk = 0) (h0 : 0 ≤ at_) (h1 : at_ < (W.troops.length : Int)) (ht : W.troops.getD at_.toNat default = t) (he : ¬ findE W.field t.spot to = 0) :
    Calls Try.prog 11 #[.agg ((Wd.cells a W).toArray), .int .i64 at_, .agg #[.int .i64 to.x, .int .i64 to.y]] w (fun e w' => e = .returned (.bool true) ∧ Ext w w') := by
  have k1 : (W.chk != 0) = false := by simpa using hc
  have hnt := (Good.of_chk hc).nt
  have htm : t ∈ W.troops := by rw [← ht]; exact mem_dd (by omega)
  obtain ⟨e1, e2, e3⟩ := march_comes hc htm to
  have htk : W.troops[at_.toNat]? = some t := mr_getK (by omega) ht
  have k2 : (reachE ({ W with troops := [t] } : Wd) t.id 200 != 0) = false := by rw [e1]; rfl
  have k3 : (findE W.field t.spot to != 0) = true := by simpa using he
  have hokt : t.ok := by rw [← ht]; exact trp_ok hW.T _
  obtain ⟨r1, r2⟩ := e2 he
  refine calls_W (n := 98) Try.func11 rfl rfl rfl ?_
  refine sq <| rg <| bx rfl rfl rfl rfl fun w_1 b_2 x_3 l_4 B_5 => ?_
  have q_6 := x_3.size
  have z_1 := Ext.tr (Ext.rf w) x_3
  have q_7 := B_5.lt
  refine bx rfl rfl rfl rfl fun w_8 b_9 x_10 l_11 B_12 => ?_
  have q_13 := x_10.size
  have z_8 := Ext.tr z_1 x_10
  have q_14 := B_12.lt
  refine vl (as_ rfl) rfl <| nl <| nT <| sq <| sq <| rg <| ca MrK_en_mustkeep_marchLives rfl rfl ((marchLives_any _).mono ?_)
  rintro e w_15 ⟨rfl, x_16⟩
  refine ⟨_, rfl, ?_⟩
  have q_17 := x_16.size
  have z_15 := Ext.tr z_8 x_16
  refine vl (nt rfl) rfl <| vl (mv rfl) rfl <| ug rfl rfl rfl <| ?_
  have B_5 := B_5.later (Ext.tr x_10 x_16)
  refine vl (ld rfl (B_5.all MrK_ag_api_World MrK_sz_api_World)) rfl <| ug rfl rfl rfl <| ca MrK_en_troop_Check rfl rfl ((check_any a W _ (hW.keep z_15)).mono ?_)
  rintro e w_18 ⟨rfl, x_19⟩
  refine ⟨_, rfl, ?_⟩
  have q_20 := x_19.size
  have z_18 := Ext.tr z_15 x_19
  refine ug rfl rfl rfl <| vl (bne rfl rfl) rfl <| vl (pkF rfl (evb rfl k1)) rfl <| vl (mv rfl) rfl <| ug rfl rfl rfl <| vl (mv rfl) rfl <| ug rfl rfl rfl <| vl (blt rfl rfl) rfl <| vl (pkF rfl rfl) rfl <| vl (mv rfl) rfl <| vQ rfl rfl rfl rfl (fun hc => mv rfl) rfl <| vQ rfl rfl rfl rfl (fun hc => fa MrK_fd_api_World_4 rfl) rfl <| ?_
  have B_5 := B_5.later x_19
  refine vQ rfl rfl rfl rfl (fun hc => ld (gt hc rfl) (B_5.one MrK_ag_S_api_Troop rfl)) rfl <| vQ rfl rfl rfl rfl (fun hc => ln Try.underlying47 (gt hc rfl)) rfl <| vQ rfl rfl rfl rfl (fun hc => bge (gt hc rfl) (gt hc rfl)) rfl <| vl (pO rfl rfl rfl rfl) rfl <| nl <| nT <| ?_
  have h_21 : ((decide (at_ < 0)) || (decide ((W.troops.length : Int) ≤ at_))) = false := by rw [Bool.or_eq_false_iff]; exact ⟨decide_eq_false (by omega), decide_eq_false (by omega)⟩
  refine cF (by rw [← h_21]; rfl) <| sk <| nT <| sq <| rg <| vl (fa MrK_fd_api_World_4 rfl) rfl <| vl (ld rfl (B_5.one MrK_ag_S_api_Troop rfl)) rfl <| vl (mv rfl) rfl <| vl (iA at_.toNat Try.underlying47 MrK_sz_api_Troop rfl rfl ((hW.T.keep z_18).adr (Nat.zero_lt_of_lt (show at_.toNat < _ from (by omega)))) (by omega) (by omega)) rfl <| vl (ld rfl (Rep.SHas.elt hcT ((hW.T.keep z_18).adh (Nat.zero_lt_of_lt (show at_.toNat < _ from (by omega)))) htk MrK_ag_api_Troop MrK_sz_api_Troop)) rfl <| al rfl MrK_zv_api_Troop rfl rfl fun w_22 b_23 x_24 l_25 B_26 => ?_
  have q_27 := x_24.size
  have z_22 := Ext.tr z_18 x_24
  have q_28 := B_26.lt
  refine st (new := [.int .i64 t.id, .int .i64 t.owner, .int .i64 t.kind, .int .i64 t.spot.x, .int .i64 t.spot.y, .int .i64 t.life, .int .i64 t.load]) rfl rfl B_26 rfl MrK_sz_api_Troop rfl rfl rfl fun w_29 m_30 B_26 => ?_
  have q_32 := m_30.size
  have z_29 := Ext.mod z_22 m_30 (by simp only [List.mem_singleton, forall_eq]; omega)
  have q_31 := m_30.size
  refine nl <| nT <| sq <| rg <| vl (ld rfl (B_26.all MrK_ag_api_Troop MrK_sz_api_Troop)) rfl <| bs (e := 65) (cs := [.int .i64 t.id, .int .i64 t.owner, .int .i64 t.kind, .int .i64 t.spot.x, .int .i64 t.spot.y, .int .i64 t.life, .int .i64 t.load]) rfl (fun _ => by kernel_rfl) rfl fun w_33 b_34 x_35 l_36 B_37 => ?_
  have q_38 := x_35.size
  have z_33 := Ext.tr z_29 x_35
  have q_39 := B_37.lt
  refine vl (fa MrK_fd_api_World_4 rfl) rfl <| ?_
  have B_5 := B_5.later x_24
  have B_5 := B_5.mod m_30 (by simp only [List.mem_singleton]; omega)
  have B_5 := B_5.later x_35
  refine st (new := [.int .i64 W.field.wide, .int .i64 W.field.high, .slice a.P W.field.places.length a.p, .slice a.B W.bases.length a.b, .slice a.S W.stocks.length a.s, .slice a.M W.mines.length a.m, .slice (some ⟨b_34, 0, none⟩) 1 1, .int .i64 W.next, .int .i64 W.now]) rfl rfl B_5 rfl MrK_sz_S_api_Troop rfl rfl rfl fun w_40 m_41 B_5 => ?_
  have q_43 := m_41.size
  have z_40 := Ext.mod z_33 m_41 (by simp only [List.mem_singleton, forall_eq]; omega)
  have q_42 := m_41.size
  refine nl <| nT <| sq <| rg <| vl (fa MrK_fd_api_World_0 rfl) rfl <| vl (ld rfl (B_5.par [.int .i64 W.field.wide, .int .i64 W.field.high, .slice a.P W.field.places.length a.p] MrK_ag_api_Field MrK_sz_api_Field rfl)) rfl <| vl (fa MrK_fd_api_Troop_3 rfl) rfl <| ?_
  have B_26 := B_26.later x_35
  have B_26 := B_26.mod m_41 (by simp only [List.mem_singleton]; omega)
  refine vl (ld rfl (B_26.par [.int .i64 t.spot.x, .int .i64 t.spot.y] MrK_ag_api_Cell MrK_sz_api_Cell rfl)) rfl <| ?_
  have B_12 := B_12.later (Ext.tr x_16 (Ext.tr x_19 x_24))
  have B_12 := B_12.mod m_30 (by simp only [List.mem_singleton]; omega)
  have B_12 := B_12.later x_35
  have B_12 := B_12.mod m_41 (by simp only [List.mem_singleton]; omega)
  refine vl (ld rfl (B_12.all MrK_ag_api_Cell MrK_sz_api_Cell)) rfl <| ca MrK_en_path_Find rfl rfl ((pfind_any W.field t.spot to _ _ _ (hW.P.keep z_40)).mono ?_)
  rintro e w_47 ⟨Y44, y44, rfl, OY44, x_48⟩
  refine ⟨_, rfl, ?_⟩
  have q_49 := x_48.size
  have z_47 := Ext.tr z_40 x_48
  have u_45 := fun q hq => (OY44.lt q hq).2
  have lo_46 := fun q hq => (OY44.lt q hq).1
  refine vl (mv rfl) rfl <| vl (ex rfl rfl) rfl <| vl (ex rfl rfl) rfl <| vl (ex rfl rfl) rfl <| vl (as_ rfl) rfl <| vl (as_ rfl) rfl <| vl (as_ rfl) rfl <| nl <| nT <| sq <| rg <| ?_
  have B_5 := B_5.later x_48
  refine vl (ld rfl (B_5.all MrK_ag_api_World MrK_sz_api_World)) rfl <| vl (fa MrK_fd_api_Troop_0 rfl) rfl <| ?_
  have B_26 := B_26.later x_48
  refine vl (ld rfl (B_26.one MrK_ag_int rfl)) rfl <| ?_
  have B_12 := B_12.later x_48
  refine vl (ld rfl (B_12.all MrK_ag_api_Cell MrK_sz_api_Cell)) rfl <| ?_
  have B_37 := B_37.mod m_41 (by simp only [List.mem_singleton]; omega)
  have B_37 := B_37.later x_48
  refine ca MrK_en_march_Reach rfl rfl ((mreach_any (⟨a.P, a.B, a.S, a.M, some ⟨b_34, 0, none⟩, a.p, a.b, a.s, a.m, 1⟩ : Wd.At) ({ W with troops := [t] } : Wd) t.id 200 to _ ⟨(hW.P.keep z_47), (hW.B.keep z_47), (hW.S.keep z_47), (hW.M.keep z_47), (Blk.hasN (R := Trp.rep) (by_ := 56) (k := [t]) B_37 [[.int .i64 t.id, .int .i64 t.owner, .int .i64 t.kind, .int .i64 t.spot.x, .int .i64 t.spot.y, .int .i64 t.life, .int .i64 t.load]] rfl (⟨⟨rfl, hokt⟩, trivial⟩) (by simp) (by simp)), hW.nums⟩ hokt.1 hto).mono ?_)
  rintro e w_53 ⟨a50, rfl, HO50, x_54⟩
  refine ⟨_, rfl, ?_⟩
  have q_55 := x_54.size
  have z_53 := Ext.tr z_47 x_54
  have u_51 := fun q hq => (HO50.lt q hq).2
  have lo_52 := fun q hq => (HO50.lt q hq).1
  refine vl (mv rfl) rfl <| vl (ex rfl rfl) rfl <| vl (ex rfl rfl) rfl <| vl (ex rfl rfl) rfl <| al rfl MrK_zv_api_World rfl rfl fun w_56 b_57 x_58 l_59 B_60 => ?_
  have q_61 := x_58.size
  have z_56 := Ext.tr z_53 x_58
  have q_62 := B_60.lt
  refine st rfl rfl B_60 rfl MrK_sz_api_World rfl rfl rfl fun w_63 m_64 B_60 => ?_
  have q_66 := m_64.size
  have z_63 := Ext.mod z_56 m_64 (by simp only [List.mem_singleton, forall_eq]; omega)
  have q_65 := m_64.size
  refine vl (as_ rfl) rfl <| vl (as_ rfl) rfl <| nl <| nT <| sq <| sq <| rg <| vl (mv rfl) rfl <| vl (bne rfl rfl) rfl <| vl (mv (evb rfl k2)) rfl <| ug rfl rfl rfl <| vl (fa MrK_fd_api_World_4 rfl) rfl <| ug rfl rfl rfl <| vl (ld rfl (B_60.one MrK_ag_S_api_Troop rfl)) rfl <| ug rfl rfl rfl <| vl (ln Try.underlying47 rfl) rfl <| ug rfl rfl rfl <| vl (bne rfl rfl) rfl <| vl (pkF rfl rfl) rfl <| nl <| nT <| ?_
  have h_67 : (((((reachW ({ W with troops := [t] } : Wd) t.id to 200).troops.length : Nat) : Int)) != 1) = false := by rw [r2]; rfl
  refine cF (by rw [← h_67]; rfl) <| sk <| nT <| sq <| sq <| rg <| vl (mv rfl) rfl <| vl (bne rfl rfl) rfl <| nl <| nT <| cT (evb rfl k3) <| sq <| ?_
  refine rd [(4, 0), (6, 0), (7, 0)] [0, 1, 2, 3, 4, 5, 6, 7, 8, 9, 10] (by kernel_rfl) (by kernel_rfl) ?_
  refine fw rfl rfl (fun _ => mv rfl) rfl <| fw rfl rfl (fun _ => beq rfl rfl) rfl <| fw rfl rfl (fun _ => mv rfl) rfl <| fW rfl rfl rfl rfl rfl rfl (fun hc _ => fa MrK_fd_api_World_4 rfl) rfl <| fQ rfl rfl rfl rfl rfl rfl (fun hc _ x => ld (gt hc rfl) ((B_60.later x).one MrK_ag_S_api_Troop rfl)) rfl <| ?_
  have HO50 := HO50.later x_58
  have HO50 := HO50.mod m_64 (fun q hq h => by have hb := List.mem_singleton.1 h; exfalso; (have := u_51 q hq; omega))
  refine fW rfl rfl rfl rfl rfl rfl (fun hc _ => iA 0 Try.underlying47 MrK_sz_api_Troop (gt hc rfl) rfl (HO50.T.has.adr (Nat.zero_lt_of_lt (show 0 < _ from (by rw [r2]; exact Nat.zero_lt_one)))) rfl (by rw [r2]; exact Nat.zero_lt_one)) rfl <| fQ rfl rfl rfl rfl rfl rfl (fun hc _ x => ld (gt hc rfl) (Rep.SHas.elt hcT ((HO50.later x).T.has.adh (Nat.zero_lt_of_lt (show 0 < _ from (by rw [r2]; exact Nat.zero_lt_one)))) (show (reachW ({ W with troops := [t] } : Wd) t.id to 200).troops[0]? = _ from (by rw [r2]; rfl)) MrK_ag_api_Troop MrK_sz_api_Troop)) rfl <| ?_
  have B_26 := B_26.later (Ext.tr x_54 x_58)
  have B_26 := B_26.mod m_64 (by simp only [List.mem_singleton]; omega)
  refine fQ rfl rfl rfl rfl rfl rfl (fun hc _ x => ld rfl ((B_26.later x).all MrK_ag_api_Troop MrK_sz_api_Troop)) rfl <| fW rfl rfl rfl rfl rfl rfl (fun hc _ => bqS MrK_eqs_api_Troop MrK_eqg_api_Troop (p := t) (q := t) (gt hc rfl) (gt hc rfl)) rfl <| fw rfl rfl (fun _ => pA rfl rfl rfl rfl) rfl <| fw rfl rfl (fun _ => as_ rfl) rfl <| fn fun w_68 x_69 => ?_
  have q_70 := x_69.size
  have z_68 := Ext.tr z_63 x_69
  refine nT <| rt <| tT <| tR (.tmp rfl .nil) <| ?_
  exact ⟨ret_true (by rw [r1]; simp), z_68⟩
set_option maxRecDepth 100000 in
set_option maxHeartbeats 1000000 in
theorem marchComes_yes (a : Wd.At) (W : Wd) (at_ : Int) (to : Cel) (t : Trp) (w : World) (hW : Wd.Has w a W) (hto : to.ok) (hc : W.chk = 0) (h0 : 0 ≤ at_) (h1 : at_ < (W.troops.length : Int)) (ht : W.troops.getD at_.toNat default = t) (he : findE W.field t.spot to = 0) :
    Calls Try.prog 11 #[.agg ((Wd.cells a W).toArray), .int .i64 at_, .agg #[.int .i64 to.x, .int .i64 to.y]] w (fun e w' => e = .returned (.bool true) ∧ Ext w w') := by
  have k1 : (W.chk != 0) = false := by simpa using hc
  have hnt := (Good.of_chk hc).nt
  have htm : t ∈ W.troops := by rw [← ht]; exact mem_dd (by omega)
  obtain ⟨e1, e2, e3⟩ := march_comes hc htm to
  have htk : W.troops[at_.toNat]? = some t := mr_getK (by omega) ht
  have k2 : (reachE ({ W with troops := [t] } : Wd) t.id 200 != 0) = false := by rw [e1]; rfl
  have k3 : (findE W.field t.spot to != 0) = false := by simpa using he
  have hokt : t.ok := by rw [← ht]; exact trp_ok hW.T _
  obtain ⟨r1, r2⟩ := e3 he
  obtain ⟨l1, l2⟩ := findP_ne he
  have hl2 := (findP_once he).2.1
  have hl3 := Fld.len_le (find_dat he).1
  obtain ⟨y, hy⟩ : ∃ y, (findP W.field t.spot to).getD (min ((findP W.field t.spot to).length - 1) 200) default = y := ⟨_, rfl⟩
  refine calls_W (n := 98) Try.func11 rfl rfl rfl ?_
  refine sq <| rg <| bx rfl rfl rfl rfl fun w_1 b_2 x_3 l_4 B_5 => ?_
  have q_6 := x_3.size
  have z_1 := Ext.tr (Ext.rf w) x_3
  have q_7 := B_5.lt
  refine bx rfl rfl rfl rfl fun w_8 b_9 x_10 l_11 B_12 => ?_
  have q_13 := x_10.size
  have z_8 := Ext.tr z_1 x_10
  have q_14 := B_12.lt
  refine vl (as_ rfl) rfl <| nl <| nT <| sq <| sq <| rg <| ca MrK_en_mustkeep_marchLives rfl rfl ((marchLives_any _).mono ?_)
  rintro e w_15 ⟨rfl, x_16⟩
  refine ⟨_, rfl, ?_⟩
  have q_17 := x_16.size
  have z_15 := Ext.tr z_8 x_16
  refine vl (nt rfl) rfl <| vl (mv rfl) rfl <| ug rfl rfl rfl <| ?_
  have B_5 := B_5.later (Ext.tr x_10 x_16)
  refine vl (ld rfl (B_5.all MrK_ag_api_World MrK_sz_api_World)) rfl <| ug rfl rfl rfl <| ca MrK_en_troop_Check rfl rfl ((check_any a W _ (hW.keep z_15)).mono ?_)
  rintro e w_18 ⟨rfl, x_19⟩
  refine ⟨_, rfl, ?_⟩
  have q_20 := x_19.size
  have z_18 := Ext.tr z_15 x_19
  refine ug rfl rfl rfl <| vl (bne rfl rfl) rfl <| vl (pkF rfl (evb rfl k1)) rfl <| vl (mv rfl) rfl <| ug rfl rfl rfl <| vl (mv rfl) rfl <| ug rfl rfl rfl <| vl (blt rfl rfl) rfl <| vl (pkF rfl rfl) rfl <| vl (mv rfl) rfl <| vQ rfl rfl rfl rfl (fun hc => mv rfl) rfl <| vQ rfl rfl rfl rfl (fun hc => fa MrK_fd_api_World_4 rfl) rfl <| ?_
  have B_5 := B_5.later x_19
  refine vQ rfl rfl rfl rfl (fun hc => ld (gt hc rfl) (B_5.one MrK_ag_S_api_Troop rfl)) rfl <| vQ rfl rfl rfl rfl (fun hc => ln Try.underlying47 (gt hc rfl)) rfl <| vQ rfl rfl rfl rfl (fun hc => bge (gt hc rfl) (gt hc rfl)) rfl <| vl (pO rfl rfl rfl rfl) rfl <| nl <| nT <| ?_
  have h_21 : ((decide (at_ < 0)) || (decide ((W.troops.length : Int) ≤ at_))) = false := by rw [Bool.or_eq_false_iff]; exact ⟨decide_eq_false (by omega), decide_eq_false (by omega)⟩
  refine cF (by rw [← h_21]; rfl) <| sk <| nT <| sq <| rg <| vl (fa MrK_fd_api_World_4 rfl) rfl <| vl (ld rfl (B_5.one MrK_ag_S_api_Troop rfl)) rfl <| vl (mv rfl) rfl <| vl (iA at_.toNat Try.underlying47 MrK_sz_api_Troop rfl rfl ((hW.T.keep z_18).adr (Nat.zero_lt_of_lt (show at_.toNat < _ from (by omega)))) (by omega) (by omega)) rfl <| vl (ld rfl (Rep.SHas.elt hcT ((hW.T.keep z_18).adh (Nat.zero_lt_of_lt (show at_.toNat < _ from (by omega)))) htk MrK_ag_api_Troop MrK_sz_api_Troop)) rfl <| al rfl MrK_zv_api_Troop rfl rfl fun w_22 b_23 x_24 l_25 B_26 => ?_
  have q_27 := x_24.size
  have z_22 := Ext.tr z_18 x_24
  have q_28 := B_26.lt
  refine st (new := [.int .i64 t.id, .int .i64 t.owner, .int .i64 t.kind, .int .i64 t.spot.x, .int .i64 t.spot.y, .int .i64 t.life, .int .i64 t.load]) rfl rfl B_26 rfl MrK_sz_api_Troop rfl rfl rfl fun w_29 m_30 B_26 => ?_
  have q_32 := m_30.size
  have z_29 := Ext.mod z_22 m_30 (by simp only [List.mem_singleton, forall_eq]; omega)
  have q_31 := m_30.size
  refine nl <| nT <| sq <| rg <| vl (ld rfl (B_26.all MrK_ag_api_Troop MrK_sz_api_Troop)) rfl <| bs (e := 65) (cs := [.int .i64 t.id, .int .i64 t.owner, .int .i64 t.kind, .int .i64 t.spot.x, .int .i64 t.spot.y, .int .i64 t.life, .int .i64 t.load]) rfl (fun _ => by kernel_rfl) rfl fun w_33 b_34 x_35 l_36 B_37 => ?_
  have q_38 := x_35.size
  have z_33 := Ext.tr z_29 x_35
  have q_39 := B_37.lt
  refine vl (fa MrK_fd_api_World_4 rfl) rfl <| ?_
  have B_5 := B_5.later x_24
  have B_5 := B_5.mod m_30 (by simp only [List.mem_singleton]; omega)
  have B_5 := B_5.later x_35
  refine st (new := [.int .i64 W.field.wide, .int .i64 W.field.high, .slice a.P W.field.places.length a.p, .slice a.B W.bases.length a.b, .slice a.S W.stocks.length a.s, .slice a.M W.mines.length a.m, .slice (some ⟨b_34, 0, none⟩) 1 1, .int .i64 W.next, .int .i64 W.now]) rfl rfl B_5 rfl MrK_sz_S_api_Troop rfl rfl rfl fun w_40 m_41 B_5 => ?_
  have q_43 := m_41.size
  have z_40 := Ext.mod z_33 m_41 (by simp only [List.mem_singleton, forall_eq]; omega)
  have q_42 := m_41.size
  refine nl <| nT <| sq <| rg <| vl (fa MrK_fd_api_World_0 rfl) rfl <| vl (ld rfl (B_5.par [.int .i64 W.field.wide, .int .i64 W.field.high, .slice a.P W.field.places.length a.p] MrK_ag_api_Field MrK_sz_api_Field rfl)) rfl <| vl (fa MrK_fd_api_Troop_3 rfl) rfl <| ?_
  have B_26 := B_26.later x_35
  have B_26 := B_26.mod m_41 (by simp only [List.mem_singleton]; omega)
  refine vl (ld rfl (B_26.par [.int .i64 t.spot.x, .int .i64 t.spot.y] MrK_ag_api_Cell MrK_sz_api_Cell rfl)) rfl <| ?_
  have B_12 := B_12.later (Ext.tr x_16 (Ext.tr x_19 x_24))
  have B_12 := B_12.mod m_30 (by simp only [List.mem_singleton]; omega)
  have B_12 := B_12.later x_35
  have B_12 := B_12.mod m_41 (by simp only [List.mem_singleton]; omega)
  refine vl (ld rfl (B_12.all MrK_ag_api_Cell MrK_sz_api_Cell)) rfl <| ca MrK_en_path_Find rfl rfl ((pfind_any W.field t.spot to _ _ _ (hW.P.keep z_40)).mono ?_)
  rintro e w_47 ⟨Y44, y44, rfl, OY44, x_48⟩
  refine ⟨_, rfl, ?_⟩
  have q_49 := x_48.size
  have z_47 := Ext.tr z_40 x_48
  have u_45 := fun q hq => (OY44.lt q hq).2
  have lo_46 := fun q hq => (OY44.lt q hq).1
  refine vl (mv rfl) rfl <| vl (ex rfl rfl) rfl <| vl (ex rfl rfl) rfl <| vl (ex rfl rfl) rfl <| vl (as_ rfl) rfl <| vl (as_ rfl) rfl <| vl (as_ rfl) rfl <| nl <| nT <| sq <| rg <| ?_
  have B_5 := B_5.later x_48
  refine vl (ld rfl (B_5.all MrK_ag_api_World MrK_sz_api_World)) rfl <| vl (fa MrK_fd_api_Troop_0 rfl) rfl <| ?_
  have B_26 := B_26.later x_48
  refine vl (ld rfl (B_26.one MrK_ag_int rfl)) rfl <| ?_
  have B_12 := B_12.later x_48
  refine vl (ld rfl (B_12.all MrK_ag_api_Cell MrK_sz_api_Cell)) rfl <| ?_
  have B_37 := B_37.mod m_41 (by simp only [List.mem_singleton]; omega)
  have B_37 := B_37.later x_48
  refine ca MrK_en_march_Reach rfl rfl ((mreach_any (⟨a.P, a.B, a.S, a.M, some ⟨b_34, 0, none⟩, a.p, a.b, a.s, a.m, 1⟩ : Wd.At) ({ W with troops := [t] } : Wd) t.id 200 to _ ⟨(hW.P.keep z_47), (hW.B.keep z_47), (hW.S.keep z_47), (hW.M.keep z_47), (Blk.hasN (R := Trp.rep) (by_ := 56) (k := [t]) B_37 [[.int .i64 t.id, .int .i64 t.owner, .int .i64 t.kind, .int .i64 t.spot.x, .int .i64 t.spot.y, .int .i64 t.life, .int .i64 t.load]] rfl (⟨⟨rfl, hokt⟩, trivial⟩) (by simp) (by simp)), hW.nums⟩ hokt.1 hto).mono ?_)
  rintro e w_53 ⟨a50, rfl, HO50, x_54⟩
  refine ⟨_, rfl, ?_⟩
  have q_55 := x_54.size
  have z_53 := Ext.tr z_47 x_54
  have u_51 := fun q hq => (HO50.lt q hq).2
  have lo_52 := fun q hq => (HO50.lt q hq).1
  refine vl (mv rfl) rfl <| vl (ex rfl rfl) rfl <| vl (ex rfl rfl) rfl <| vl (ex rfl rfl) rfl <| al rfl MrK_zv_api_World rfl rfl fun w_56 b_57 x_58 l_59 B_60 => ?_
  have q_61 := x_58.size
  have z_56 := Ext.tr z_53 x_58
  have q_62 := B_60.lt
  refine st rfl rfl B_60 rfl MrK_sz_api_World rfl rfl rfl fun w_63 m_64 B_60 => ?_
  have q_66 := m_64.size
  have z_63 := Ext.mod z_56 m_64 (by simp only [List.mem_singleton, forall_eq]; omega)
  have q_65 := m_64.size
  refine vl (as_ rfl) rfl <| vl (as_ rfl) rfl <| nl <| nT <| sq <| sq <| rg <| vl (mv rfl) rfl <| vl (bne rfl rfl) rfl <| vl (mv (evb rfl k2)) rfl <| ug rfl rfl rfl <| vl (fa MrK_fd_api_World_4 rfl) rfl <| ug rfl rfl rfl <| vl (ld rfl (B_60.one MrK_ag_S_api_Troop rfl)) rfl <| ug rfl rfl rfl <| vl (ln Try.underlying47 rfl) rfl <| ug rfl rfl rfl <| vl (bne rfl rfl) rfl <| vl (pkF rfl rfl) rfl <| nl <| nT <| ?_
  have h_67 : (((((reachW ({ W with troops := [t] } : Wd) t.id to 200).troops.length : Nat) : Int)) != 1) = false := by rw [r2]; rfl
  refine cF (by rw [← h_67]; rfl) <| sk <| nT <| sq <| sq <| rg <| vl (mv rfl) rfl <| vl (bne rfl rfl) rfl <| nl <| nT <| cF (evb rfl k3) <| sk <| nT <| sq <| ?_
  refine rd [(8, 0), (11, 0), (15, 0)] [0, 1, 2, 3, 4, 5, 6, 7, 8, 9, 10, 11, 12, 13, 14, 15, 16, 17, 18] (by kernel_rfl) (by kernel_rfl) ?_
  refine fw rfl rfl (fun _ => mv rfl) rfl <| fw rfl rfl (fun _ => mv rfl) rfl <| fw rfl rfl (fun _ => ln Try.underlying25 rfl) rfl <| fw rfl rfl (fun _ => bsu rfl rfl (inI (by omega))) rfl <| fw rfl rfl (fun _ => mn rfl rfl) rfl <| fw rfl rfl (fun _ => beq rfl rfl) rfl <| fw rfl rfl (fun _ => mv rfl) rfl <| fW rfl rfl rfl rfl rfl rfl (fun hc _ => fa MrK_fd_api_World_4 rfl) rfl <| fQ rfl rfl rfl rfl rfl rfl (fun hc _ x => ld (gt hc rfl) ((B_60.later x).one MrK_ag_S_api_Troop rfl)) rfl <| ?_
  have HO50 := HO50.later x_58
  have HO50 := HO50.mod m_64 (fun q hq h => by have hb := List.mem_singleton.1 h; exfalso; (have := u_51 q hq; omega))
  refine fW rfl rfl rfl rfl rfl rfl (fun hc _ => iA 0 Try.underlying47 MrK_sz_api_Troop (gt hc rfl) rfl (HO50.T.has.adr (Nat.zero_lt_of_lt (show 0 < _ from (by rw [r2]; exact Nat.zero_lt_one)))) rfl (by rw [r2]; exact Nat.zero_lt_one)) rfl <| fW rfl rfl rfl rfl rfl rfl (fun hc _ => fa MrK_fd_api_Troop_3 (gt hc rfl)) rfl <| fQ rfl rfl rfl rfl rfl rfl (fun hc _ x => ld (gt hc rfl) (Rep.SHas.part hcT ((HO50.later x).T.has.adh (Nat.zero_lt_of_lt (show 0 < _ from (by rw [r2]; exact Nat.zero_lt_one)))) 3 (ds := [.int .i64 ((t.to y).spot.x), .int .i64 ((t.to y).spot.y)]) (show (reachW ({ W with troops := [t] } : Wd) t.id to 200).troops[0]? = _ from (by rw [r2, hy]; rfl)) rfl MrK_ag_api_Cell MrK_sz_api_Cell)) rfl <| fW rfl rfl rfl rfl rfl rfl (fun hc _ => mv rfl) rfl <| fW rfl rfl rfl rfl rfl rfl (fun hc _ => mv rfl) rfl <| ?_
  have OY44 := OY44.later (Ext.tr x_54 x_58)
  have OY44 := OY44.mod m_64 (fun q hq h => by have hb := List.mem_singleton.1 h; exfalso; (have := u_45 q hq; omega))
  refine fW rfl rfl rfl rfl rfl rfl (fun hc _ => iA (((reachN ({ W with troops := [t] } : Wd) t.id to 200 : Int)).toNat) Try.underlying25 MrK_sz_api_Cell (gt hc rfl) (gt hc rfl) (OY44.has.adr (Nat.zero_lt_of_lt (show ((reachN ({ W with troops := [t] } : Wd) t.id to 200 : Int)).toNat < _ from (by omega)))) (by (try simp only [Bool.or_eq_true, Bool.or_eq_false_iff, Bool.and_eq_true, Bool.and_eq_false_iff, decide_eq_true_eq, decide_eq_false_iff_not, beq_iff_eq, bne_iff_ne, beq_eq_false_iff_ne, bne_eq_false_iff_eq, Bool.not_eq_true', Bool.not_eq_false', Bool.not_eq_true, Bool.not_eq_false, Int.not_lt, Int.not_le, Nat.not_lt, Nat.not_le, ne_eq, Classical.not_not] at hc); omega) (by omega)) rfl <| fQ rfl rfl rfl rfl rfl rfl (fun hc _ x => ld (gt hc rfl) (Rep.SHas.elt hcC ((OY44.later x).has.adh (Nat.zero_lt_of_lt (show ((reachN ({ W with troops := [t] } : Wd) t.id to 200 : Int)).toNat < _ from (by omega)))) (mr_getK (by omega) (by rw [r1]; exact hy)) MrK_ag_api_Cell MrK_sz_api_Cell)) rfl <| fW rfl rfl rfl rfl rfl rfl (fun hc _ => bqS MrK_eqs_api_Cell MrK_eqg_api_Cell (p := (t.to y).spot) (q := y) (gt hc rfl) (gt hc rfl)) rfl <| fw rfl rfl (fun _ => pA rfl rfl rfl rfl) rfl <| fw rfl rfl (fun _ => as_ rfl) rfl <| fn fun w_68 x_69 => ?_
  have q_70 := x_69.size
  have z_68 := Ext.tr z_63 x_69
  refine nT <| rt <| tR (.tmp rfl .nil) <| ?_
  exact ⟨ret_true (by rw [r1]; simp; exact ⟨by omega, rfl⟩), z_68⟩
theorem marchComes_any (c0 : Array Value) (a1 : Int) (c2 : Array Value) (w : World) (h0 : (.cons (.cons (.int .i64) (.cons (.int .i64) (.cons (.slice (.int .i64) 8) .nil))) (.cons (.slice (.cons (.int .i64) (.cons (.int .i64) .nil)) 16) (.cons (.slice (.int .i64) 8) (.cons (.slice (.int .i64) 8) (.cons (.slice (.cons (.int .i64) (.cons (.int .i64) (.cons (.int .i64) (.cons (.cons (.int .i64) (.cons (.int .i64) .nil)) (.cons (.int .i64) (.cons (.int .i64) .nil)))))) 56) (.cons (.int .i64) (.cons (.int .i64) .nil)))))) : Sh).Ok w c0.toList) (w1 : (Lit.int .i64 a1).wf = true) (h2 : (.cons (.int .i64) (.cons (.int .i64) .nil) : Sh).Ok w c2.toList) :
    Calls Try.prog 11 #[.agg c0, .int .i64 a1, .agg c2] w fun e w' => e = .returned (.bool true) ∧ Below w.heap.size w w' := by
  obtain ⟨a, W, e, hW⟩ := Wd.opens w _ (show Wd.sh.Ok w c0.toList from h0)
  have hc : c0 = (Wd.cells a W).toArray := by rw [← e]
  subst hc
  obtain ⟨to, hto0⟩ := Cel.opens w _ (show Cel.sh.Ok w c2.toList from h2)
  obtain ⟨e2, hto⟩ := (show _ ∧ _ from hto0)
  have hc2 : c2 = #[.int .i64 to.x, .int .i64 to.y] := by apply Array.ext'; rw [e2]; rfl
  subst hc2
  by_cases k1 : W.chk = 0
  · by_cases k2 : a1 < 0 ∨ (W.troops.length : Int) ≤ a1
    · exact marchComes_out a W a1 to w hW hto k1 k2
    · by_cases k3 : findE W.field (W.troops.getD a1.toNat default).spot to = 0
      · exact marchComes_yes a W a1 to _ w hW hto k1 (by omega) (by omega) rfl k3
      · exact marchComes_no a W a1 to _ w hW hto k1 (by omega) (by omega) rfl k3
  · exact marchComes_bad a W a1 to w hW hto k1
end Go.Proofs.Ytffjpfpbpnhmcaa
