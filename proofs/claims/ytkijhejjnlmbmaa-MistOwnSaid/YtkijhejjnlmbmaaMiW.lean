/-
  MistOwn. (Printed by bin/mistlaw.py.)
-/
import Derived.Test.YtkijhejjnlmbmaaMiL
import Derived.Test.YtkijhejjnlmbmaaLawS
set_option linter.unusedVariables false
set_option linter.unusedSimpArgs false
namespace Go.Proofs.Ytkijhejjnlmbmaa
open Go.RowKit

theorem MiW_fd_api_World_4 : Fd Try.prog 46 4 6 := fun _ _ _ => by kernel_rfl
theorem MiW_ag_S_api_Troop : Ag Try.prog 44 false := fun _ => by kernel_rfl
theorem MiW_en_slices_Equal_S_api_Troop_api_Troop_ : Enters Try.prog 35 := en Try.func35 (by kernel_rfl) (by kernel_rfl)
theorem MiW_fd_api_World_0 : Fd Try.prog 46 0 0 := fun _ _ _ => by kernel_rfl
theorem MiW_fd_api_Field_2 : Fd Try.prog 24 2 2 := fun _ _ _ => by kernel_rfl
theorem MiW_ag_S_int : Ag Try.prog 22 false := fun _ => by kernel_rfl
theorem MiW_en_slices_Equal_S_int_int_ : Enters Try.prog 21 := en Try.func21 (by kernel_rfl) (by kernel_rfl)
theorem MiW_fd_api_World_1 : Fd Try.prog 46 1 3 := fun _ _ _ => by kernel_rfl
theorem MiW_ag_S_api_Cell : Ag Try.prog 43 false := fun _ => by kernel_rfl
theorem MiW_en_slices_Equal_S_api_Cell_api_Cell_ : Enters Try.prog 29 := en Try.func29 (by kernel_rfl) (by kernel_rfl)
theorem MiW_fd_api_World_2 : Fd Try.prog 46 2 4 := fun _ _ _ => by kernel_rfl
theorem MiW_fd_api_World_3 : Fd Try.prog 46 3 5 := fun _ _ _ => by kernel_rfl
theorem MiW_en_slices_Clone_S_api_Troop_api_Troop_ : Enters Try.prog 32 := en Try.func32 (by kernel_rfl) (by kernel_rfl)
theorem MiW_en_slices_Clone_S_int_int_ : Enters Try.prog 19 := en Try.func19 (by kernel_rfl) (by kernel_rfl)
theorem MiW_zv_S_api_Troop : Zv Try.prog 44 (.slice none 0 0) := fun _ => by kernel_rfl
theorem MiW_zv_S_int : Zv Try.prog 22 (.slice none 0 0) := fun _ => by kernel_rfl
theorem MiW_sz_S_api_Troop : Sz Try.prog 44 1 := fun _ => by kernel_rfl
theorem MiW_sz_S_int : Sz Try.prog 22 1 := fun _ => by kernel_rfl
theorem MiW_en_slices_Clone_S_api_Cell_api_Cell_ : Enters Try.prog 33 := en Try.func33 (by kernel_rfl) (by kernel_rfl)
theorem MiW_zv_S_api_Cell : Zv Try.prog 43 (.slice none 0 0) := fun _ => by kernel_rfl
theorem MiW_sz_S_api_Cell : Sz Try.prog 43 1 := fun _ => by kernel_rfl
theorem MiW_ag_api_World : Ag Try.prog 46 true := fun _ => by kernel_rfl
theorem MiW_sz_api_World : Sz Try.prog 46 9 := fun _ => by kernel_rfl
theorem MiW_en_mist_View : Enters Try.prog 25 := en Try.func25 (by kernel_rfl) (by kernel_rfl)
theorem MiW_zv_api_World : Zv Try.prog 46 (.agg #[.int .i64 0, .int .i64 0, .slice none 0 0, .slice none 0 0, .slice none 0 0, .slice none 0 0, .slice none 0 0, .int .i64 0, .int .i64 0]) := fun _ => by kernel_rfl
theorem MiW_en_mustkeep_MistOwn_1 : Enters Try.prog 34 := en Try.func34 (by kernel_rfl) (by kernel_rfl)
theorem MiW_en_mustkeep_spoilWorld : Enters Try.prog 36 := en Try.func36 (by kernel_rfl) (by kernel_rfl)
theorem MiW_en_mustkeep_mistLives : Enters Try.prog 26 := en Try.func26 (by kernel_rfl) (by kernel_rfl)
set_option maxRecDepth 100000 in
set_option maxHeartbeats 400000 in
theorem ownSameMiW (a : Wd.At) (W : Wd) (b0 bT bP bB bS bM : Nat) (AT AP AB AS AM : Option Addr) (cT cP cB cS cM : Nat) (w : World) (hW : Wd.Has w a W) (H0 : Blk w b0 (Wd.cells a W) 46 (0, 0)) (HT : Blk w bT [.slice AT W.troops.length cT] 44 (0, 0)) (hT : Trp.rep.SHas 56 w AT cT W.troops) (HP : Blk w bP [.slice AP W.field.places.length cP] 22 (0, 0)) (hP : repI.SHas 8 w AP cP W.field.places) (HB : Blk w bB [.slice AB W.bases.length cB] 43 (0, 0)) (hB : Cel.rep.SHas 16 w AB cB W.bases) (HS : Blk w bS [.slice AS W.stocks.length cS] 22 (0, 0)) (hS : repI.SHas 8 w AS cS W.stocks) (HM : Blk w bM [.slice AM W.mines.length cM] 22 (0, 0)) (hM : repI.SHas 8 w AM cM W.mines) :
    Calls Try.prog 34 #[.pointer (some ⟨b0, 0, none⟩), .pointer (some ⟨bT, 0, none⟩), .pointer (some ⟨bP, 0, none⟩), .pointer (some ⟨bB, 0, none⟩), .pointer (some ⟨bS, 0, none⟩), .pointer (some ⟨bM, 0, none⟩)] w (fun e w' => e = .returned (.bool true) ∧ Ext w w') := by
  refine calls_W (n := 36) Try.func34 rfl rfl rfl ?_
  refine sq <| rg <| vl (as_ rfl) rfl <| nl <| nT <| sq <| rg <| vl (fa MiW_fd_api_World_4 rfl) rfl <| vl (ld rfl (H0.one MiW_ag_S_api_Troop rfl)) rfl <| vl (ld rfl (HT.one MiW_ag_S_api_Troop rfl)) rfl <| ca MiW_en_slices_Equal_S_api_Troop_api_Troop_ rfl rfl ((equal_T _ _ _ _ _ _ W.troops W.troops _ (hW.T.keep (Ext.rf w)) (hT.keep (Ext.rf w))).mono ?_)
  rintro e w_1 ⟨rfl, x_2⟩
  refine ⟨_, rfl, ?_⟩
  have q_3 := x_2.size
  have z_1 := Ext.tr (Ext.rf w) x_2
  refine vl (mv rfl) rfl <| vQ rfl rfl rfl rfl (fun hc => fa MiW_fd_api_World_0 rfl) rfl <| vQ rfl rfl rfl rfl (fun hc => fa MiW_fd_api_Field_2 (gt hc rfl)) rfl <| ?_
  have H0 := H0.later x_2
  refine vQ rfl rfl rfl rfl (fun hc => ld (gt hc rfl) (H0.one MiW_ag_S_int rfl)) rfl <| ?_
  have HP := HP.later x_2
  refine vQ rfl rfl rfl rfl (fun hc => ld rfl (HP.one MiW_ag_S_int rfl)) rfl <| vC rfl rfl rfl rfl MiW_en_slices_Equal_S_int_int_ (fun hc => ec (gt hc rfl) (ec (gt hc rfl) rfl)) (fun hc => equal_Z _ _ _ _ _ _ W.field.places W.field.places _ (hW.P.keep z_1) (hP.keep z_1)) rfl fun w_4 x_5 => ?_
  have q_6 := x_5.size
  have z_4 := Ext.tr z_1 x_5
  refine vl (pA rfl rfl rfl rfl) rfl <| vl (mv rfl) rfl <| vQ rfl rfl rfl rfl (fun hc => fa MiW_fd_api_World_1 rfl) rfl <| ?_
  have H0 := H0.later x_5
  refine vQ rfl rfl rfl rfl (fun hc => ld (gt hc rfl) (H0.one MiW_ag_S_api_Cell rfl)) rfl <| ?_
  have HB := HB.later (Ext.tr x_2 x_5)
  refine vQ rfl rfl rfl rfl (fun hc => ld rfl (HB.one MiW_ag_S_api_Cell rfl)) rfl <| vC rfl rfl rfl rfl MiW_en_slices_Equal_S_api_Cell_api_Cell_ (fun hc => ec (gt hc rfl) (ec (gt hc rfl) rfl)) (fun hc => equal_C _ _ _ _ _ _ W.bases W.bases _ (hW.B.keep z_4) (hB.keep z_4)) rfl fun w_7 x_8 => ?_
  have q_9 := x_8.size
  have z_7 := Ext.tr z_4 x_8
  refine vl (pA rfl rfl rfl rfl) rfl <| vl (mv rfl) rfl <| vQ rfl rfl rfl rfl (fun hc => fa MiW_fd_api_World_2 rfl) rfl <| ?_
  have H0 := H0.later x_8
  refine vQ rfl rfl rfl rfl (fun hc => ld (gt hc rfl) (H0.one MiW_ag_S_int rfl)) rfl <| ?_
  have HS := HS.later (Ext.tr x_2 (Ext.tr x_5 x_8))
  refine vQ rfl rfl rfl rfl (fun hc => ld rfl (HS.one MiW_ag_S_int rfl)) rfl <| vC rfl rfl rfl rfl MiW_en_slices_Equal_S_int_int_ (fun hc => ec (gt hc rfl) (ec (gt hc rfl) rfl)) (fun hc => equal_Z _ _ _ _ _ _ W.stocks W.stocks _ (hW.S.keep z_7) (hS.keep z_7)) rfl fun w_10 x_11 => ?_
  have q_12 := x_11.size
  have z_10 := Ext.tr z_7 x_11
  refine vl (pA rfl rfl rfl rfl) rfl <| vl (mv rfl) rfl <| vQ rfl rfl rfl rfl (fun hc => fa MiW_fd_api_World_3 rfl) rfl <| ?_
  have H0 := H0.later x_11
  refine vQ rfl rfl rfl rfl (fun hc => ld (gt hc rfl) (H0.one MiW_ag_S_int rfl)) rfl <| ?_
  have HM := HM.later (Ext.tr x_2 (Ext.tr x_5 (Ext.tr x_8 x_11)))
  refine vQ rfl rfl rfl rfl (fun hc => ld rfl (HM.one MiW_ag_S_int rfl)) rfl <| vC rfl rfl rfl rfl MiW_en_slices_Equal_S_int_int_ (fun hc => ec (gt hc rfl) (ec (gt hc rfl) rfl)) (fun hc => equal_Z _ _ _ _ _ _ W.mines W.mines _ (hW.M.keep z_10) (hM.keep z_10)) rfl fun w_13 x_14 => ?_
  have q_15 := x_14.size
  have z_13 := Ext.tr z_10 x_14
  refine vl (pA rfl rfl rfl rfl) rfl <| vl (as_ rfl) rfl <| nl <| nT <| rt <| tR (.tmp rfl .nil) <| ?_
  exact ⟨ret_true (by simp), z_13⟩
set_option maxRecDepth 100000 in
set_option maxHeartbeats 400000 in
theorem mistOwn_walk (a : Wd.At) (W : Wd) (p : Int) (w : World) (hW : Wd.Has w a W) :
    Calls Try.prog 8 #[.agg ((Wd.cells a W).toArray), .int .i64 p] w (fun e w' => e = .returned (.bool true) ∧ Ext w w') := by
  refine calls_W (n := 49) Try.func8 rfl rfl rfl ?_
  refine sq <| rg <| bx rfl rfl rfl rfl fun w_1 b_2 x_3 l_4 B_5 => ?_
  have q_6 := x_3.size
  have z_1 := Ext.tr (Ext.rf w) x_3
  have q_7 := B_5.lt
  refine vl (as_ rfl) rfl <| nl <| nT <| sq <| ?_
  refine rB [(1, 0), (2, 2), (5, 0), (6, 2), (7, 2), (8, 2), (9, 3), (10, 3)] [0, 1, 3, 4, 5] [2, 6, 7, 8] [9, 10] (by kernel_rfl) (by kernel_rfl) ?_
  refine fw rfl rfl (fun _ => fa MiW_fd_api_World_4 rfl) rfl <| fq rfl rfl (fun _ x => ld rfl ((B_5.later x).one MiW_ag_S_api_Troop rfl)) rfl <| fw rfl rfl (fun _ => fa MiW_fd_api_World_0 rfl) rfl <| fw rfl rfl (fun _ => fa MiW_fd_api_Field_2 rfl) rfl <| fq rfl rfl (fun _ x => ld rfl ((B_5.later x).one MiW_ag_S_int rfl)) rfl <| fn fun w_8 x_9 => ?_
  have q_10 := x_9.size
  have z_8 := Ext.tr z_1 x_9
  refine bt [(2, 16, fun v_ f_ w_ => ∃ A_ c_, v_ = .slice A_ (W.troops).length c_ ∧ f_ = Rep.blkOf A_ ∧ Trp.rep.SOwn 51 56 w_ w_8.heap.size (Rep.blkOf A_) A_ c_ (W.troops)), (6, 20, fun v_ f_ w_ => ∃ A_ c_, v_ = .slice A_ (W.field.places).length c_ ∧ f_ = Rep.blkOf A_ ∧ repI.SOwn 3 8 w_ w_8.heap.size (Rep.blkOf A_) A_ c_ (W.field.places)), (7, 5, NewB [.slice none 0 0] 44), (8, 6, NewB [.slice none 0 0] 22)] (am (mk_call MiW_en_slices_Clone_S_api_Troop_api_Troop_ _ rfl rfl rfl rfl (fun _ _ _ _ ⟨A, c, h1, h2, h3⟩ x => ⟨A, c, h1, h2, h3.later x⟩) (fun w_11 x_12 => (clone_T _ _ W.troops _ (hW.T.keep (Ext.tr z_8 x_12))).mono fun e w2 ⟨A, c, he, hO, hn, hx⟩ => ⟨_, _, he, hx, fun q hq => hO.lt q hq, A, c, rfl, rfl, hO.down x_12.size⟩)) (am (mk_call MiW_en_slices_Clone_S_int_int_ _ rfl rfl rfl rfl (fun _ _ _ _ ⟨A, c, h1, h2, h3⟩ x => ⟨A, c, h1, h2, h3.later x⟩) (fun w_16 x_17 => (clone_I _ _ W.field.places _ (hW.P.keep (Ext.tr z_8 x_17))).mono fun e w2 ⟨A, c, he, hO, hn, hx⟩ => ⟨_, _, he, hx, fun q hq => hO.lt q hq, A, c, rfl, rfl, hO.down x_17.size⟩)) (am (mk_alloc rfl MiW_zv_S_api_Troop rfl rfl rfl) (am (mk_alloc rfl MiW_zv_S_int rfl rfl rfl) an)))) rfl rfl rfl ?_
  intro w_21 vs_23 fs_24 x_22 hP_25 hD_26
  have q_27 := x_22.size
  have z_21 := Ext.tr z_8 x_22
  obtain ⟨⟨A_31, c_32, hv_28, hf_29, O_33⟩, hb_30⟩ := hP_25 _ (List.Mem.head _)
  have u_34 := fun q hq => (O_33.lt q hq).2
  have lo_35 := fun q hq => (O_33.lt q hq).1
  obtain ⟨⟨A_39, c_40, hv_36, hf_37, O_41⟩, hb_38⟩ := hP_25 _ (List.Mem.tail _ (List.Mem.head _))
  have u_42 := fun q hq => (O_41.lt q hq).2
  have lo_43 := fun q hq => (O_41.lt q hq).1
  obtain ⟨⟨b_47, hv_44, hf_45, B_48⟩, hb_46⟩ := hP_25 _ (List.Mem.tail _ (List.Mem.tail _ (List.Mem.head _)))
  have q_49 := B_48.lt
  have l_50 := (hb_46 b_47 (by rw [hf_45]; exact List.Mem.head _)).1
  obtain ⟨⟨b_54, hv_51, hf_52, B_55⟩, hb_53⟩ := hP_25 _ (List.Mem.tail _ (List.Mem.tail _ (List.Mem.tail _ (List.Mem.head _))))
  have q_56 := B_55.lt
  have l_57 := (hb_53 b_54 (by rw [hf_52]; exact List.Mem.head _)).1
  have d_58 : ∀ q, q ∈ Rep.blkOf A_39 → q ∈ Rep.blkOf A_31 → False := fun q h1 h2 => hD_26 _ (List.Mem.tail _ (List.Mem.head _)) _ (List.Mem.head _) (show (6 : Nat) ≠ 2 by decide) q (by rw [hf_37]; exact h1) (by rw [hf_29]; exact h2)
  have d_59 : ∀ q, q = b_47 → q ∈ Rep.blkOf A_31 → False := fun q h1 h2 => hD_26 _ (List.Mem.tail _ (List.Mem.tail _ (List.Mem.head _))) _ (List.Mem.head _) (show (7 : Nat) ≠ 2 by decide) q (by rw [hf_45, h1]; exact List.Mem.head _) (by rw [hf_29]; exact h2)
  have d_60 : ∀ q, q = b_47 → q ∈ Rep.blkOf A_39 → False := fun q h1 h2 => hD_26 _ (List.Mem.tail _ (List.Mem.tail _ (List.Mem.head _))) _ (List.Mem.tail _ (List.Mem.head _)) (show (7 : Nat) ≠ 6 by decide) q (by rw [hf_45, h1]; exact List.Mem.head _) (by rw [hf_37]; exact h2)
  have d_61 : ∀ q, q = b_54 → q ∈ Rep.blkOf A_31 → False := fun q h1 h2 => hD_26 _ (List.Mem.tail _ (List.Mem.tail _ (List.Mem.tail _ (List.Mem.head _)))) _ (List.Mem.head _) (show (8 : Nat) ≠ 2 by decide) q (by rw [hf_52, h1]; exact List.Mem.head _) (by rw [hf_29]; exact h2)
  have d_62 : ∀ q, q = b_54 → q ∈ Rep.blkOf A_39 → False := fun q h1 h2 => hD_26 _ (List.Mem.tail _ (List.Mem.tail _ (List.Mem.tail _ (List.Mem.head _)))) _ (List.Mem.tail _ (List.Mem.head _)) (show (8 : Nat) ≠ 6 by decide) q (by rw [hf_52, h1]; exact List.Mem.head _) (by rw [hf_37]; exact h2)
  have n_63 : b_54 ≠ b_47 := fun e => hD_26 _ (List.Mem.tail _ (List.Mem.tail _ (List.Mem.tail _ (List.Mem.head _)))) _ (List.Mem.tail _ (List.Mem.tail _ (List.Mem.head _))) (show (8 : Nat) ≠ 7 by decide) b_54 (by rw [hf_52]; exact List.Mem.head _) (by rw [hf_45, e]; exact List.Mem.head _)
  show FL _ _ _ _ _ _ ((16, vs_23 2) :: (20, vs_23 6) :: (5, vs_23 7) :: (6, vs_23 8) :: _) _
  rw [hv_28, hv_36, hv_44, hv_51]
  refine fb rfl rfl rfl fun w_64 x_65 Q hK => st (new := [.slice A_31 ((W.troops).length) c_32]) rfl rfl (B_48.later x_65) rfl MiW_sz_S_api_Troop rfl rfl rfl fun w_66 m_67 B_48 => hK _ _ ?_
  have q_69 := x_65.size
  have z_64 := Ext.tr z_21 x_65
  have q_70 := m_67.size
  have z_66 := Ext.mod z_64 m_67 (by simp only [List.mem_singleton, forall_eq]; omega)
  have q_68 := m_67.size
  have B_55 := B_55.later x_65
  have B_55 := B_55.mod m_67 (by simp only [List.mem_singleton]; omega)
  refine fb rfl rfl rfl fun w_71 x_72 Q hK => st (new := [.slice A_39 ((W.field.places).length) c_40]) rfl rfl (B_55.later x_72) rfl MiW_sz_S_int rfl rfl rfl fun w_73 m_74 B_55 => hK _ _ ?_
  have q_76 := x_72.size
  have z_71 := Ext.tr z_66 x_72
  have q_77 := m_74.size
  have z_73 := Ext.mod z_71 m_74 (by simp only [List.mem_singleton, forall_eq]; omega)
  have q_75 := m_74.size
  refine fn fun w_78 x_79 => ?_
  have q_80 := x_79.size
  have z_78 := Ext.tr z_73 x_79
  refine nT <| sq <| ?_
  refine rB [(1, 0), (2, 2), (4, 0), (5, 2), (7, 0), (8, 2), (9, 2), (10, 2), (11, 2), (12, 3), (13, 3), (14, 3)] [0, 1, 3, 4, 6, 7] [2, 5, 8, 9, 10, 11] [12, 13, 14] (by kernel_rfl) (by kernel_rfl) ?_
  refine fw rfl rfl (fun _ => fa MiW_fd_api_World_1 rfl) rfl <| ?_
  have B_5 := B_5.later (Ext.tr x_9 (Ext.tr x_22 x_65))
  have B_5 := B_5.mod m_67 (by simp only [List.mem_singleton]; omega)
  have B_5 := B_5.later x_72
  have B_5 := B_5.mod m_74 (by simp only [List.mem_singleton]; omega)
  have B_5 := B_5.later x_79
  refine fq rfl rfl (fun _ x => ld rfl ((B_5.later x).one MiW_ag_S_api_Cell rfl)) rfl <| fw rfl rfl (fun _ => fa MiW_fd_api_World_2 rfl) rfl <| fq rfl rfl (fun _ x => ld rfl ((B_5.later x).one MiW_ag_S_int rfl)) rfl <| fw rfl rfl (fun _ => fa MiW_fd_api_World_3 rfl) rfl <| fq rfl rfl (fun _ x => ld rfl ((B_5.later x).one MiW_ag_S_int rfl)) rfl <| fn fun w_81 x_82 => ?_
  have q_83 := x_82.size
  have z_81 := Ext.tr z_78 x_82
  refine bt [(2, 23, fun v_ f_ w_ => ∃ A_ c_, v_ = .slice A_ (W.bases).length c_ ∧ f_ = Rep.blkOf A_ ∧ Cel.rep.SOwn 42 16 w_ w_81.heap.size (Rep.blkOf A_) A_ c_ (W.bases)), (5, 26, fun v_ f_ w_ => ∃ A_ c_, v_ = .slice A_ (W.stocks).length c_ ∧ f_ = Rep.blkOf A_ ∧ repI.SOwn 3 8 w_ w_81.heap.size (Rep.blkOf A_) A_ c_ (W.stocks)), (8, 29, fun v_ f_ w_ => ∃ A_ c_, v_ = .slice A_ (W.mines).length c_ ∧ f_ = Rep.blkOf A_ ∧ repI.SOwn 3 8 w_ w_81.heap.size (Rep.blkOf A_) A_ c_ (W.mines)), (9, 7, NewB [.slice none 0 0] 43), (10, 8, NewB [.slice none 0 0] 22), (11, 9, NewB [.slice none 0 0] 22)] (am (mk_call MiW_en_slices_Clone_S_api_Cell_api_Cell_ _ rfl rfl rfl rfl (fun _ _ _ _ ⟨A, c, h1, h2, h3⟩ x => ⟨A, c, h1, h2, h3.later x⟩) (fun w_84 x_85 => (clone_C _ _ W.bases _ (hW.B.keep (Ext.tr z_81 x_85))).mono fun e w2 ⟨A, c, he, hO, hn, hx⟩ => ⟨_, _, he, hx, fun q hq => hO.lt q hq, A, c, rfl, rfl, hO.down x_85.size⟩)) (am (mk_call MiW_en_slices_Clone_S_int_int_ _ rfl rfl rfl rfl (fun _ _ _ _ ⟨A, c, h1, h2, h3⟩ x => ⟨A, c, h1, h2, h3.later x⟩) (fun w_89 x_90 => (clone_I _ _ W.stocks _ (hW.S.keep (Ext.tr z_81 x_90))).mono fun e w2 ⟨A, c, he, hO, hn, hx⟩ => ⟨_, _, he, hx, fun q hq => hO.lt q hq, A, c, rfl, rfl, hO.down x_90.size⟩)) (am (mk_call MiW_en_slices_Clone_S_int_int_ _ rfl rfl rfl rfl (fun _ _ _ _ ⟨A, c, h1, h2, h3⟩ x => ⟨A, c, h1, h2, h3.later x⟩) (fun w_94 x_95 => (clone_I _ _ W.mines _ (hW.M.keep (Ext.tr z_81 x_95))).mono fun e w2 ⟨A, c, he, hO, hn, hx⟩ => ⟨_, _, he, hx, fun q hq => hO.lt q hq, A, c, rfl, rfl, hO.down x_95.size⟩)) (am (mk_alloc rfl MiW_zv_S_api_Cell rfl rfl rfl) (am (mk_alloc rfl MiW_zv_S_int rfl rfl rfl) (am (mk_alloc rfl MiW_zv_S_int rfl rfl rfl) an)))))) rfl rfl rfl ?_
  intro w_99 vs_101 fs_102 x_100 hP_103 hD_104
  have q_105 := x_100.size
  have z_99 := Ext.tr z_81 x_100
  obtain ⟨⟨A_109, c_110, hv_106, hf_107, O_111⟩, hb_108⟩ := hP_103 _ (List.Mem.head _)
  have u_112 := fun q hq => (O_111.lt q hq).2
  have lo_113 := fun q hq => (O_111.lt q hq).1
  obtain ⟨⟨A_117, c_118, hv_114, hf_115, O_119⟩, hb_116⟩ := hP_103 _ (List.Mem.tail _ (List.Mem.head _))
  have u_120 := fun q hq => (O_119.lt q hq).2
  have lo_121 := fun q hq => (O_119.lt q hq).1
  obtain ⟨⟨A_125, c_126, hv_122, hf_123, O_127⟩, hb_124⟩ := hP_103 _ (List.Mem.tail _ (List.Mem.tail _ (List.Mem.head _)))
  have u_128 := fun q hq => (O_127.lt q hq).2
  have lo_129 := fun q hq => (O_127.lt q hq).1
  obtain ⟨⟨b_133, hv_130, hf_131, B_134⟩, hb_132⟩ := hP_103 _ (List.Mem.tail _ (List.Mem.tail _ (List.Mem.tail _ (List.Mem.head _))))
  have q_135 := B_134.lt
  have l_136 := (hb_132 b_133 (by rw [hf_131]; exact List.Mem.head _)).1
  obtain ⟨⟨b_140, hv_137, hf_138, B_141⟩, hb_139⟩ := hP_103 _ (List.Mem.tail _ (List.Mem.tail _ (List.Mem.tail _ (List.Mem.tail _ (List.Mem.head _)))))
  have q_142 := B_141.lt
  have l_143 := (hb_139 b_140 (by rw [hf_138]; exact List.Mem.head _)).1
  obtain ⟨⟨b_147, hv_144, hf_145, B_148⟩, hb_146⟩ := hP_103 _ (List.Mem.tail _ (List.Mem.tail _ (List.Mem.tail _ (List.Mem.tail _ (List.Mem.tail _ (List.Mem.head _))))))
  have q_149 := B_148.lt
  have l_150 := (hb_146 b_147 (by rw [hf_145]; exact List.Mem.head _)).1
  have d_151 : ∀ q, q ∈ Rep.blkOf A_117 → q ∈ Rep.blkOf A_109 → False := fun q h1 h2 => hD_104 _ (List.Mem.tail _ (List.Mem.head _)) _ (List.Mem.head _) (show (5 : Nat) ≠ 2 by decide) q (by rw [hf_115]; exact h1) (by rw [hf_107]; exact h2)
  have d_152 : ∀ q, q ∈ Rep.blkOf A_125 → q ∈ Rep.blkOf A_109 → False := fun q h1 h2 => hD_104 _ (List.Mem.tail _ (List.Mem.tail _ (List.Mem.head _))) _ (List.Mem.head _) (show (8 : Nat) ≠ 2 by decide) q (by rw [hf_123]; exact h1) (by rw [hf_107]; exact h2)
  have d_153 : ∀ q, q ∈ Rep.blkOf A_125 → q ∈ Rep.blkOf A_117 → False := fun q h1 h2 => hD_104 _ (List.Mem.tail _ (List.Mem.tail _ (List.Mem.head _))) _ (List.Mem.tail _ (List.Mem.head _)) (show (8 : Nat) ≠ 5 by decide) q (by rw [hf_123]; exact h1) (by rw [hf_115]; exact h2)
  have d_154 : ∀ q, q = b_133 → q ∈ Rep.blkOf A_109 → False := fun q h1 h2 => hD_104 _ (List.Mem.tail _ (List.Mem.tail _ (List.Mem.tail _ (List.Mem.head _)))) _ (List.Mem.head _) (show (9 : Nat) ≠ 2 by decide) q (by rw [hf_131, h1]; exact List.Mem.head _) (by rw [hf_107]; exact h2)
  have d_155 : ∀ q, q = b_133 → q ∈ Rep.blkOf A_117 → False := fun q h1 h2 => hD_104 _ (List.Mem.tail _ (List.Mem.tail _ (List.Mem.tail _ (List.Mem.head _)))) _ (List.Mem.tail _ (List.Mem.head _)) (show (9 : Nat) ≠ 5 by decide) q (by rw [hf_131, h1]; exact List.Mem.head _) (by rw [hf_115]; exact h2)
  have d_156 : ∀ q, q = b_133 → q ∈ Rep.blkOf A_125 → False := fun q h1 h2 => hD_104 _ (List.Mem.tail _ (List.Mem.tail _ (List.Mem.tail _ (List.Mem.head _)))) _ (List.Mem.tail _ (List.Mem.tail _ (List.Mem.head _))) (show (9 : Nat) ≠ 8 by decide) q (by rw [hf_131, h1]; exact List.Mem.head _) (by rw [hf_123]; exact h2)
  have d_157 : ∀ q, q = b_140 → q ∈ Rep.blkOf A_109 → False := fun q h1 h2 => hD_104 _ (List.Mem.tail _ (List.Mem.tail _ (List.Mem.tail _ (List.Mem.tail _ (List.Mem.head _))))) _ (List.Mem.head _) (show (10 : Nat) ≠ 2 by decide) q (by rw [hf_138, h1]; exact List.Mem.head _) (by rw [hf_107]; exact h2)
  have d_158 : ∀ q, q = b_140 → q ∈ Rep.blkOf A_117 → False := fun q h1 h2 => hD_104 _ (List.Mem.tail _ (List.Mem.tail _ (List.Mem.tail _ (List.Mem.tail _ (List.Mem.head _))))) _ (List.Mem.tail _ (List.Mem.head _)) (show (10 : Nat) ≠ 5 by decide) q (by rw [hf_138, h1]; exact List.Mem.head _) (by rw [hf_115]; exact h2)
  have d_159 : ∀ q, q = b_140 → q ∈ Rep.blkOf A_125 → False := fun q h1 h2 => hD_104 _ (List.Mem.tail _ (List.Mem.tail _ (List.Mem.tail _ (List.Mem.tail _ (List.Mem.head _))))) _ (List.Mem.tail _ (List.Mem.tail _ (List.Mem.head _))) (show (10 : Nat) ≠ 8 by decide) q (by rw [hf_138, h1]; exact List.Mem.head _) (by rw [hf_123]; exact h2)
  have n_160 : b_140 ≠ b_133 := fun e => hD_104 _ (List.Mem.tail _ (List.Mem.tail _ (List.Mem.tail _ (List.Mem.tail _ (List.Mem.head _))))) _ (List.Mem.tail _ (List.Mem.tail _ (List.Mem.tail _ (List.Mem.head _)))) (show (10 : Nat) ≠ 9 by decide) b_140 (by rw [hf_138]; exact List.Mem.head _) (by rw [hf_131, e]; exact List.Mem.head _)
  have d_161 : ∀ q, q = b_147 → q ∈ Rep.blkOf A_109 → False := fun q h1 h2 => hD_104 _ (List.Mem.tail _ (List.Mem.tail _ (List.Mem.tail _ (List.Mem.tail _ (List.Mem.tail _ (List.Mem.head _)))))) _ (List.Mem.head _) (show (11 : Nat) ≠ 2 by decide) q (by rw [hf_145, h1]; exact List.Mem.head _) (by rw [hf_107]; exact h2)
  have d_162 : ∀ q, q = b_147 → q ∈ Rep.blkOf A_117 → False := fun q h1 h2 => hD_104 _ (List.Mem.tail _ (List.Mem.tail _ (List.Mem.tail _ (List.Mem.tail _ (List.Mem.tail _ (List.Mem.head _)))))) _ (List.Mem.tail _ (List.Mem.head _)) (show (11 : Nat) ≠ 5 by decide) q (by rw [hf_145, h1]; exact List.Mem.head _) (by rw [hf_115]; exact h2)
  have d_163 : ∀ q, q = b_147 → q ∈ Rep.blkOf A_125 → False := fun q h1 h2 => hD_104 _ (List.Mem.tail _ (List.Mem.tail _ (List.Mem.tail _ (List.Mem.tail _ (List.Mem.tail _ (List.Mem.head _)))))) _ (List.Mem.tail _ (List.Mem.tail _ (List.Mem.head _))) (show (11 : Nat) ≠ 8 by decide) q (by rw [hf_145, h1]; exact List.Mem.head _) (by rw [hf_123]; exact h2)
  have n_164 : b_147 ≠ b_133 := fun e => hD_104 _ (List.Mem.tail _ (List.Mem.tail _ (List.Mem.tail _ (List.Mem.tail _ (List.Mem.tail _ (List.Mem.head _)))))) _ (List.Mem.tail _ (List.Mem.tail _ (List.Mem.tail _ (List.Mem.head _)))) (show (11 : Nat) ≠ 9 by decide) b_147 (by rw [hf_145]; exact List.Mem.head _) (by rw [hf_131, e]; exact List.Mem.head _)
  have n_165 : b_147 ≠ b_140 := fun e => hD_104 _ (List.Mem.tail _ (List.Mem.tail _ (List.Mem.tail _ (List.Mem.tail _ (List.Mem.tail _ (List.Mem.head _)))))) _ (List.Mem.tail _ (List.Mem.tail _ (List.Mem.tail _ (List.Mem.tail _ (List.Mem.head _))))) (show (11 : Nat) ≠ 10 by decide) b_147 (by rw [hf_145]; exact List.Mem.head _) (by rw [hf_138, e]; exact List.Mem.head _)
  show FL _ _ _ _ _ _ ((23, vs_101 2) :: (26, vs_101 5) :: (29, vs_101 8) :: (7, vs_101 9) :: (8, vs_101 10) :: (9, vs_101 11) :: _) _
  rw [hv_106, hv_114, hv_122, hv_130, hv_137, hv_144]
  refine fb rfl rfl rfl fun w_166 x_167 Q hK => st (new := [.slice A_109 ((W.bases).length) c_110]) rfl rfl (B_134.later x_167) rfl MiW_sz_S_api_Cell rfl rfl rfl fun w_168 m_169 B_134 => hK _ _ ?_
  have q_171 := x_167.size
  have z_166 := Ext.tr z_99 x_167
  have q_172 := m_169.size
  have z_168 := Ext.mod z_166 m_169 (by simp only [List.mem_singleton, forall_eq]; omega)
  have q_170 := m_169.size
  have B_141 := B_141.later x_167
  have B_141 := B_141.mod m_169 (by simp only [List.mem_singleton]; omega)
  refine fb rfl rfl rfl fun w_173 x_174 Q hK => st (new := [.slice A_117 ((W.stocks).length) c_118]) rfl rfl (B_141.later x_174) rfl MiW_sz_S_int rfl rfl rfl fun w_175 m_176 B_141 => hK _ _ ?_
  have q_178 := x_174.size
  have z_173 := Ext.tr z_168 x_174
  have q_179 := m_176.size
  have z_175 := Ext.mod z_173 m_176 (by simp only [List.mem_singleton, forall_eq]; omega)
  have q_177 := m_176.size
  have B_148 := B_148.later x_167
  have B_148 := B_148.mod m_169 (by simp only [List.mem_singleton]; omega)
  have B_148 := B_148.later x_174
  have B_148 := B_148.mod m_176 (by simp only [List.mem_singleton]; omega)
  refine fb rfl rfl rfl fun w_180 x_181 Q hK => st (new := [.slice A_125 ((W.mines).length) c_126]) rfl rfl (B_148.later x_181) rfl MiW_sz_S_int rfl rfl rfl fun w_182 m_183 B_148 => hK _ _ ?_
  have q_185 := x_181.size
  have z_180 := Ext.tr z_175 x_181
  have q_186 := m_183.size
  have z_182 := Ext.mod z_180 m_183 (by simp only [List.mem_singleton, forall_eq]; omega)
  have q_184 := m_183.size
  refine fn fun w_187 x_188 => ?_
  have q_189 := x_188.size
  have z_187 := Ext.tr z_182 x_188
  refine nT <| sq <| rg <| vl (mf rfl rfl) rfl <| vl (as_ rfl) rfl <| nl <| nT <| sq <| rg <| ?_
  have B_5 := B_5.later (Ext.tr x_82 (Ext.tr x_100 x_167))
  have B_5 := B_5.mod m_169 (by simp only [List.mem_singleton]; omega)
  have B_5 := B_5.later x_174
  have B_5 := B_5.mod m_176 (by simp only [List.mem_singleton]; omega)
  have B_5 := B_5.later x_181
  have B_5 := B_5.mod m_183 (by simp only [List.mem_singleton]; omega)
  have B_5 := B_5.later x_188
  refine vl (ld rfl (B_5.all MiW_ag_api_World MiW_sz_api_World)) rfl <| vl (mv rfl) rfl <| ca MiW_en_mist_View rfl rfl ((view_any a W p _ (hW.keep z_187)).mono ?_)
  rintro e w_193 ⟨a_190, rfl, HV_190, x_194⟩
  refine ⟨_, rfl, ?_⟩
  have q_195 := x_194.size
  have z_193 := Ext.tr z_187 x_194
  have u_191 := fun q hq => (HV_190.lt q hq).2
  have lo_192 := fun q hq => (HV_190.lt q hq).1
  refine vl (mv rfl) rfl <| vl (ex rfl rfl) rfl <| vl (ex rfl rfl) rfl <| al rfl MiW_zv_api_World rfl rfl fun w_196 b_197 x_198 l_199 B_200 => ?_
  have q_201 := x_198.size
  have z_196 := Ext.tr z_193 x_198
  have q_202 := B_200.lt
  refine st rfl rfl B_200 rfl MiW_sz_api_World rfl rfl rfl fun w_203 m_204 B_200 => ?_
  have q_206 := m_204.size
  have z_203 := Ext.mod z_196 m_204 (by simp only [List.mem_singleton, forall_eq]; omega)
  have q_205 := m_204.size
  refine vl (as_ rfl) rfl <| nl <| nT <| sq <| rg <| vl (mv rfl) rfl <| ?_
  have B_5 := B_5.later (Ext.tr x_194 x_198)
  have B_5 := B_5.mod m_204 (by simp only [List.mem_singleton]; omega)
  have B_48 := B_48.later x_72
  have B_48 := B_48.mod m_74 (by simp only [List.mem_singleton]; omega)
  have B_48 := B_48.later (Ext.tr x_79 (Ext.tr x_82 (Ext.tr x_100 x_167)))
  have B_48 := B_48.mod m_169 (by simp only [List.mem_singleton]; omega)
  have B_48 := B_48.later x_174
  have B_48 := B_48.mod m_176 (by simp only [List.mem_singleton]; omega)
  have B_48 := B_48.later x_181
  have B_48 := B_48.mod m_183 (by simp only [List.mem_singleton]; omega)
  have B_48 := B_48.later (Ext.tr x_188 (Ext.tr x_194 x_198))
  have B_48 := B_48.mod m_204 (by simp only [List.mem_singleton]; omega)
  have B_55 := B_55.later (Ext.tr x_79 (Ext.tr x_82 (Ext.tr x_100 x_167)))
  have B_55 := B_55.mod m_169 (by simp only [List.mem_singleton]; omega)
  have B_55 := B_55.later x_174
  have B_55 := B_55.mod m_176 (by simp only [List.mem_singleton]; omega)
  have B_55 := B_55.later x_181
  have B_55 := B_55.mod m_183 (by simp only [List.mem_singleton]; omega)
  have B_55 := B_55.later (Ext.tr x_188 (Ext.tr x_194 x_198))
  have B_55 := B_55.mod m_204 (by simp only [List.mem_singleton]; omega)
  have B_134 := B_134.later x_174
  have B_134 := B_134.mod m_176 (by simp only [List.mem_singleton]; omega)
  have B_134 := B_134.later x_181
  have B_134 := B_134.mod m_183 (by simp only [List.mem_singleton]; omega)
  have B_134 := B_134.later (Ext.tr x_188 (Ext.tr x_194 x_198))
  have B_134 := B_134.mod m_204 (by simp only [List.mem_singleton]; omega)
  have B_141 := B_141.later x_181
  have B_141 := B_141.mod m_183 (by simp only [List.mem_singleton]; omega)
  have B_141 := B_141.later (Ext.tr x_188 (Ext.tr x_194 x_198))
  have B_141 := B_141.mod m_204 (by simp only [List.mem_singleton]; omega)
  have B_148 := B_148.later (Ext.tr x_188 (Ext.tr x_194 x_198))
  have B_148 := B_148.mod m_204 (by simp only [List.mem_singleton]; omega)
  have O_33 := O_33.later x_65
  have O_33 := O_33.mod m_67 (fun q hq h => by have hb := List.mem_singleton.1 h; exfalso; (exact (fun q h1 h2 => d_59 q h2 h1) q hq hb))
  have O_33 := O_33.later x_72
  have O_33 := O_33.mod m_74 (fun q hq h => by have hb := List.mem_singleton.1 h; exfalso; (exact (fun q h1 h2 => d_61 q h2 h1) q hq hb))
  have O_33 := O_33.later (Ext.tr x_79 (Ext.tr x_82 (Ext.tr x_100 x_167)))
  have O_33 := O_33.mod m_169 (fun q hq h => by have hb := List.mem_singleton.1 h; exfalso; (have := u_34 q hq; omega))
  have O_33 := O_33.later x_174
  have O_33 := O_33.mod m_176 (fun q hq h => by have hb := List.mem_singleton.1 h; exfalso; (have := u_34 q hq; omega))
  have O_33 := O_33.later x_181
  have O_33 := O_33.mod m_183 (fun q hq h => by have hb := List.mem_singleton.1 h; exfalso; (have := u_34 q hq; omega))
  have O_33 := O_33.later (Ext.tr x_188 (Ext.tr x_194 x_198))
  have O_33 := O_33.mod m_204 (fun q hq h => by have hb := List.mem_singleton.1 h; exfalso; (have := u_34 q hq; omega))
  have O_41 := O_41.later x_65
  have O_41 := O_41.mod m_67 (fun q hq h => by have hb := List.mem_singleton.1 h; exfalso; (exact (fun q h1 h2 => d_60 q h2 h1) q hq hb))
  have O_41 := O_41.later x_72
  have O_41 := O_41.mod m_74 (fun q hq h => by have hb := List.mem_singleton.1 h; exfalso; (exact (fun q h1 h2 => d_62 q h2 h1) q hq hb))
  have O_41 := O_41.later (Ext.tr x_79 (Ext.tr x_82 (Ext.tr x_100 x_167)))
  have O_41 := O_41.mod m_169 (fun q hq h => by have hb := List.mem_singleton.1 h; exfalso; (have := u_42 q hq; omega))
  have O_41 := O_41.later x_174
  have O_41 := O_41.mod m_176 (fun q hq h => by have hb := List.mem_singleton.1 h; exfalso; (have := u_42 q hq; omega))
  have O_41 := O_41.later x_181
  have O_41 := O_41.mod m_183 (fun q hq h => by have hb := List.mem_singleton.1 h; exfalso; (have := u_42 q hq; omega))
  have O_41 := O_41.later (Ext.tr x_188 (Ext.tr x_194 x_198))
  have O_41 := O_41.mod m_204 (fun q hq h => by have hb := List.mem_singleton.1 h; exfalso; (have := u_42 q hq; omega))
  have O_111 := O_111.later x_167
  have O_111 := O_111.mod m_169 (fun q hq h => by have hb := List.mem_singleton.1 h; exfalso; (exact (fun q h1 h2 => d_154 q h2 h1) q hq hb))
  have O_111 := O_111.later x_174
  have O_111 := O_111.mod m_176 (fun q hq h => by have hb := List.mem_singleton.1 h; exfalso; (exact (fun q h1 h2 => d_157 q h2 h1) q hq hb))
  have O_111 := O_111.later x_181
  have O_111 := O_111.mod m_183 (fun q hq h => by have hb := List.mem_singleton.1 h; exfalso; (exact (fun q h1 h2 => d_161 q h2 h1) q hq hb))
  have O_111 := O_111.later (Ext.tr x_188 (Ext.tr x_194 x_198))
  have O_111 := O_111.mod m_204 (fun q hq h => by have hb := List.mem_singleton.1 h; exfalso; (have := u_112 q hq; omega))
  have O_119 := O_119.later x_167
  have O_119 := O_119.mod m_169 (fun q hq h => by have hb := List.mem_singleton.1 h; exfalso; (exact (fun q h1 h2 => d_155 q h2 h1) q hq hb))
  have O_119 := O_119.later x_174
  have O_119 := O_119.mod m_176 (fun q hq h => by have hb := List.mem_singleton.1 h; exfalso; (exact (fun q h1 h2 => d_158 q h2 h1) q hq hb))
  have O_119 := O_119.later x_181
  have O_119 := O_119.mod m_183 (fun q hq h => by have hb := List.mem_singleton.1 h; exfalso; (exact (fun q h1 h2 => d_162 q h2 h1) q hq hb))
  have O_119 := O_119.later (Ext.tr x_188 (Ext.tr x_194 x_198))
  have O_119 := O_119.mod m_204 (fun q hq h => by have hb := List.mem_singleton.1 h; exfalso; (have := u_120 q hq; omega))
  have O_127 := O_127.later x_167
  have O_127 := O_127.mod m_169 (fun q hq h => by have hb := List.mem_singleton.1 h; exfalso; (exact (fun q h1 h2 => d_156 q h2 h1) q hq hb))
  have O_127 := O_127.later x_174
  have O_127 := O_127.mod m_176 (fun q hq h => by have hb := List.mem_singleton.1 h; exfalso; (exact (fun q h1 h2 => d_159 q h2 h1) q hq hb))
  have O_127 := O_127.later x_181
  have O_127 := O_127.mod m_183 (fun q hq h => by have hb := List.mem_singleton.1 h; exfalso; (exact (fun q h1 h2 => d_163 q h2 h1) q hq hb))
  have O_127 := O_127.later (Ext.tr x_188 (Ext.tr x_194 x_198))
  have O_127 := O_127.mod m_204 (fun q hq h => by have hb := List.mem_singleton.1 h; exfalso; (have := u_128 q hq; omega))
  refine cv MiW_en_mustkeep_MistOwn_1 rfl rfl rfl ((ownSameMiW a W b_2 b_47 b_54 b_133 b_140 b_147 A_31 A_39 A_109 A_117 A_125 c_32 c_40 c_110 c_118 c_126 _ (hW.keep z_203) B_5 B_48 O_33.has B_55 O_41.has B_134 O_111.has B_141 O_119.has B_148 O_127.has).mono ?_)
  rintro e w_207 ⟨rfl, x_208⟩
  refine ⟨_, rfl, ?_⟩
  have q_209 := x_208.size
  have z_207 := Ext.tr z_203 x_208
  refine vl (as_ rfl) rfl <| nl <| nT <| sq <| rg <| ?_
  have B_200 := B_200.later x_208
  refine vl (ld rfl (B_200.all MiW_ag_api_World MiW_sz_api_World)) rfl <| ?_
  have HV_190 := HV_190.later x_198
  have HV_190 := HV_190.mod m_204 (fun q hq h => by have hb := List.mem_singleton.1 h; exfalso; (have := u_191 q hq; omega))
  have HV_190 := HV_190.later x_208
  refine ca MiW_en_mustkeep_spoilWorld rfl rfl ((spoilWorld_any a_190 (viewW W p) _ _ HV_190).mono ?_)
  rintro e w_211 ⟨rfl, m_210⟩
  refine ⟨_, rfl, ?_⟩
  have q_212 := m_210.size
  have z_211 := Ext.mod z_207 m_210 (fun q hq => by have := lo_192 q hq; omega)
  refine nl <| nT <| sq <| rg <| ca MiW_en_mustkeep_mistLives rfl rfl ((mistLives_any _).mono ?_)
  rintro e w_213 ⟨rfl, x_214⟩
  refine ⟨_, rfl, ?_⟩
  have q_215 := x_214.size
  have z_213 := Ext.tr z_211 x_214
  refine vl (mv rfl) rfl <| ug rfl rfl rfl <| vl (mv rfl) rfl <| vl (pkT rfl rfl) rfl <| vl (mv rfl) rfl <| ug rfl rfl rfl <| vl (mv rfl) rfl <| ug rfl rfl rfl <| ?_
  have B_5 := B_5.later x_208
  have d_216 : ∀ q ∈ WOwn.foot a_190, q = b_2 → False := fun q hq hb => by (have := lo_192 q hq; omega)
  have B_5 := B_5.mod m_210 (fun hq => d_216 _ hq rfl)
  have B_5 := B_5.later x_214
  have B_48 := B_48.later x_208
  have d_217 : ∀ q ∈ WOwn.foot a_190, q = b_47 → False := fun q hq hb => by (have := lo_192 q hq; omega)
  have B_48 := B_48.mod m_210 (fun hq => d_217 _ hq rfl)
  have B_48 := B_48.later x_214
  have B_55 := B_55.later x_208
  have d_218 : ∀ q ∈ WOwn.foot a_190, q = b_54 → False := fun q hq hb => by (have := lo_192 q hq; omega)
  have B_55 := B_55.mod m_210 (fun hq => d_218 _ hq rfl)
  have B_55 := B_55.later x_214
  have B_134 := B_134.later x_208
  have d_219 : ∀ q ∈ WOwn.foot a_190, q = b_133 → False := fun q hq hb => by (have := lo_192 q hq; omega)
  have B_134 := B_134.mod m_210 (fun hq => d_219 _ hq rfl)
  have B_134 := B_134.later x_214
  have B_141 := B_141.later x_208
  have d_220 : ∀ q ∈ WOwn.foot a_190, q = b_140 → False := fun q hq hb => by (have := lo_192 q hq; omega)
  have B_141 := B_141.mod m_210 (fun hq => d_220 _ hq rfl)
  have B_141 := B_141.later x_214
  have B_148 := B_148.later x_208
  have d_221 : ∀ q ∈ WOwn.foot a_190, q = b_147 → False := fun q hq hb => by (have := lo_192 q hq; omega)
  have B_148 := B_148.mod m_210 (fun hq => d_221 _ hq rfl)
  have B_148 := B_148.later x_214
  have O_33 := O_33.later x_208
  have O_33 := O_33.mod m_210 (fun q hq h => by exfalso; (have := lo_192 q h; (have := u_34 q hq; omega)))
  have O_33 := O_33.later x_214
  have O_41 := O_41.later x_208
  have O_41 := O_41.mod m_210 (fun q hq h => by exfalso; (have := lo_192 q h; (have := u_42 q hq; omega)))
  have O_41 := O_41.later x_214
  have O_111 := O_111.later x_208
  have O_111 := O_111.mod m_210 (fun q hq h => by exfalso; (have := lo_192 q h; (have := u_112 q hq; omega)))
  have O_111 := O_111.later x_214
  have O_119 := O_119.later x_208
  have O_119 := O_119.mod m_210 (fun q hq h => by exfalso; (have := lo_192 q h; (have := u_120 q hq; omega)))
  have O_119 := O_119.later x_214
  have O_127 := O_127.later x_208
  have O_127 := O_127.mod m_210 (fun q hq h => by exfalso; (have := lo_192 q h; (have := u_128 q hq; omega)))
  have O_127 := O_127.later x_214
  refine cv MiW_en_mustkeep_MistOwn_1 rfl rfl rfl ((ownSameMiW a W b_2 b_47 b_54 b_133 b_140 b_147 A_31 A_39 A_109 A_117 A_125 c_32 c_40 c_110 c_118 c_126 _ (hW.keep z_213) B_5 B_48 O_33.has B_55 O_41.has B_134 O_111.has B_141 O_119.has B_148 O_127.has).mono ?_)
  rintro e w_222 ⟨rfl, x_223⟩
  refine ⟨_, rfl, ?_⟩
  have q_224 := x_223.size
  have z_222 := Ext.tr z_213 x_223
  refine vl (pkT rfl rfl) rfl <| vl (as_ rfl) rfl <| nl <| nT <| rt <| tR (.tmp rfl .nil) <| ?_
  exact ⟨rfl, z_222⟩
theorem mistOwn_any (c0 : Array Value) (a1 : Int) (w : World) (h0 : (.cons (.cons (.int .i64) (.cons (.int .i64) (.cons (.slice (.int .i64) 8) .nil))) (.cons (.slice (.cons (.int .i64) (.cons (.int .i64) .nil)) 16) (.cons (.slice (.int .i64) 8) (.cons (.slice (.int .i64) 8) (.cons (.slice (.cons (.int .i64) (.cons (.int .i64) (.cons (.int .i64) (.cons (.cons (.int .i64) (.cons (.int .i64) .nil)) (.cons (.int .i64) (.cons (.int .i64) .nil)))))) 56) (.cons (.int .i64) (.cons (.int .i64) .nil)))))) : Sh).Ok w c0.toList) (w1 : (Lit.int .i64 a1).wf = true) :
    Calls Try.prog 8 #[.agg c0, .int .i64 a1] w fun e w' => e = .returned (.bool true) ∧ Below w.heap.size w w' := by
  obtain ⟨a, W, e, hW⟩ := Wd.opens w _ (show Wd.sh.Ok w c0.toList from h0)
  have hc : c0 = (Wd.cells a W).toArray := by rw [← e]
  subst hc
  exact mistOwn_walk a W a1 w hW
end Go.Proofs.Ytkijhejjnlmbmaa
