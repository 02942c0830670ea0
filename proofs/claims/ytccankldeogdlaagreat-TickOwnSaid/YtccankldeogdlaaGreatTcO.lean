import Derived.Test.YtccankldeogdlaaGreatGra
import Derived.Test.YtccankldeogdlaaGreatLawS
set_option linter.unusedVariables false
set_option linter.unusedSimpArgs false
set_option maxRecDepth 100000
set_option maxHeartbeats 4000000
namespace Go.Proofs.YtccankldeogdlaaGreat
section
open Go.RowKit
open Go.Proofs.YtccankldeogdlaaGreat.Bv
theorem townSame (a : Wd.At) (W : Wd) (b0 bT bP bB bS bM : Nat) (AT AP AB AS AM : Option Addr) (cT cP cB cS cM : Nat) (w : World) (hW : Wd.Has w a W) (H0 : Blk w b0 (Wd.cells a W) 28 (0, 0)) (HT : Blk w bT [.slice AT W.troops.length cT] 26 (0, 0)) (hT : Trp.rep.SHas 56 w AT cT W.troops) (HP : Blk w bP [.slice AP W.field.places.length cP] 22 (0, 0)) (hP : repI.SHas 8 w AP cP W.field.places) (HB : Blk w bB [.slice AB W.bases.length cB] 25 (0, 0)) (hB : Cel.rep.SHas 16 w AB cB W.bases) (HS : Blk w bS [.slice AS W.stocks.length cS] 22 (0, 0)) (hS : repI.SHas 8 w AS cS W.stocks) (HM : Blk w bM [.slice AM W.mines.length cM] 22 (0, 0)) (hM : repI.SHas 8 w AM cM W.mines) :
  Calls Tryz.prog 14 #[.pointer (some ⟨b0, 0, none⟩), .pointer (some ⟨bT, 0, none⟩), .pointer (some ⟨bP, 0, none⟩), .pointer (some ⟨bB, 0, none⟩), .pointer (some ⟨bS, 0, none⟩), .pointer (some ⟨bM, 0, none⟩)] w (λ e w' => e = .returned (.bool true) ∧ Ext w w') := by
 refine calls_W (n := 36) Tryz.func14 rfl rfl rfl ?_
 refine sg <| va rfl <| nK <| sg <| vL (fa eF64 rfl) <| vL (ld rfl (H0.one eF65 rfl)) <| vL (ld rfl (HT.one eF65 rfl)) <| ca eF176 rfl rfl ((equal_T _ _ _ _ _ _ W.troops W.troops _ (hW.T.keep (Ext.rf w)) (hT.keep (Ext.rf w))).mono ?_)
 rintro e w_1 ⟨rfl, x_2⟩
 refine ⟨_, rfl, ?_⟩
 have := x_2.size
 have z_1 := eT (Ext.rf w) x_2
 refine vm rfl <| vQ rfl rfl rfl rfl (λ hc => fa eF59 rfl) rfl <| vQ rfl rfl rfl rfl (λ hc => fa eF45 (gt hc rfl)) rfl <| ?_
 have H0 := H0.later x_2
 refine vQ rfl rfl rfl rfl (λ hc => ld (gt hc rfl) (H0.one eF36 rfl)) rfl <| ?_
 have HP := HP.later x_2
 refine vQ rfl rfl rfl rfl (λ hc => ld rfl (HP.one eF36 rfl)) rfl <| vC rfl rfl rfl rfl eF177 (λ hc => ec (gt hc rfl) (ec (gt hc rfl) rfl)) (λ hc => equal_Z _ _ _ _ _ _ W.field.places W.field.places _ (hW.P.keep z_1) (hP.keep z_1)) rfl λ w_4 x_5 => ?_
 have := x_5.size
 have z_4 := eT z_1 x_5
 refine vL (pA rfl rfl rfl rfl) <| vm rfl <| vQ rfl rfl rfl rfl (λ hc => fa eF83 rfl) rfl <| ?_
 have H0 := H0.later x_5
 refine vQ rfl rfl rfl rfl (λ hc => ld (gt hc rfl) (H0.one eF84 rfl)) rfl <| ?_
 have HB := HB.later (eT x_2 x_5)
 refine vQ rfl rfl rfl rfl (λ hc => ld rfl (HB.one eF84 rfl)) rfl <| vC rfl rfl rfl rfl eF178 (λ hc => ec (gt hc rfl) (ec (gt hc rfl) rfl)) (λ hc => equal_C _ _ _ _ _ _ W.bases W.bases _ (hW.B.keep z_4) (hB.keep z_4)) rfl λ w_7 x_8 => ?_
 have := x_8.size
 have z_7 := eT z_4 x_8
 refine vL (pA rfl rfl rfl rfl) <| vm rfl <| vQ rfl rfl rfl rfl (λ hc => fa eF85 rfl) rfl <| ?_
 have H0 := H0.later x_8
 refine vQ rfl rfl rfl rfl (λ hc => ld (gt hc rfl) (H0.one eF36 rfl)) rfl <| ?_
 have HS := HS.later (eT x_2 (eT x_5 x_8))
 refine vQ rfl rfl rfl rfl (λ hc => ld rfl (HS.one eF36 rfl)) rfl <| vC rfl rfl rfl rfl eF177 (λ hc => ec (gt hc rfl) (ec (gt hc rfl) rfl)) (λ hc => equal_Z _ _ _ _ _ _ W.stocks W.stocks _ (hW.S.keep z_7) (hS.keep z_7)) rfl λ w_10 x_11 => ?_
 have := x_11.size
 have z_10 := eT z_7 x_11
 refine vL (pA rfl rfl rfl rfl) <| vm rfl <| vQ rfl rfl rfl rfl (λ hc => fa eF88 rfl) rfl <| ?_
 have H0 := H0.later x_11
 refine vQ rfl rfl rfl rfl (λ hc => ld (gt hc rfl) (H0.one eF36 rfl)) rfl <| ?_
 have HM := HM.later (eT x_2 (eT x_5 (eT x_8 x_11)))
 refine vQ rfl rfl rfl rfl (λ hc => ld rfl (HM.one eF36 rfl)) rfl <| vC rfl rfl rfl rfl eF177 (λ hc => ec (gt hc rfl) (ec (gt hc rfl) rfl)) (λ hc => equal_Z _ _ _ _ _ _ W.mines W.mines _ (hW.M.keep z_10) (hM.keep z_10)) rfl λ w_13 x_14 => ?_
 have := x_14.size
 have z_13 := eT z_10 x_14
 refine vL (pA rfl rfl rfl rfl) <| va rfl <| nK <| rt <| tR (.tmp rfl .nil) <| ?_
 exact ⟨ret_true (by simp), z_13⟩
theorem tickOwn_walk (a : Wd.At) (W : Wd) (A : Option Addr) (c : Nat) (l : List Odr) (w : World) (hW : Wd.Has w a W) (hl : Odr.rep.SHas 48 w A c l) :
  Calls Tryz.prog 4 #[.agg ((Wd.cells a W).toArray), .slice A l.length c] w (λ e w' => e = .returned (.bool true) ∧ Ext w w') := by
 refine calls_W (n := 81) Tryz.func4 rfl rfl rfl ?_
 refine sg <| bx rfl rfl rfl rfl λ w_1 b_2 x_3 l_4 B_5 => ?_
 have := x_3.size
 have z_1 := eT (Ext.rf w) x_3
 have q_7 := B_5.lt
 refine va rfl <| nK <| sq <| ?_
 refine rB [(1, 0), (2, 2), (5, 0), (6, 2), (7, 2), (8, 2), (9, 3), (10, 3)] [0, 1, 3, 4, 5] [2, 6, 7, 8] [9, 10] (by kernel_rfl) (by kernel_rfl) ?_
 refine fw1 rfl (λ _ => fa eF64 rfl) <| fq1 rfl (λ _ x => ld rfl ((B_5.later x).one eF65 rfl)) <| fw1 rfl (λ _ => fa eF59 rfl) <| fw1 rfl (λ _ => fa eF45 rfl) <| fq1 rfl (λ _ x => ld rfl ((B_5.later x).one eF36 rfl)) <| fn λ w_8 x_9 => ?_
 have := x_9.size
 have z_8 := eT z_1 x_9
 refine bt [(2, 25, λ v_ f_ w_ => ∃ A_ c_, v_ = .slice A_ (W.troops).length c_ ∧ f_ = Rep.blkOf A_ ∧ Trp.rep.SOwn 46 56 w_ w_8.heap.size (Rep.blkOf A_) A_ c_ (W.troops)), (6, 29, λ v_ f_ w_ => ∃ A_ c_, v_ = .slice A_ (W.field.places).length c_ ∧ f_ = Rep.blkOf A_ ∧ repI.SOwn 3 8 w_ w_8.heap.size (Rep.blkOf A_) A_ c_ (W.field.places)), (7, 5, NewB [.slice none 0 0] 26), (8, 6, NewB [.slice none 0 0] 22)] (am (mk_call eF89 _ rfl rfl rfl rfl (λ _ _ _ _ ⟨A, c, h1, h2, h3⟩ x => ⟨A, c, h1, h2, h3.later x⟩) (λ w_11 x_12 => (clone_T _ _ W.troops _ (hW.T.keep (eT z_8 x_12))).mono λ e w2 ⟨A, c, he, hO, hn, hx⟩ => ⟨_, _, he, hx, λ q hq => hO.lt q hq, A, c, rfl, rfl, hO.down x_12.size⟩)) (am (mk_call eF81 _ rfl rfl rfl rfl (λ _ _ _ _ ⟨A, c, h1, h2, h3⟩ x => ⟨A, c, h1, h2, h3.later x⟩) (λ w_16 x_17 => (clone_I _ _ W.field.places _ (hW.P.keep (eT z_8 x_17))).mono λ e w2 ⟨A, c, he, hO, hn, hx⟩ => ⟨_, _, he, hx, λ q hq => hO.lt q hq, A, c, rfl, rfl, hO.down x_17.size⟩)) (am (mk_alloc rfl eF179 rfl rfl rfl) (am (mk_alloc rfl eF180 rfl rfl rfl) an)))) rfl rfl rfl ?_
 intro w_21 vs_23 fs_24 x_22 hP_25 hD_26
 have := x_22.size
 have z_21 := eT z_8 x_22
 obtain ⟨⟨A_31, c_32, hv_28, hf_29, O_33⟩, hb_30⟩ := hP_25 _ (List.Mem.head _)
 have u_34 := λ q hq => (O_33.lt q hq).2
 have lo_35 := λ q hq => (O_33.lt q hq).1
 obtain ⟨⟨A_39, c_40, hv_36, hf_37, O_41⟩, hb_38⟩ := hP_25 _ (List.Mem.tail _ (List.Mem.head _))
 have u_42 := λ q hq => (O_41.lt q hq).2
 have lo_43 := λ q hq => (O_41.lt q hq).1
 obtain ⟨⟨b_47, hv_44, hf_45, B_48⟩, hb_46⟩ := hP_25 _ (List.Mem.tail _ (List.Mem.tail _ (List.Mem.head _)))
 have q_49 := B_48.lt
 have l_50 := (hb_46 b_47 (by rw [hf_45]; exact List.Mem.head _)).1
 obtain ⟨⟨b_54, hv_51, hf_52, B_55⟩, hb_53⟩ := hP_25 _ (List.Mem.tail _ (List.Mem.tail _ (List.Mem.tail _ (List.Mem.head _))))
 have q_56 := B_55.lt
 have l_57 := (hb_53 b_54 (by rw [hf_52]; exact List.Mem.head _)).1
 have d_59 : ∀ q, q = b_47 → q ∈ Rep.blkOf A_31 → False := λ q h1 h2 => hD_26 _ (List.Mem.tail _ (List.Mem.tail _ (List.Mem.head _))) _ (List.Mem.head _) (show (7 : Nat) ≠ 2 by decide) q (by rw [hf_45, h1]; exact List.Mem.head _) (by rw [hf_29]; exact h2)
 have d_60 : ∀ q, q = b_47 → q ∈ Rep.blkOf A_39 → False := λ q h1 h2 => hD_26 _ (List.Mem.tail _ (List.Mem.tail _ (List.Mem.head _))) _ (List.Mem.tail _ (List.Mem.head _)) (show (7 : Nat) ≠ 6 by decide) q (by rw [hf_45, h1]; exact List.Mem.head _) (by rw [hf_37]; exact h2)
 have d_61 : ∀ q, q = b_54 → q ∈ Rep.blkOf A_31 → False := λ q h1 h2 => hD_26 _ (List.Mem.tail _ (List.Mem.tail _ (List.Mem.tail _ (List.Mem.head _)))) _ (List.Mem.head _) (show (8 : Nat) ≠ 2 by decide) q (by rw [hf_52, h1]; exact List.Mem.head _) (by rw [hf_29]; exact h2)
 have d_62 : ∀ q, q = b_54 → q ∈ Rep.blkOf A_39 → False := λ q h1 h2 => hD_26 _ (List.Mem.tail _ (List.Mem.tail _ (List.Mem.tail _ (List.Mem.head _)))) _ (List.Mem.tail _ (List.Mem.head _)) (show (8 : Nat) ≠ 6 by decide) q (by rw [hf_52, h1]; exact List.Mem.head _) (by rw [hf_37]; exact h2)
 have n_63 : b_54 ≠ b_47 := λ e => hD_26 _ (List.Mem.tail _ (List.Mem.tail _ (List.Mem.tail _ (List.Mem.head _)))) _ (List.Mem.tail _ (List.Mem.tail _ (List.Mem.head _))) (show (8 : Nat) ≠ 7 by decide) b_54 (by rw [hf_52]; exact List.Mem.head _) (by rw [hf_45, e]; exact List.Mem.head _)
 show FL _ _ _ _ _ _ ((25, vs_23 2) :: (29, vs_23 6) :: (5, vs_23 7) :: (6, vs_23 8) :: _) _
 rw [hv_28, hv_36, hv_44, hv_51]
 refine fb rfl rfl rfl λ w_64 x_65 Q hK => st (new := [.slice A_31 ((W.troops).length) c_32]) rfl rfl (B_48.later x_65) rfl eF90 rfl rfl rfl λ w_66 m_67 B_48 => hK _ _ ?_
 have := x_65.size
 have z_64 := eT z_21 x_65
 have := m_67.size
 have z_66 := Ext.mod z_64 m_67 (ge1 (by omega))
 have := m_67.size
 have B_55 := B_55.later x_65
 have B_55 := B_55.mod m_67 (nm1 (by omega))
 refine fb rfl rfl rfl λ w_71 x_72 Q hK => st (new := [.slice A_39 ((W.field.places).length) c_40]) rfl rfl (B_55.later x_72) rfl eF82 rfl rfl rfl λ w_73 m_74 B_55 => hK _ _ ?_
 have := x_72.size
 have z_71 := eT z_66 x_72
 have := m_74.size
 have z_73 := Ext.mod z_71 m_74 (ge1 (by omega))
 have := m_74.size
 refine fn λ w_78 x_79 => ?_
 have := x_79.size
 have z_78 := eT z_73 x_79
 refine nT <| sq <| ?_
 refine rB [(1, 0), (2, 2), (4, 0), (5, 2), (7, 0), (8, 2), (9, 2), (10, 2), (11, 2), (12, 3), (13, 3), (14, 3)] [0, 1, 3, 4, 6, 7] [2, 5, 8, 9, 10, 11] [12, 13, 14] (by kernel_rfl) (by kernel_rfl) ?_
 refine fw1 rfl (λ _ => fa eF83 rfl) <| ?_
 have B_5 := B_5.later (eT x_9 (eT x_22 x_65))
 have B_5 := B_5.mod m_67 (nm1 (by omega))
 have B_5 := B_5.later x_72
 have B_5 := B_5.mod m_74 (nm1 (by omega))
 have B_5 := B_5.later x_79
 refine fq1 rfl (λ _ x => ld rfl ((B_5.later x).one eF84 rfl)) <| fw1 rfl (λ _ => fa eF85 rfl) <| fq1 rfl (λ _ x => ld rfl ((B_5.later x).one eF36 rfl)) <| fw1 rfl (λ _ => fa eF88 rfl) <| fq1 rfl (λ _ x => ld rfl ((B_5.later x).one eF36 rfl)) <| fn λ w_81 x_82 => ?_
 have := x_82.size
 have z_81 := eT z_78 x_82
 refine bt [(2, 32, λ v_ f_ w_ => ∃ A_ c_, v_ = .slice A_ (W.bases).length c_ ∧ f_ = Rep.blkOf A_ ∧ Cel.rep.SOwn 44 16 w_ w_81.heap.size (Rep.blkOf A_) A_ c_ (W.bases)), (5, 35, λ v_ f_ w_ => ∃ A_ c_, v_ = .slice A_ (W.stocks).length c_ ∧ f_ = Rep.blkOf A_ ∧ repI.SOwn 3 8 w_ w_81.heap.size (Rep.blkOf A_) A_ c_ (W.stocks)), (8, 38, λ v_ f_ w_ => ∃ A_ c_, v_ = .slice A_ (W.mines).length c_ ∧ f_ = Rep.blkOf A_ ∧ repI.SOwn 3 8 w_ w_81.heap.size (Rep.blkOf A_) A_ c_ (W.mines)), (9, 7, NewB [.slice none 0 0] 25), (10, 8, NewB [.slice none 0 0] 22), (11, 9, NewB [.slice none 0 0] 22)] (am (mk_call eF86 _ rfl rfl rfl rfl (λ _ _ _ _ ⟨A, c, h1, h2, h3⟩ x => ⟨A, c, h1, h2, h3.later x⟩) (λ w_84 x_85 => (clone_C _ _ W.bases _ (hW.B.keep (eT z_81 x_85))).mono λ e w2 ⟨A, c, he, hO, hn, hx⟩ => ⟨_, _, he, hx, λ q hq => hO.lt q hq, A, c, rfl, rfl, hO.down x_85.size⟩)) (am (mk_call eF81 _ rfl rfl rfl rfl (λ _ _ _ _ ⟨A, c, h1, h2, h3⟩ x => ⟨A, c, h1, h2, h3.later x⟩) (λ w_89 x_90 => (clone_I _ _ W.stocks _ (hW.S.keep (eT z_81 x_90))).mono λ e w2 ⟨A, c, he, hO, hn, hx⟩ => ⟨_, _, he, hx, λ q hq => hO.lt q hq, A, c, rfl, rfl, hO.down x_90.size⟩)) (am (mk_call eF81 _ rfl rfl rfl rfl (λ _ _ _ _ ⟨A, c, h1, h2, h3⟩ x => ⟨A, c, h1, h2, h3.later x⟩) (λ w_94 x_95 => (clone_I _ _ W.mines _ (hW.M.keep (eT z_81 x_95))).mono λ e w2 ⟨A, c, he, hO, hn, hx⟩ => ⟨_, _, he, hx, λ q hq => hO.lt q hq, A, c, rfl, rfl, hO.down x_95.size⟩)) (am (mk_alloc rfl eF181 rfl rfl rfl) (am (mk_alloc rfl eF180 rfl rfl rfl) (am (mk_alloc rfl eF180 rfl rfl rfl) an)))))) rfl rfl rfl ?_
 intro w_99 vs_101 fs_102 x_100 hP_103 hD_104
 have := x_100.size
 have z_99 := eT z_81 x_100
 obtain ⟨⟨A_109, c_110, hv_106, hf_107, O_111⟩, hb_108⟩ := hP_103 _ (List.Mem.head _)
 have u_112 := λ q hq => (O_111.lt q hq).2
 have lo_113 := λ q hq => (O_111.lt q hq).1
 obtain ⟨⟨A_117, c_118, hv_114, hf_115, O_119⟩, hb_116⟩ := hP_103 _ (List.Mem.tail _ (List.Mem.head _))
 have u_120 := λ q hq => (O_119.lt q hq).2
 have lo_121 := λ q hq => (O_119.lt q hq).1
 obtain ⟨⟨A_125, c_126, hv_122, hf_123, O_127⟩, hb_124⟩ := hP_103 _ (List.Mem.tail _ (List.Mem.tail _ (List.Mem.head _)))
 have u_128 := λ q hq => (O_127.lt q hq).2
 have lo_129 := λ q hq => (O_127.lt q hq).1
 obtain ⟨⟨b_133, hv_130, hf_131, B_134⟩, hb_132⟩ := hP_103 _ (List.Mem.tail _ (List.Mem.tail _ (List.Mem.tail _ (List.Mem.head _))))
 have q_135 := B_134.lt
 have l_136 := (hb_132 b_133 (by rw [hf_131]; exact List.Mem.head _)).1
 obtain ⟨⟨b_140, hv_137, hf_138, B_141⟩, hb_139⟩ := hP_103 _ (List.Mem.tail _ (List.Mem.tail _ (List.Mem.tail _ (List.Mem.tail _ (List.Mem.head _)))))
 have q_142 := B_141.lt
 have l_143 := (hb_139 b_140 (by rw [hf_138]; exact List.Mem.head _)).1
 obtain ⟨⟨b_147, hv_144, hf_145, B_148⟩, hb_146⟩ := hP_103 _ (List.Mem.tail _ (List.Mem.tail _ (List.Mem.tail _ (List.Mem.tail _ (List.Mem.tail _ (List.Mem.head _))))))
 have q_149 := B_148.lt
 have l_150 := (hb_146 b_147 (by rw [hf_145]; exact List.Mem.head _)).1
 have d_154 : ∀ q, q = b_133 → q ∈ Rep.blkOf A_109 → False := λ q h1 h2 => hD_104 _ (List.Mem.tail _ (List.Mem.tail _ (List.Mem.tail _ (List.Mem.head _)))) _ (List.Mem.head _) (show (9 : Nat) ≠ 2 by decide) q (by rw [hf_131, h1]; exact List.Mem.head _) (by rw [hf_107]; exact h2)
 have d_155 : ∀ q, q = b_133 → q ∈ Rep.blkOf A_117 → False := λ q h1 h2 => hD_104 _ (List.Mem.tail _ (List.Mem.tail _ (List.Mem.tail _ (List.Mem.head _)))) _ (List.Mem.tail _ (List.Mem.head _)) (show (9 : Nat) ≠ 5 by decide) q (by rw [hf_131, h1]; exact List.Mem.head _) (by rw [hf_115]; exact h2)
 have d_156 : ∀ q, q = b_133 → q ∈ Rep.blkOf A_125 → False := λ q h1 h2 => hD_104 _ (List.Mem.tail _ (List.Mem.tail _ (List.Mem.tail _ (List.Mem.head _)))) _ (List.Mem.tail _ (List.Mem.tail _ (List.Mem.head _))) (show (9 : Nat) ≠ 8 by decide) q (by rw [hf_131, h1]; exact List.Mem.head _) (by rw [hf_123]; exact h2)
 have d_157 : ∀ q, q = b_140 → q ∈ Rep.blkOf A_109 → False := λ q h1 h2 => hD_104 _ (List.Mem.tail _ (List.Mem.tail _ (List.Mem.tail _ (List.Mem.tail _ (List.Mem.head _))))) _ (List.Mem.head _) (show (10 : Nat) ≠ 2 by decide) q (by rw [hf_138, h1]; exact List.Mem.head _) (by rw [hf_107]; exact h2)
 have d_158 : ∀ q, q = b_140 → q ∈ Rep.blkOf A_117 → False := λ q h1 h2 => hD_104 _ (List.Mem.tail _ (List.Mem.tail _ (List.Mem.tail _ (List.Mem.tail _ (List.Mem.head _))))) _ (List.Mem.tail _ (List.Mem.head _)) (show (10 : Nat) ≠ 5 by decide) q (by rw [hf_138, h1]; exact List.Mem.head _) (by rw [hf_115]; exact h2)
 have d_159 : ∀ q, q = b_140 → q ∈ Rep.blkOf A_125 → False := λ q h1 h2 => hD_104 _ (List.Mem.tail _ (List.Mem.tail _ (List.Mem.tail _ (List.Mem.tail _ (List.Mem.head _))))) _ (List.Mem.tail _ (List.Mem.tail _ (List.Mem.head _))) (show (10 : Nat) ≠ 8 by decide) q (by rw [hf_138, h1]; exact List.Mem.head _) (by rw [hf_123]; exact h2)
 have n_160 : b_140 ≠ b_133 := λ e => hD_104 _ (List.Mem.tail _ (List.Mem.tail _ (List.Mem.tail _ (List.Mem.tail _ (List.Mem.head _))))) _ (List.Mem.tail _ (List.Mem.tail _ (List.Mem.tail _ (List.Mem.head _)))) (show (10 : Nat) ≠ 9 by decide) b_140 (by rw [hf_138]; exact List.Mem.head _) (by rw [hf_131, e]; exact List.Mem.head _)
 have d_161 : ∀ q, q = b_147 → q ∈ Rep.blkOf A_109 → False := λ q h1 h2 => hD_104 _ (List.Mem.tail _ (List.Mem.tail _ (List.Mem.tail _ (List.Mem.tail _ (List.Mem.tail _ (List.Mem.head _)))))) _ (List.Mem.head _) (show (11 : Nat) ≠ 2 by decide) q (by rw [hf_145, h1]; exact List.Mem.head _) (by rw [hf_107]; exact h2)
 have d_162 : ∀ q, q = b_147 → q ∈ Rep.blkOf A_117 → False := λ q h1 h2 => hD_104 _ (List.Mem.tail _ (List.Mem.tail _ (List.Mem.tail _ (List.Mem.tail _ (List.Mem.tail _ (List.Mem.head _)))))) _ (List.Mem.tail _ (List.Mem.head _)) (show (11 : Nat) ≠ 5 by decide) q (by rw [hf_145, h1]; exact List.Mem.head _) (by rw [hf_115]; exact h2)
 have d_163 : ∀ q, q = b_147 → q ∈ Rep.blkOf A_125 → False := λ q h1 h2 => hD_104 _ (List.Mem.tail _ (List.Mem.tail _ (List.Mem.tail _ (List.Mem.tail _ (List.Mem.tail _ (List.Mem.head _)))))) _ (List.Mem.tail _ (List.Mem.tail _ (List.Mem.head _))) (show (11 : Nat) ≠ 8 by decide) q (by rw [hf_145, h1]; exact List.Mem.head _) (by rw [hf_123]; exact h2)
 have n_164 : b_147 ≠ b_133 := λ e => hD_104 _ (List.Mem.tail _ (List.Mem.tail _ (List.Mem.tail _ (List.Mem.tail _ (List.Mem.tail _ (List.Mem.head _)))))) _ (List.Mem.tail _ (List.Mem.tail _ (List.Mem.tail _ (List.Mem.head _)))) (show (11 : Nat) ≠ 9 by decide) b_147 (by rw [hf_145]; exact List.Mem.head _) (by rw [hf_131, e]; exact List.Mem.head _)
 have n_165 : b_147 ≠ b_140 := λ e => hD_104 _ (List.Mem.tail _ (List.Mem.tail _ (List.Mem.tail _ (List.Mem.tail _ (List.Mem.tail _ (List.Mem.head _)))))) _ (List.Mem.tail _ (List.Mem.tail _ (List.Mem.tail _ (List.Mem.tail _ (List.Mem.head _))))) (show (11 : Nat) ≠ 10 by decide) b_147 (by rw [hf_145]; exact List.Mem.head _) (by rw [hf_138, e]; exact List.Mem.head _)
 show FL _ _ _ _ _ _ ((32, vs_101 2) :: (35, vs_101 5) :: (38, vs_101 8) :: (7, vs_101 9) :: (8, vs_101 10) :: (9, vs_101 11) :: _) _
 rw [hv_106, hv_114, hv_122, hv_130, hv_137, hv_144]
 refine fb rfl rfl rfl λ w_166 x_167 Q hK => st (new := [.slice A_109 ((W.bases).length) c_110]) rfl rfl (B_134.later x_167) rfl eF87 rfl rfl rfl λ w_168 m_169 B_134 => hK _ _ ?_
 have := x_167.size
 have z_166 := eT z_99 x_167
 have := m_169.size
 have z_168 := Ext.mod z_166 m_169 (ge1 (by omega))
 have := m_169.size
 have B_141 := B_141.later x_167
 have B_141 := B_141.mod m_169 (nm1 (by omega))
 refine fb rfl rfl rfl λ w_173 x_174 Q hK => st (new := [.slice A_117 ((W.stocks).length) c_118]) rfl rfl (B_141.later x_174) rfl eF82 rfl rfl rfl λ w_175 m_176 B_141 => hK _ _ ?_
 have := x_174.size
 have z_173 := eT z_168 x_174
 have := m_176.size
 have z_175 := Ext.mod z_173 m_176 (ge1 (by omega))
 have := m_176.size
 have B_148 := B_148.later x_167
 have B_148 := B_148.mod m_169 (nm1 (by omega))
 have B_148 := B_148.later x_174
 have B_148 := B_148.mod m_176 (nm1 (by omega))
 refine fb rfl rfl rfl λ w_180 x_181 Q hK => st (new := [.slice A_125 ((W.mines).length) c_126]) rfl rfl (B_148.later x_181) rfl eF82 rfl rfl rfl λ w_182 m_183 B_148 => hK _ _ ?_
 have := x_181.size
 have z_180 := eT z_175 x_181
 have := m_183.size
 have z_182 := Ext.mod z_180 m_183 (ge1 (by omega))
 have := m_183.size
 refine fn λ w_187 x_188 => ?_
 have := x_188.size
 have z_187 := eT z_182 x_188
 refine nT <| sg <| vL (mf rfl rfl) <| va rfl <| nK <| sg <| ?_
 have B_5 := B_5.later (eT x_82 (eT x_100 x_167))
 have B_5 := B_5.mod m_169 (nm1 (by omega))
 have B_5 := B_5.later x_174
 have B_5 := B_5.mod m_176 (nm1 (by omega))
 have B_5 := B_5.later x_181
 have B_5 := B_5.mod m_183 (nm1 (by omega))
 have B_5 := B_5.later x_188
 refine vL (ld rfl (B_5.all eF61 eF62)) <| vm rfl <| ca eF165 rfl rfl ((turn_any a W _ _ l _ (hW.keep z_187) (hl.keep z_187)).mono ?_)
 rintro e w_199 ⟨a190, A1900, c1900, A1901, c1901, A1902, c1902, rfl, HO190, OR1900, OR1901, OR1902, hd190, x_200⟩
 refine ⟨_, rfl, ?_⟩
 have := x_200.size
 have z_199 := eT z_187 x_200
 have u_191 := λ q hq => (HO190.lt q hq).2
 have lo_192 := λ q hq => (HO190.lt q hq).1
 have u_193 := λ q hq => (OR1900.lt q hq).2
 have lo_194 := λ q hq => (OR1900.lt q hq).1
 have u_195 := λ q hq => (OR1901.lt q hq).2
 have lo_196 := λ q hq => (OR1901.lt q hq).1
 have u_197 := λ q hq => (OR1902.lt q hq).2
 have lo_198 := λ q hq => (OR1902.lt q hq).1
 have dd1900 : ∀ q ∈ Rep.blkOf A1900, q ∈ WOwn.foot a190 → False := λ q hq => hd190 q (.inl hq)
 have dw1900 : ∀ q ∈ WOwn.foot a190, q ∈ Rep.blkOf A1900 → False := λ q h1 h2 => dd1900 q h2 h1
 have dd1901 : ∀ q ∈ Rep.blkOf A1901, q ∈ WOwn.foot a190 → False := λ q hq => hd190 q (.inr (.inl hq))
 have dw1901 : ∀ q ∈ WOwn.foot a190, q ∈ Rep.blkOf A1901 → False := λ q h1 h2 => dd1901 q h2 h1
 have dd1902 : ∀ q ∈ Rep.blkOf A1902, q ∈ WOwn.foot a190 → False := λ q hq => hd190 q (.inr (.inr hq))
 have dw1902 : ∀ q ∈ WOwn.foot a190, q ∈ Rep.blkOf A1902 → False := λ q h1 h2 => dd1902 q h2 h1
 refine vm rfl <| vL (ex rfl rfl) <| vL (ex rfl rfl) <| vL (ex rfl rfl) <| al rfl eF80 rfl rfl λ w_202 b_203 x_204 l_205 B_206 => ?_
 have := x_204.size
 have z_202 := eT z_199 x_204
 have q_208 := B_206.lt
 refine al rfl eF152 rfl rfl λ w_209 b_210 x_211 l_212 B_213 => ?_
 have := x_211.size
 have z_209 := eT z_202 x_211
 have q_215 := B_213.lt
 have B_206 := B_206.later x_211
 refine st rfl rfl B_206 rfl eF62 rfl rfl rfl λ w_216 m_217 B_206 => ?_
 have := m_217.size
 have z_216 := Ext.mod z_209 m_217 (ge1 (by omega))
 have := m_217.size
 have B_213 := B_213.mod m_217 (nm1 (by omega))
 refine st (new := [.slice A1900 ((turnG W l).length) c1900, .slice A1901 ((turnM W l).length) c1901, .slice A1902 ((turnD W l).length) c1902]) rfl rfl B_213 rfl eF154 rfl rfl rfl λ w_220 m_221 B_213 => ?_
 have := m_221.size
 have z_220 := Ext.mod z_216 m_221 (ge1 (by omega))
 have := m_221.size
 refine va rfl <| nK <| sg <| ?_
 have B_5 := B_5.later (eT x_200 (eT x_204 x_211))
 have B_5 := B_5.mod m_217 (nm1 (by omega))
 have B_5 := B_5.mod m_221 (nm1 (by omega))
 refine vL (ld rfl (B_5.all eF61 eF62)) <| ca eF182 rfl rfl ((run_any a W _ _ ([] : List SV) ([]) _ (hW.keep z_220) (Rep.SHas.nil _) Tells.nil).mono ?_)
 rintro e w_229 ⟨E224, a224, V224, A224, c224, ms224, rfl, hr224, HO224, OM224, hd224, x_230⟩
 refine ⟨_, rfl, ?_⟩
 have := x_230.size
 have z_229 := eT z_220 x_230
 have u_225 := λ q hq => (HO224.lt q hq).2
 have lo_226 := λ q hq => (HO224.lt q hq).1
 have u_227 := λ q hq => (OM224.lt q hq).2
 have lo_228 := λ q hq => (OM224.lt q hq).1
 have dd224 : ∀ q ∈ Rep.blkOf A224, q ∈ WOwn.foot a224 → False := hd224
 have dw224 : ∀ q ∈ WOwn.foot a224, q ∈ Rep.blkOf A224 → False := λ q h1 h2 => hd224 q h2 h1
 refine vm rfl <| vL (ex rfl rfl) <| vL (ex rfl rfl) <| vL (ex rfl rfl) <| al rfl eF80 rfl rfl λ w_232 b_233 x_234 l_235 B_236 => ?_
 have := x_234.size
 have z_232 := eT z_229 x_234
 have q_238 := B_236.lt
 refine st rfl rfl B_236 rfl eF62 rfl rfl rfl λ w_239 m_240 B_236 => ?_
 have := m_240.size
 have z_239 := Ext.mod z_232 m_240 (ge1 (by omega))
 have := m_240.size
 refine va rfl <| va rfl <| nK <| sg <| ?_
 have B_5 := B_5.later (eT x_230 x_234)
 have B_5 := B_5.mod m_240 (nm1 (by omega))
 refine vL (ld rfl (B_5.all eF61 eF62)) <| vm rfl <| bs (e := 36) (cs := [.slice A l.length c]) rfl (λ _ => by kernel_rfl) rfl λ w_243 b_244 x_245 l_246 B_247 => ?_
 have := x_245.size
 have z_243 := eT z_239 x_245
 have q_249 := B_247.lt
 refine ca eF182 rfl rfl ((run_any a W _ _ ([(⟨A, l.length, c⟩ : SV)]) ([l]) _ (hW.keep z_243) (Blk.hasN (R := svRep) (by_ := 24) (k := [(⟨A, l.length, c⟩ : SV)]) B_247 [[.slice A l.length c]] rfl (⟨⟨rfl, trivial⟩, trivial⟩) (by simp) (by simp)) (Tells.one (hl.keep z_243))).mono ?_)
 rintro e w_255 ⟨E250, a250, V250, A250, c250, ms250, rfl, hr250, HO250, OM250, hd250, x_256⟩
 refine ⟨_, rfl, ?_⟩
 have := x_256.size
 have z_255 := eT z_243 x_256
 have u_251 := λ q hq => (HO250.lt q hq).2
 have lo_252 := λ q hq => (HO250.lt q hq).1
 have u_253 := λ q hq => (OM250.lt q hq).2
 have lo_254 := λ q hq => (OM250.lt q hq).1
 have dd250 : ∀ q ∈ Rep.blkOf A250, q ∈ WOwn.foot a250 → False := hd250
 have dw250 : ∀ q ∈ WOwn.foot a250, q ∈ Rep.blkOf A250 → False := λ q h1 h2 => hd250 q h2 h1
 refine vm rfl <| vL (ex rfl rfl) <| vL (ex rfl rfl) <| vL (ex rfl rfl) <| al rfl eF80 rfl rfl λ w_258 b_259 x_260 l_261 B_262 => ?_
 have := x_260.size
 have z_258 := eT z_255 x_260
 have q_264 := B_262.lt
 refine st rfl rfl B_262 rfl eF62 rfl rfl rfl λ w_265 m_266 B_262 => ?_
 have := m_266.size
 have z_265 := Ext.mod z_258 m_266 (ge1 (by omega))
 have := m_266.size
 refine va rfl <| va rfl <| nK <| sg <| vm rfl <| ?_
 have B_5 := B_5.later (eT x_245 (eT x_256 x_260))
 have B_5 := B_5.mod m_266 (nm1 (by omega))
 have B_48 := B_48.later x_72
 have B_48 := B_48.mod m_74 (nm1 (by omega))
 have B_48 := B_48.later (eT x_79 (eT x_82 (eT x_100 x_167)))
 have B_48 := B_48.mod m_169 (nm1 (by omega))
 have B_48 := B_48.later x_174
 have B_48 := B_48.mod m_176 (nm1 (by omega))
 have B_48 := B_48.later x_181
 have B_48 := B_48.mod m_183 (nm1 (by omega))
 have B_48 := B_48.later (eT x_188 (eT x_200 (eT x_204 x_211)))
 have B_48 := B_48.mod m_217 (nm1 (by omega))
 have B_48 := B_48.mod m_221 (nm1 (by omega))
 have B_48 := B_48.later (eT x_230 x_234)
 have B_48 := B_48.mod m_240 (nm1 (by omega))
 have B_48 := B_48.later (eT x_245 (eT x_256 x_260))
 have B_48 := B_48.mod m_266 (nm1 (by omega))
 have B_55 := B_55.later (eT x_79 (eT x_82 (eT x_100 x_167)))
 have B_55 := B_55.mod m_169 (nm1 (by omega))
 have B_55 := B_55.later x_174
 have B_55 := B_55.mod m_176 (nm1 (by omega))
 have B_55 := B_55.later x_181
 have B_55 := B_55.mod m_183 (nm1 (by omega))
 have B_55 := B_55.later (eT x_188 (eT x_200 (eT x_204 x_211)))
 have B_55 := B_55.mod m_217 (nm1 (by omega))
 have B_55 := B_55.mod m_221 (nm1 (by omega))
 have B_55 := B_55.later (eT x_230 x_234)
 have B_55 := B_55.mod m_240 (nm1 (by omega))
 have B_55 := B_55.later (eT x_245 (eT x_256 x_260))
 have B_55 := B_55.mod m_266 (nm1 (by omega))
 have B_134 := B_134.later x_174
 have B_134 := B_134.mod m_176 (nm1 (by omega))
 have B_134 := B_134.later x_181
 have B_134 := B_134.mod m_183 (nm1 (by omega))
 have B_134 := B_134.later (eT x_188 (eT x_200 (eT x_204 x_211)))
 have B_134 := B_134.mod m_217 (nm1 (by omega))
 have B_134 := B_134.mod m_221 (nm1 (by omega))
 have B_134 := B_134.later (eT x_230 x_234)
 have B_134 := B_134.mod m_240 (nm1 (by omega))
 have B_134 := B_134.later (eT x_245 (eT x_256 x_260))
 have B_134 := B_134.mod m_266 (nm1 (by omega))
 have B_141 := B_141.later x_181
 have B_141 := B_141.mod m_183 (nm1 (by omega))
 have B_141 := B_141.later (eT x_188 (eT x_200 (eT x_204 x_211)))
 have B_141 := B_141.mod m_217 (nm1 (by omega))
 have B_141 := B_141.mod m_221 (nm1 (by omega))
 have B_141 := B_141.later (eT x_230 x_234)
 have B_141 := B_141.mod m_240 (nm1 (by omega))
 have B_141 := B_141.later (eT x_245 (eT x_256 x_260))
 have B_141 := B_141.mod m_266 (nm1 (by omega))
 have B_148 := B_148.later (eT x_188 (eT x_200 (eT x_204 x_211)))
 have B_148 := B_148.mod m_217 (nm1 (by omega))
 have B_148 := B_148.mod m_221 (nm1 (by omega))
 have B_148 := B_148.later (eT x_230 x_234)
 have B_148 := B_148.mod m_240 (nm1 (by omega))
 have B_148 := B_148.later (eT x_245 (eT x_256 x_260))
 have B_148 := B_148.mod m_266 (nm1 (by omega))
 have O_33 := O_33.later x_65
 have O_33 := O_33.mod m_67 (λ q hq h => by have hb := List.mem_singleton.1 h; exfalso; (exact (λ q h1 h2 => d_59 q h2 h1) q hq hb))
 have O_33 := O_33.later x_72
 have O_33 := O_33.mod m_74 (λ q hq h => by have hb := List.mem_singleton.1 h; exfalso; (exact (λ q h1 h2 => d_61 q h2 h1) q hq hb))
 have O_33 := O_33.later (eT x_79 (eT x_82 (eT x_100 x_167)))
 have O_33 := O_33.mod m_169 (fk1 u_34 (by omega))
 have O_33 := O_33.later x_174
 have O_33 := O_33.mod m_176 (fk1 u_34 (by omega))
 have O_33 := O_33.later x_181
 have O_33 := O_33.mod m_183 (fk1 u_34 (by omega))
 have O_33 := O_33.later (eT x_188 (eT x_200 (eT x_204 x_211)))
 have O_33 := O_33.mod m_217 (fk1 u_34 (by omega))
 have O_33 := O_33.mod m_221 (fk1 u_34 (by omega))
 have O_33 := O_33.later (eT x_230 x_234)
 have O_33 := O_33.mod m_240 (fk1 u_34 (by omega))
 have O_33 := O_33.later (eT x_245 (eT x_256 x_260))
 have O_33 := O_33.mod m_266 (fk1 u_34 (by omega))
 have O_41 := O_41.later x_65
 have O_41 := O_41.mod m_67 (λ q hq h => by have hb := List.mem_singleton.1 h; exfalso; (exact (λ q h1 h2 => d_60 q h2 h1) q hq hb))
 have O_41 := O_41.later x_72
 have O_41 := O_41.mod m_74 (λ q hq h => by have hb := List.mem_singleton.1 h; exfalso; (exact (λ q h1 h2 => d_62 q h2 h1) q hq hb))
 have O_41 := O_41.later (eT x_79 (eT x_82 (eT x_100 x_167)))
 have O_41 := O_41.mod m_169 (fk1 u_42 (by omega))
 have O_41 := O_41.later x_174
 have O_41 := O_41.mod m_176 (fk1 u_42 (by omega))
 have O_41 := O_41.later x_181
 have O_41 := O_41.mod m_183 (fk1 u_42 (by omega))
 have O_41 := O_41.later (eT x_188 (eT x_200 (eT x_204 x_211)))
 have O_41 := O_41.mod m_217 (fk1 u_42 (by omega))
 have O_41 := O_41.mod m_221 (fk1 u_42 (by omega))
 have O_41 := O_41.later (eT x_230 x_234)
 have O_41 := O_41.mod m_240 (fk1 u_42 (by omega))
 have O_41 := O_41.later (eT x_245 (eT x_256 x_260))
 have O_41 := O_41.mod m_266 (fk1 u_42 (by omega))
 have O_111 := O_111.later x_167
 have O_111 := O_111.mod m_169 (λ q hq h => by have hb := List.mem_singleton.1 h; exfalso; (exact (λ q h1 h2 => d_154 q h2 h1) q hq hb))
 have O_111 := O_111.later x_174
 have O_111 := O_111.mod m_176 (λ q hq h => by have hb := List.mem_singleton.1 h; exfalso; (exact (λ q h1 h2 => d_157 q h2 h1) q hq hb))
 have O_111 := O_111.later x_181
 have O_111 := O_111.mod m_183 (λ q hq h => by have hb := List.mem_singleton.1 h; exfalso; (exact (λ q h1 h2 => d_161 q h2 h1) q hq hb))
 have O_111 := O_111.later (eT x_188 (eT x_200 (eT x_204 x_211)))
 have O_111 := O_111.mod m_217 (fk1 u_112 (by omega))
 have O_111 := O_111.mod m_221 (fk1 u_112 (by omega))
 have O_111 := O_111.later (eT x_230 x_234)
 have O_111 := O_111.mod m_240 (fk1 u_112 (by omega))
 have O_111 := O_111.later (eT x_245 (eT x_256 x_260))
 have O_111 := O_111.mod m_266 (fk1 u_112 (by omega))
 have O_119 := O_119.later x_167
 have O_119 := O_119.mod m_169 (λ q hq h => by have hb := List.mem_singleton.1 h; exfalso; (exact (λ q h1 h2 => d_155 q h2 h1) q hq hb))
 have O_119 := O_119.later x_174
 have O_119 := O_119.mod m_176 (λ q hq h => by have hb := List.mem_singleton.1 h; exfalso; (exact (λ q h1 h2 => d_158 q h2 h1) q hq hb))
 have O_119 := O_119.later x_181
 have O_119 := O_119.mod m_183 (λ q hq h => by have hb := List.mem_singleton.1 h; exfalso; (exact (λ q h1 h2 => d_162 q h2 h1) q hq hb))
 have O_119 := O_119.later (eT x_188 (eT x_200 (eT x_204 x_211)))
 have O_119 := O_119.mod m_217 (fk1 u_120 (by omega))
 have O_119 := O_119.mod m_221 (fk1 u_120 (by omega))
 have O_119 := O_119.later (eT x_230 x_234)
 have O_119 := O_119.mod m_240 (fk1 u_120 (by omega))
 have O_119 := O_119.later (eT x_245 (eT x_256 x_260))
 have O_119 := O_119.mod m_266 (fk1 u_120 (by omega))
 have O_127 := O_127.later x_167
 have O_127 := O_127.mod m_169 (λ q hq h => by have hb := List.mem_singleton.1 h; exfalso; (exact (λ q h1 h2 => d_156 q h2 h1) q hq hb))
 have O_127 := O_127.later x_174
 have O_127 := O_127.mod m_176 (λ q hq h => by have hb := List.mem_singleton.1 h; exfalso; (exact (λ q h1 h2 => d_159 q h2 h1) q hq hb))
 have O_127 := O_127.later x_181
 have O_127 := O_127.mod m_183 (λ q hq h => by have hb := List.mem_singleton.1 h; exfalso; (exact (λ q h1 h2 => d_163 q h2 h1) q hq hb))
 have O_127 := O_127.later (eT x_188 (eT x_200 (eT x_204 x_211)))
 have O_127 := O_127.mod m_217 (fk1 u_128 (by omega))
 have O_127 := O_127.mod m_221 (fk1 u_128 (by omega))
 have O_127 := O_127.later (eT x_230 x_234)
 have O_127 := O_127.mod m_240 (fk1 u_128 (by omega))
 have O_127 := O_127.later (eT x_245 (eT x_256 x_260))
 have O_127 := O_127.mod m_266 (fk1 u_128 (by omega))
 refine cv eF183 rfl rfl rfl ((townSame a W b_2 b_47 b_54 b_133 b_140 b_147 A_31 A_39 A_109 A_117 A_125 c_32 c_40 c_110 c_118 c_126 _ (hW.keep z_265) B_5 B_48 O_33.has B_55 O_41.has B_134 O_111.has B_141 O_119.has B_148 O_127.has).mono ?_)
 rintro e w_269 ⟨rfl, x_270⟩
 refine ⟨_, rfl, ?_⟩
 have := x_270.size
 have z_269 := eT z_265 x_270
 refine va rfl <| nK <| sq <| sg <| ?_
 have B_206 := B_206.mod m_221 (nm1 (by omega))
 have B_206 := B_206.later (eT x_230 x_234)
 have B_206 := B_206.mod m_240 (nm1 (by omega))
 have B_206 := B_206.later (eT x_245 (eT x_256 x_260))
 have B_206 := B_206.mod m_266 (nm1 (by omega))
 have B_206 := B_206.later x_270
 refine vL (ld rfl (B_206.all eF61 eF62)) <| ?_
 have B_236 := B_236.later (eT x_245 (eT x_256 x_260))
 have B_236 := B_236.mod m_266 (nm1 (by omega))
 have B_236 := B_236.later x_270
 refine vL (ld rfl (B_236.all eF61 eF62)) <| ?_
 have B_262 := B_262.later x_270
 refine vL (ld rfl (B_262.all eF61 eF62)) <| vL (v := .agg #[.int .i64 ((turnW W l).field.wide), .int .i64 ((turnW W l).field.high), .slice a190.P ((turnW W l).field.places.length) a190.p, .slice a190.B ((turnW W l).bases.length) a190.b, .slice a190.S ((turnW W l).stocks.length) a190.s, .slice a190.M ((turnW W l).mines.length) a190.m, .slice a190.T ((turnW W l).troops.length) a190.t, .int .i64 ((turnW W l).next), .int .i64 ((turnW W l).now), .int .i64 V224.field.wide, .int .i64 V224.field.high, .slice a224.P V224.field.places.length a224.p, .slice a224.B V224.bases.length a224.b, .slice a224.S V224.stocks.length a224.s, .slice a224.M V224.mines.length a224.m, .slice a224.T V224.troops.length a224.t, .int .i64 V224.next, .int .i64 V224.now, .int .i64 V250.field.wide, .int .i64 V250.field.high, .slice a250.P V250.field.places.length a250.p, .slice a250.B V250.bases.length a250.b, .slice a250.S V250.stocks.length a250.s, .slice a250.M V250.mines.length a250.m, .slice a250.T V250.troops.length a250.t, .int .i64 V250.next, .int .i64 V250.now]) (bd rfl (by kernel_rfl)) <| vm rfl <| nK <| bk <| lu 4 <| lr <| sg <| vL (blt rfl rfl) <| nK <| sq <| cT rfl <| sK <| sq <| bk <| sg <| vL (v := .agg #[.int .i64 ((turnW W l).field.wide), .int .i64 ((turnW W l).field.high), .slice a190.P ((turnW W l).field.places.length) a190.p, .slice a190.B ((turnW W l).bases.length) a190.b, .slice a190.S ((turnW W l).stocks.length) a190.s, .slice a190.M ((turnW W l).mines.length) a190.m, .slice a190.T ((turnW W l).troops.length) a190.t, .int .i64 ((turnW W l).next), .int .i64 ((turnW W l).now)]) (ixk rfl rfl (by kernel_rfl)) <| al rfl eF80 rfl rfl λ w_272 b_273 x_274 l_275 B_276 => ?_
 have := x_274.size
 have z_272 := eT z_269 x_274
 have q_278 := B_276.lt
 refine st (new := [.int .i64 ((turnW W l).field.wide), .int .i64 ((turnW W l).field.high), .slice a190.P ((turnW W l).field.places.length) a190.p, .slice a190.B ((turnW W l).bases.length) a190.b, .slice a190.S ((turnW W l).stocks.length) a190.s, .slice a190.M ((turnW W l).mines.length) a190.m, .slice a190.T ((turnW W l).troops.length) a190.t, .int .i64 ((turnW W l).next), .int .i64 ((turnW W l).now)]) rfl rfl B_276 rfl eF62 rfl rfl rfl λ w_279 m_280 B_276 => ?_
 have := m_280.size
 have z_279 := Ext.mod z_272 m_280 (ge1 (by omega))
 have := m_280.size
 refine nK <| rg <| vL (ld rfl (B_276.all eF61 eF62)) <| ?_
 have HO190 := HO190.later (eT x_204 x_211)
 have HO190 := HO190.mod m_217 (fk1 u_191 (by omega))
 have HO190 := HO190.mod m_221 (fk1 u_191 (by omega))
 have HO190 := HO190.later (eT x_230 x_234)
 have HO190 := HO190.mod m_240 (fk1 u_191 (by omega))
 have HO190 := HO190.later (eT x_245 (eT x_256 x_260))
 have HO190 := HO190.mod m_266 (fk1 u_191 (by omega))
 have HO190 := HO190.later (eT x_270 x_274)
 have HO190 := HO190.mod m_280 (fk1 u_191 (by omega))
 refine ca eF184 rfl rfl ((spoilWorld_any a190 (turnW W l) _ _ HO190).mono ?_)
 rintro e w_284 ⟨rfl, m_283⟩
 refine ⟨_, rfl, ?_⟩
 have := m_283.size
 have z_284 := Ext.mod z_279 m_283 (λ q hq => by have := lo_192 q hq; omega)
 refine nl <| nB <| nT <| rg <| vL (badL (r := 1) rfl rfl (by decide) (by decide)) <| vm rfl <| nl <| nR <| lr <| sg <| vL (blt rfl rfl) <| nK <| sq <| cT rfl <| sK <| sq <| bk <| sg <| vL (v := .agg #[.int .i64 V224.field.wide, .int .i64 V224.field.high, .slice a224.P V224.field.places.length a224.p, .slice a224.B V224.bases.length a224.b, .slice a224.S V224.stocks.length a224.s, .slice a224.M V224.mines.length a224.m, .slice a224.T V224.troops.length a224.t, .int .i64 V224.next, .int .i64 V224.now]) (ixk rfl rfl (by kernel_rfl)) <| al rfl eF80 rfl rfl λ w_286 b_287 x_288 l_289 B_290 => ?_
 have := x_288.size
 have z_286 := eT z_284 x_288
 have q_292 := B_290.lt
 refine st (new := [.int .i64 V224.field.wide, .int .i64 V224.field.high, .slice a224.P V224.field.places.length a224.p, .slice a224.B V224.bases.length a224.b, .slice a224.S V224.stocks.length a224.s, .slice a224.M V224.mines.length a224.m, .slice a224.T V224.troops.length a224.t, .int .i64 V224.next, .int .i64 V224.now]) rfl rfl B_290 rfl eF62 rfl rfl rfl λ w_293 m_294 B_290 => ?_
 have := m_294.size
 have z_293 := Ext.mod z_286 m_294 (ge1 (by omega))
 have := m_294.size
 refine nK <| rg <| vL (ld rfl (B_290.all eF61 eF62)) <| ?_
 have HO224 := HO224.later x_234
 have HO224 := HO224.mod m_240 (fk1 u_225 (by omega))
 have HO224 := HO224.later (eT x_245 (eT x_256 x_260))
 have HO224 := HO224.mod m_266 (fk1 u_225 (by omega))
 have HO224 := HO224.later (eT x_270 x_274)
 have HO224 := HO224.mod m_280 (fk1 u_225 (by omega))
 have HO224 := HO224.mod m_283 (λ q hq h => by exfalso; (have := lo_226 q hq; (have := u_191 q h; omega)))
 have HO224 := HO224.later x_288
 have HO224 := HO224.mod m_294 (fk1 u_225 (by omega))
 refine ca eF184 rfl rfl ((spoilWorld_any a224 V224 _ _ HO224).mono ?_)
 rintro e w_298 ⟨rfl, m_297⟩
 refine ⟨_, rfl, ?_⟩
 have := m_297.size
 have z_298 := Ext.mod z_293 m_297 (λ q hq => by have := lo_226 q hq; omega)
 refine nl <| nB <| nT <| rg <| vL (badL (r := 2) rfl rfl (by decide) (by decide)) <| vm rfl <| nl <| nR <| lr <| sg <| vL (blt rfl rfl) <| nK <| sq <| cT rfl <| sK <| sq <| bk <| sg <| vL (v := .agg #[.int .i64 V250.field.wide, .int .i64 V250.field.high, .slice a250.P V250.field.places.length a250.p, .slice a250.B V250.bases.length a250.b, .slice a250.S V250.stocks.length a250.s, .slice a250.M V250.mines.length a250.m, .slice a250.T V250.troops.length a250.t, .int .i64 V250.next, .int .i64 V250.now]) (ixk rfl rfl (by kernel_rfl)) <| al rfl eF80 rfl rfl λ w_300 b_301 x_302 l_303 B_304 => ?_
 have := x_302.size
 have z_300 := eT z_298 x_302
 have q_306 := B_304.lt
 refine st (new := [.int .i64 V250.field.wide, .int .i64 V250.field.high, .slice a250.P V250.field.places.length a250.p, .slice a250.B V250.bases.length a250.b, .slice a250.S V250.stocks.length a250.s, .slice a250.M V250.mines.length a250.m, .slice a250.T V250.troops.length a250.t, .int .i64 V250.next, .int .i64 V250.now]) rfl rfl B_304 rfl eF62 rfl rfl rfl λ w_307 m_308 B_304 => ?_
 have := m_308.size
 have z_307 := Ext.mod z_300 m_308 (ge1 (by omega))
 have := m_308.size
 refine nK <| rg <| vL (ld rfl (B_304.all eF61 eF62)) <| ?_
 have HO250 := HO250.later x_260
 have HO250 := HO250.mod m_266 (fk1 u_251 (by omega))
 have HO250 := HO250.later (eT x_270 x_274)
 have HO250 := HO250.mod m_280 (fk1 u_251 (by omega))
 have HO250 := HO250.mod m_283 (λ q hq h => by exfalso; (have := lo_252 q hq; (have := u_191 q h; omega)))
 have HO250 := HO250.later x_288
 have HO250 := HO250.mod m_294 (fk1 u_251 (by omega))
 have HO250 := HO250.mod m_297 (λ q hq h => by exfalso; (have := lo_252 q hq; (have := u_225 q h; omega)))
 have HO250 := HO250.later x_302
 have HO250 := HO250.mod m_308 (fk1 u_251 (by omega))
 refine ca eF184 rfl rfl ((spoilWorld_any a250 V250 _ _ HO250).mono ?_)
 rintro e w_312 ⟨rfl, m_311⟩
 refine ⟨_, rfl, ?_⟩
 have := m_311.size
 have z_312 := Ext.mod z_307 m_311 (λ q hq => by have := lo_252 q hq; omega)
 refine nl <| nB <| nT <| rg <| vL (badL (r := 3) rfl rfl (by decide) (by decide)) <| vm rfl <| nl <| nR <| lr <| sg <| vL (blt rfl rfl) <| nK <| sq <| cF rfl <| xt <| xT <| xK <| xB <| nT <| sg <| ca eF185 rfl rfl ((tickLives_any _).mono ?_)
 rintro e w_314 ⟨rfl, x_315⟩
 refine ⟨_, rfl, ?_⟩
 have := x_315.size
 have z_314 := eT z_312 x_315
 refine vm rfl <| ug rfl rfl rfl <| vm rfl <| vL (pkT rfl rfl) <| vm rfl <| ug rfl rfl rfl <| vm rfl <| ug rfl rfl rfl <| ?_
 have B_5 := B_5.later (eT x_270 x_274)
 have B_5 := B_5.mod m_280 (nm1 (by omega))
 have d_317 : ∀ q ∈ WOwn.foot a190, q = b_2 → False := λ q hq hb => by (have := lo_192 q hq; omega)
 have B_5 := B_5.mod m_283 (λ hq => d_317 _ hq rfl)
 have B_5 := B_5.later x_288
 have B_5 := B_5.mod m_294 (nm1 (by omega))
 have d_318 : ∀ q ∈ WOwn.foot a224, q = b_2 → False := λ q hq hb => by (have := lo_226 q hq; omega)
 have B_5 := B_5.mod m_297 (λ hq => d_318 _ hq rfl)
 have B_5 := B_5.later x_302
 have B_5 := B_5.mod m_308 (nm1 (by omega))
 have d_319 : ∀ q ∈ WOwn.foot a250, q = b_2 → False := λ q hq hb => by (have := lo_252 q hq; omega)
 have B_5 := B_5.mod m_311 (λ hq => d_319 _ hq rfl)
 have B_5 := B_5.later x_315
 have B_48 := B_48.later (eT x_270 x_274)
 have B_48 := B_48.mod m_280 (nm1 (by omega))
 have d_320 : ∀ q ∈ WOwn.foot a190, q = b_47 → False := λ q hq hb => by (have := lo_192 q hq; omega)
 have B_48 := B_48.mod m_283 (λ hq => d_320 _ hq rfl)
 have B_48 := B_48.later x_288
 have B_48 := B_48.mod m_294 (nm1 (by omega))
 have d_321 : ∀ q ∈ WOwn.foot a224, q = b_47 → False := λ q hq hb => by (have := lo_226 q hq; omega)
 have B_48 := B_48.mod m_297 (λ hq => d_321 _ hq rfl)
 have B_48 := B_48.later x_302
 have B_48 := B_48.mod m_308 (nm1 (by omega))
 have d_322 : ∀ q ∈ WOwn.foot a250, q = b_47 → False := λ q hq hb => by (have := lo_252 q hq; omega)
 have B_48 := B_48.mod m_311 (λ hq => d_322 _ hq rfl)
 have B_48 := B_48.later x_315
 have B_55 := B_55.later (eT x_270 x_274)
 have B_55 := B_55.mod m_280 (nm1 (by omega))
 have d_323 : ∀ q ∈ WOwn.foot a190, q = b_54 → False := λ q hq hb => by (have := lo_192 q hq; omega)
 have B_55 := B_55.mod m_283 (λ hq => d_323 _ hq rfl)
 have B_55 := B_55.later x_288
 have B_55 := B_55.mod m_294 (nm1 (by omega))
 have d_324 : ∀ q ∈ WOwn.foot a224, q = b_54 → False := λ q hq hb => by (have := lo_226 q hq; omega)
 have B_55 := B_55.mod m_297 (λ hq => d_324 _ hq rfl)
 have B_55 := B_55.later x_302
 have B_55 := B_55.mod m_308 (nm1 (by omega))
 have d_325 : ∀ q ∈ WOwn.foot a250, q = b_54 → False := λ q hq hb => by (have := lo_252 q hq; omega)
 have B_55 := B_55.mod m_311 (λ hq => d_325 _ hq rfl)
 have B_55 := B_55.later x_315
 have B_134 := B_134.later (eT x_270 x_274)
 have B_134 := B_134.mod m_280 (nm1 (by omega))
 have d_326 : ∀ q ∈ WOwn.foot a190, q = b_133 → False := λ q hq hb => by (have := lo_192 q hq; omega)
 have B_134 := B_134.mod m_283 (λ hq => d_326 _ hq rfl)
 have B_134 := B_134.later x_288
 have B_134 := B_134.mod m_294 (nm1 (by omega))
 have d_327 : ∀ q ∈ WOwn.foot a224, q = b_133 → False := λ q hq hb => by (have := lo_226 q hq; omega)
 have B_134 := B_134.mod m_297 (λ hq => d_327 _ hq rfl)
 have B_134 := B_134.later x_302
 have B_134 := B_134.mod m_308 (nm1 (by omega))
 have d_328 : ∀ q ∈ WOwn.foot a250, q = b_133 → False := λ q hq hb => by (have := lo_252 q hq; omega)
 have B_134 := B_134.mod m_311 (λ hq => d_328 _ hq rfl)
 have B_134 := B_134.later x_315
 have B_141 := B_141.later (eT x_270 x_274)
 have B_141 := B_141.mod m_280 (nm1 (by omega))
 have d_329 : ∀ q ∈ WOwn.foot a190, q = b_140 → False := λ q hq hb => by (have := lo_192 q hq; omega)
 have B_141 := B_141.mod m_283 (λ hq => d_329 _ hq rfl)
 have B_141 := B_141.later x_288
 have B_141 := B_141.mod m_294 (nm1 (by omega))
 have d_330 : ∀ q ∈ WOwn.foot a224, q = b_140 → False := λ q hq hb => by (have := lo_226 q hq; omega)
 have B_141 := B_141.mod m_297 (λ hq => d_330 _ hq rfl)
 have B_141 := B_141.later x_302
 have B_141 := B_141.mod m_308 (nm1 (by omega))
 have d_331 : ∀ q ∈ WOwn.foot a250, q = b_140 → False := λ q hq hb => by (have := lo_252 q hq; omega)
 have B_141 := B_141.mod m_311 (λ hq => d_331 _ hq rfl)
 have B_141 := B_141.later x_315
 have B_148 := B_148.later (eT x_270 x_274)
 have B_148 := B_148.mod m_280 (nm1 (by omega))
 have d_332 : ∀ q ∈ WOwn.foot a190, q = b_147 → False := λ q hq hb => by (have := lo_192 q hq; omega)
 have B_148 := B_148.mod m_283 (λ hq => d_332 _ hq rfl)
 have B_148 := B_148.later x_288
 have B_148 := B_148.mod m_294 (nm1 (by omega))
 have d_333 : ∀ q ∈ WOwn.foot a224, q = b_147 → False := λ q hq hb => by (have := lo_226 q hq; omega)
 have B_148 := B_148.mod m_297 (λ hq => d_333 _ hq rfl)
 have B_148 := B_148.later x_302
 have B_148 := B_148.mod m_308 (nm1 (by omega))
 have d_334 : ∀ q ∈ WOwn.foot a250, q = b_147 → False := λ q hq hb => by (have := lo_252 q hq; omega)
 have B_148 := B_148.mod m_311 (λ hq => d_334 _ hq rfl)
 have B_148 := B_148.later x_315
 have O_33 := O_33.later (eT x_270 x_274)
 have O_33 := O_33.mod m_280 (fk1 u_34 (by omega))
 have O_33 := O_33.mod m_283 (λ q hq h => by exfalso; (have := lo_192 q h; (have := u_34 q hq; omega)))
 have O_33 := O_33.later x_288
 have O_33 := O_33.mod m_294 (fk1 u_34 (by omega))
 have O_33 := O_33.mod m_297 (λ q hq h => by exfalso; (have := lo_226 q h; (have := u_34 q hq; omega)))
 have O_33 := O_33.later x_302
 have O_33 := O_33.mod m_308 (fk1 u_34 (by omega))
 have O_33 := O_33.mod m_311 (λ q hq h => by exfalso; (have := lo_252 q h; (have := u_34 q hq; omega)))
 have O_33 := O_33.later x_315
 have O_41 := O_41.later (eT x_270 x_274)
 have O_41 := O_41.mod m_280 (fk1 u_42 (by omega))
 have O_41 := O_41.mod m_283 (λ q hq h => by exfalso; (have := lo_192 q h; (have := u_42 q hq; omega)))
 have O_41 := O_41.later x_288
 have O_41 := O_41.mod m_294 (fk1 u_42 (by omega))
 have O_41 := O_41.mod m_297 (λ q hq h => by exfalso; (have := lo_226 q h; (have := u_42 q hq; omega)))
 have O_41 := O_41.later x_302
 have O_41 := O_41.mod m_308 (fk1 u_42 (by omega))
 have O_41 := O_41.mod m_311 (λ q hq h => by exfalso; (have := lo_252 q h; (have := u_42 q hq; omega)))
 have O_41 := O_41.later x_315
 have O_111 := O_111.later (eT x_270 x_274)
 have O_111 := O_111.mod m_280 (fk1 u_112 (by omega))
 have O_111 := O_111.mod m_283 (λ q hq h => by exfalso; (have := lo_192 q h; (have := u_112 q hq; omega)))
 have O_111 := O_111.later x_288
 have O_111 := O_111.mod m_294 (fk1 u_112 (by omega))
 have O_111 := O_111.mod m_297 (λ q hq h => by exfalso; (have := lo_226 q h; (have := u_112 q hq; omega)))
 have O_111 := O_111.later x_302
 have O_111 := O_111.mod m_308 (fk1 u_112 (by omega))
 have O_111 := O_111.mod m_311 (λ q hq h => by exfalso; (have := lo_252 q h; (have := u_112 q hq; omega)))
 have O_111 := O_111.later x_315
 have O_119 := O_119.later (eT x_270 x_274)
 have O_119 := O_119.mod m_280 (fk1 u_120 (by omega))
 have O_119 := O_119.mod m_283 (λ q hq h => by exfalso; (have := lo_192 q h; (have := u_120 q hq; omega)))
 have O_119 := O_119.later x_288
 have O_119 := O_119.mod m_294 (fk1 u_120 (by omega))
 have O_119 := O_119.mod m_297 (λ q hq h => by exfalso; (have := lo_226 q h; (have := u_120 q hq; omega)))
 have O_119 := O_119.later x_302
 have O_119 := O_119.mod m_308 (fk1 u_120 (by omega))
 have O_119 := O_119.mod m_311 (λ q hq h => by exfalso; (have := lo_252 q h; (have := u_120 q hq; omega)))
 have O_119 := O_119.later x_315
 have O_127 := O_127.later (eT x_270 x_274)
 have O_127 := O_127.mod m_280 (fk1 u_128 (by omega))
 have O_127 := O_127.mod m_283 (λ q hq h => by exfalso; (have := lo_192 q h; (have := u_128 q hq; omega)))
 have O_127 := O_127.later x_288
 have O_127 := O_127.mod m_294 (fk1 u_128 (by omega))
 have O_127 := O_127.mod m_297 (λ q hq h => by exfalso; (have := lo_226 q h; (have := u_128 q hq; omega)))
 have O_127 := O_127.later x_302
 have O_127 := O_127.mod m_308 (fk1 u_128 (by omega))
 have O_127 := O_127.mod m_311 (λ q hq h => by exfalso; (have := lo_252 q h; (have := u_128 q hq; omega)))
 have O_127 := O_127.later x_315
 refine cv eF183 rfl rfl rfl ((townSame a W b_2 b_47 b_54 b_133 b_140 b_147 A_31 A_39 A_109 A_117 A_125 c_32 c_40 c_110 c_118 c_126 _ (hW.keep z_314) B_5 B_48 O_33.has B_55 O_41.has B_134 O_111.has B_141 O_119.has B_148 O_127.has).mono ?_)
 rintro e w_335 ⟨rfl, x_336⟩
 refine ⟨_, rfl, ?_⟩
 have := x_336.size
 have z_335 := eT z_314 x_336
 refine vL (pkT rfl rfl) <| va rfl <| nK <| rt <| tR (.tmp rfl .nil) <| ?_
 exact ⟨rfl, z_335⟩
theorem tickOwn_any (c0 : Array Value) (a1 : Option Addr) (len1 cap1 : Nat) (w : World) (h0 : (.cons (.cons (.int .i64) (.cons (.int .i64) (.cons (.slice (.int .i64) 8) .nil))) (.cons (.slice (.cons (.int .i64) (.cons (.int .i64) .nil)) 16) (.cons (.slice (.int .i64) 8) (.cons (.slice (.int .i64) 8) (.cons (.slice (.cons (.int .i64) (.cons (.int .i64) (.cons (.int .i64) (.cons (.cons (.int .i64) (.cons (.int .i64) .nil)) (.cons (.int .i64) (.cons (.int .i64) .nil)))))) 56) (.cons (.int .i64) (.cons (.int .i64) .nil)))))) : Sh).Ok w c0.toList) (h1 : (.slice (.cons (.int .i64) (.cons (.int .i64) (.cons (.int .i64) (.cons (.cons (.int .i64) (.cons (.int .i64) .nil)) (.cons (.int .i64) .nil))))) 48 : Sh).Ok w [.slice a1 len1 cap1]) :
  Calls Tryz.prog 4 #[.agg c0, .slice a1 len1 cap1] w λ e w' => e = .returned (.bool true) ∧ Below w.heap.size w w' := by
 obtain ⟨a, W, e, hW⟩ := Wd.opens w _ (show Wd.sh.Ok w c0.toList from h0)
 have hc : c0 = (Wd.cells a W).toArray := by rw [← e]
 subst hc
 obtain ⟨A, c, l, e1, hl⟩ := Rep.opens_slice (R := Odr.rep) (by_ := 48) Odr.opens rfl (by decide) h1
 simp only [List.cons.injEq, Value.slice.injEq, and_true] at e1
 obtain ⟨rfl, rfl, rfl⟩ := e1
 exact tickOwn_walk a W _ _ l w hW hl
end
end Go.Proofs.YtccankldeogdlaaGreat
