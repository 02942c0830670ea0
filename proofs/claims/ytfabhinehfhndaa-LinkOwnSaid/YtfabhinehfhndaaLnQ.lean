/-
  LinkOwn. (Printed by bin/linkown2.py.)
-/
import Derived.Test.YtfabhinehfhndaaRwx
import Derived.Test.YtfabhinehfhndaaLnY
import Derived.Test.YtfabhinehfhndaaCloS
import Derived.Test.YtfabhinehfhndaaClone
import Derived.Test.YtfabhinehfhndaaGolD
set_option linter.unusedVariables false
set_option linter.unusedSimpArgs false
namespace Go.Proofs.Ytfabhinehfhndaa
open Go.RowKit

theorem LnQ_fd_api_Link_1 : Fd Try.prog 55 1 1 := fun _ _ _ => by kernel_rfl
theorem LnQ_ag_S_string : Ag Try.prog 53 false := fun _ => by kernel_rfl
theorem LnQ_en_slices_Equal_S_string_string_ : Enters Try.prog 28 := en Try.func28 (by kernel_rfl) (by kernel_rfl)
theorem LnQ_fd_api_Link_6 : Fd Try.prog 55 6 6 := fun _ _ _ => by kernel_rfl
theorem LnQ_fd_api_Link_4 : Fd Try.prog 55 4 4 := fun _ _ _ => by kernel_rfl
theorem LnQ_ag_S_int : Ag Try.prog 38 false := fun _ => by kernel_rfl
theorem LnQ_en_slices_Equal_S_int_int_ : Enters Try.prog 36 := en Try.func36 (by kernel_rfl) (by kernel_rfl)
theorem LnQ_fd_api_Link_5 : Fd Try.prog 55 5 5 := fun _ _ _ => by kernel_rfl
theorem LnQ_fd_api_Link_7 : Fd Try.prog 55 7 7 := fun _ _ _ => by kernel_rfl
theorem LnQ_en_slices_Clone_S_string_string_ : Enters Try.prog 33 := en Try.func33 (by kernel_rfl) (by kernel_rfl)
theorem LnQ_en_slices_Clone_S_int_int_ : Enters Try.prog 34 := en Try.func34 (by kernel_rfl) (by kernel_rfl)
theorem LnQ_zv_api_Link : Zv Try.prog 55 (.agg #[.int .i64 0, .slice none 0 0, .int .i64 0, .int .i64 0, .slice none 0 0, .slice none 0 0, .slice none 0 0, .slice none 0 0]) := fun _ => by kernel_rfl
theorem LnQ_sz_api_Link : Sz Try.prog 55 8 := fun _ => by kernel_rfl
theorem LnQ_ag_api_Link : Ag Try.prog 55 true := fun _ => by kernel_rfl
theorem LnQ_ag_api_Event : Ag Try.prog 60 true := fun _ => by kernel_rfl
theorem LnQ_sz_api_Event : Sz Try.prog 60 4 := fun _ => by kernel_rfl
theorem LnQ_en_link_Do : Enters Try.prog 31 := en Try.func31 (by kernel_rfl) (by kernel_rfl)
theorem LnQ_en_mustkeep_LinkOwn_1 : Enters Try.prog 35 := en Try.func35 (by kernel_rfl) (by kernel_rfl)
theorem LnQ_sz_string : Sz Try.prog 9 1 := fun _ => by kernel_rfl
theorem LnQ_ag_string : Ag Try.prog 9 false := fun _ => by kernel_rfl
theorem LnQ_sz_int : Sz Try.prog 3 1 := fun _ => by kernel_rfl
theorem LnQ_ag_int : Ag Try.prog 3 false := fun _ => by kernel_rfl
theorem LnQ_en_mustkeep_linkLives : Enters Try.prog 27 := en Try.func27 (by kernel_rfl) (by kernel_rfl)
theorem Lnk.Has.nums0 {w : World} {a : Lnk.At} {L : Lnk} (h : Lnk.Has w a L) : okI 0 ∧ okI 0 ∧ okI 0 := ⟨okI_iff.2 (by decide), okI_iff.2 (by decide), okI_iff.2 (by decide)⟩
set_option maxRecDepth 100000 in
set_option maxHeartbeats 400000 in
theorem linkSame (a a2 : Lnk.At) (L : Lnk) (b0 b1 : Nat) (w : World) (hL : Lnk.Has w a L) (hM : Lnk.Has w a2 ⟨0, L.sent, 0, 0, L.way, L.acks, L.got, L.held⟩) (H0 : Blk w b0 (Lnk.cells a L) 55 (0, 0)) (H1 : Blk w b1 (Lnk.cells a2 ⟨0, L.sent, 0, 0, L.way, L.acks, L.got, L.held⟩) 55 (0, 0)) :
    Calls Try.prog 35 #[.pointer (some ⟨b0, 0, none⟩), .pointer (some ⟨b1, 0, none⟩)] w (fun e w' => e = .returned (.bool true) ∧ Ext w w') := by
  refine calls_W (n := 36) Try.func35 rfl rfl rfl ?_
  refine sq <| rg <| vl (as_ rfl) rfl <| nl <| nT <| sq <| rg <| vl (fa LnQ_fd_api_Link_1 rfl) rfl <| vl (ld rfl (H0.one LnQ_ag_S_string rfl)) rfl <| vl (fa LnQ_fd_api_Link_1 rfl) rfl <| vl (ld rfl (H1.one LnQ_ag_S_string rfl)) rfl <| ca LnQ_en_slices_Equal_S_string_string_ rfl rfl ((equal_S _ _ _ _ _ _ L.sent L.sent _ (hL.S.keep (Ext.rf w)) (hM.S.keep (Ext.rf w))).mono ?_)
  rintro e w_1 ⟨rfl, x_2⟩
  refine ⟨_, rfl, ?_⟩
  have q_3 := x_2.size
  have z_1 := Ext.tr (Ext.rf w) x_2
  refine vl (mv rfl) rfl <| vQ rfl rfl rfl rfl (fun hc => fa LnQ_fd_api_Link_6 rfl) rfl <| ?_
  have H0 := H0.later x_2
  refine vQ rfl rfl rfl rfl (fun hc => ld (gt hc rfl) (H0.one LnQ_ag_S_string rfl)) rfl <| vQ rfl rfl rfl rfl (fun hc => fa LnQ_fd_api_Link_6 rfl) rfl <| ?_
  have H1 := H1.later x_2
  refine vQ rfl rfl rfl rfl (fun hc => ld (gt hc rfl) (H1.one LnQ_ag_S_string rfl)) rfl <| vC rfl rfl rfl rfl LnQ_en_slices_Equal_S_string_string_ (fun hc => ec (gt hc rfl) (ec (gt hc rfl) rfl)) (fun hc => equal_S _ _ _ _ _ _ L.got L.got _ (hL.G.keep z_1) (hM.G.keep z_1)) rfl fun w_4 x_5 => ?_
  have q_6 := x_5.size
  have z_4 := Ext.tr z_1 x_5
  refine vl (pA rfl rfl rfl rfl) rfl <| vl (mv rfl) rfl <| vQ rfl rfl rfl rfl (fun hc => fa LnQ_fd_api_Link_4 rfl) rfl <| ?_
  have H0 := H0.later x_5
  refine vQ rfl rfl rfl rfl (fun hc => ld (gt hc rfl) (H0.one LnQ_ag_S_int rfl)) rfl <| vQ rfl rfl rfl rfl (fun hc => fa LnQ_fd_api_Link_4 rfl) rfl <| ?_
  have H1 := H1.later x_5
  refine vQ rfl rfl rfl rfl (fun hc => ld (gt hc rfl) (H1.one LnQ_ag_S_int rfl)) rfl <| vC rfl rfl rfl rfl LnQ_en_slices_Equal_S_int_int_ (fun hc => ec (gt hc rfl) (ec (gt hc rfl) rfl)) (fun hc => equal_Z _ _ _ _ _ _ L.way L.way _ (hL.W.keep z_4) (hM.W.keep z_4)) rfl fun w_7 x_8 => ?_
  have q_9 := x_8.size
  have z_7 := Ext.tr z_4 x_8
  refine vl (pA rfl rfl rfl rfl) rfl <| vl (mv rfl) rfl <| vQ rfl rfl rfl rfl (fun hc => fa LnQ_fd_api_Link_5 rfl) rfl <| ?_
  have H0 := H0.later x_8
  refine vQ rfl rfl rfl rfl (fun hc => ld (gt hc rfl) (H0.one LnQ_ag_S_int rfl)) rfl <| vQ rfl rfl rfl rfl (fun hc => fa LnQ_fd_api_Link_5 rfl) rfl <| ?_
  have H1 := H1.later x_8
  refine vQ rfl rfl rfl rfl (fun hc => ld (gt hc rfl) (H1.one LnQ_ag_S_int rfl)) rfl <| vC rfl rfl rfl rfl LnQ_en_slices_Equal_S_int_int_ (fun hc => ec (gt hc rfl) (ec (gt hc rfl) rfl)) (fun hc => equal_Z _ _ _ _ _ _ L.acks L.acks _ (hL.K.keep z_7) (hM.K.keep z_7)) rfl fun w_10 x_11 => ?_
  have q_12 := x_11.size
  have z_10 := Ext.tr z_7 x_11
  refine vl (pA rfl rfl rfl rfl) rfl <| vl (mv rfl) rfl <| vQ rfl rfl rfl rfl (fun hc => fa LnQ_fd_api_Link_7 rfl) rfl <| ?_
  have H0 := H0.later x_11
  refine vQ rfl rfl rfl rfl (fun hc => ld (gt hc rfl) (H0.one LnQ_ag_S_int rfl)) rfl <| vQ rfl rfl rfl rfl (fun hc => fa LnQ_fd_api_Link_7 rfl) rfl <| ?_
  have H1 := H1.later x_11
  refine vQ rfl rfl rfl rfl (fun hc => ld (gt hc rfl) (H1.one LnQ_ag_S_int rfl)) rfl <| vC rfl rfl rfl rfl LnQ_en_slices_Equal_S_int_int_ (fun hc => ec (gt hc rfl) (ec (gt hc rfl) rfl)) (fun hc => equal_Z _ _ _ _ _ _ L.held L.held _ (hL.H.keep z_10) (hM.H.keep z_10)) rfl fun w_13 x_14 => ?_
  have q_15 := x_14.size
  have z_13 := Ext.tr z_10 x_14
  refine vl (pA rfl rfl rfl rfl) rfl <| vl (as_ rfl) rfl <| nl <| nT <| rt <| tR (.tmp rfl .nil) <| ?_
  exact ⟨ret_true (by simp), z_13⟩
set_option maxRecDepth 100000 in
set_option maxHeartbeats 400000 in
theorem linkOwn_walk (a : Lnk.At) (L : Lnk) (x : Evt) (w : World) (hL : Lnk.Has w a L) (hxo : x.ok) :
    Calls Try.prog 12 #[.agg #[.int .i64 L.window, .slice a.S L.sent.length a.s, .int .i64 L.base, .int .i64 L.next, .slice a.W L.way.length a.w, .slice a.K L.acks.length a.k, .slice a.G L.got.length a.g, .slice a.H L.held.length a.h], .agg #[.int .i64 x.kind, .int .i64 x.at_, .bool x.keep, .string x.text]] w (fun e w' => e = .returned (.bool true) ∧ Ext w w') := by
  refine calls_W (n := 113) Try.func12 rfl rfl rfl ?_
  refine sq <| rg <| bx rfl rfl rfl rfl fun w_1 b_2 x_3 l_4 B_5 => ?_
  have q_6 := x_3.size
  have z_1 := Ext.tr (Ext.rf w) x_3
  have q_7 := B_5.lt
  refine bx rfl rfl rfl rfl fun w_8 b_9 x_10 l_11 B_12 => ?_
  have q_13 := x_10.size
  have z_8 := Ext.tr z_1 x_10
  have q_14 := B_12.lt
  refine vl (as_ rfl) rfl <| nl <| nT <| sq <| ?_
  refine rBD [(1, 0), (2, 2), (4, 0), (5, 2), (7, 0), (8, 2), (10, 0), (11, 2), (13, 0), (14, 2), (16, 2), (17, 3)] [0, 1, 3, 4, 6, 7, 9, 10, 12, 13] [2, 5, 8, 11, 14, 16] 15 [2, 5, 8, 11, 14] [17] (by kernel_rfl) (by kernel_rfl) ?_
  refine fw rfl rfl (fun _ => fa LnQ_fd_api_Link_1 rfl) rfl <| ?_
  have B_5 := B_5.later x_10
  refine fq rfl rfl (fun _ x => ld rfl ((B_5.later x).one LnQ_ag_S_string rfl)) rfl <| fw rfl rfl (fun _ => fa LnQ_fd_api_Link_6 rfl) rfl <| fq rfl rfl (fun _ x => ld rfl ((B_5.later x).one LnQ_ag_S_string rfl)) rfl <| fw rfl rfl (fun _ => fa LnQ_fd_api_Link_4 rfl) rfl <| fq rfl rfl (fun _ x => ld rfl ((B_5.later x).one LnQ_ag_S_int rfl)) rfl <| fw rfl rfl (fun _ => fa LnQ_fd_api_Link_5 rfl) rfl <| fq rfl rfl (fun _ x => ld rfl ((B_5.later x).one LnQ_ag_S_int rfl)) rfl <| fw rfl rfl (fun _ => fa LnQ_fd_api_Link_7 rfl) rfl <| fq rfl rfl (fun _ x => ld rfl ((B_5.later x).one LnQ_ag_S_int rfl)) rfl <| fn fun w_15 x_16 => ?_
  have q_17 := x_16.size
  have z_15 := Ext.tr z_8 x_16
  refine btD [(2, 18), (5, 21), (8, 24), (11, 27), (14, 30)] (fun vs_ => .agg #[.int .i64 0, vs_ 2, .int .i64 0, .int .i64 0, vs_ 8, vs_ 11, vs_ 5, vs_ 14]) [(2, 18, fun v_ f_ w_ => ∃ A_ c_, v_ = .slice A_ (L.sent).length c_ ∧ f_ = Rep.blkOf A_ ∧ repS.SOwn 9 16 w_ w_15.heap.size (Rep.blkOf A_) A_ c_ (L.sent)), (5, 21, fun v_ f_ w_ => ∃ A_ c_, v_ = .slice A_ (L.got).length c_ ∧ f_ = Rep.blkOf A_ ∧ repS.SOwn 9 16 w_ w_15.heap.size (Rep.blkOf A_) A_ c_ (L.got)), (8, 24, fun v_ f_ w_ => ∃ A_ c_, v_ = .slice A_ (L.way).length c_ ∧ f_ = Rep.blkOf A_ ∧ repI.SOwn 3 8 w_ w_15.heap.size (Rep.blkOf A_) A_ c_ (L.way)), (11, 27, fun v_ f_ w_ => ∃ A_ c_, v_ = .slice A_ (L.acks).length c_ ∧ f_ = Rep.blkOf A_ ∧ repI.SOwn 3 8 w_ w_15.heap.size (Rep.blkOf A_) A_ c_ (L.acks)), (14, 30, fun v_ f_ w_ => ∃ A_ c_, v_ = .slice A_ (L.held).length c_ ∧ f_ = Rep.blkOf A_ ∧ repI.SOwn 3 8 w_ w_15.heap.size (Rep.blkOf A_) A_ c_ (L.held)), (16, 5, NewB [.int .i64 0, .slice none 0 0, .int .i64 0, .int .i64 0, .slice none 0 0, .slice none 0 0, .slice none 0 0, .slice none 0 0] 55)] (am (mk_call LnQ_en_slices_Clone_S_string_string_ _ rfl rfl rfl rfl (fun _ _ _ _ ⟨A, c, h1, h2, h3⟩ x => ⟨A, c, h1, h2, h3.later x⟩) (fun w_18 x_19 => (clone_S _ _ L.sent _ (hL.S.keep (Ext.tr z_15 x_19))).mono fun e w2 ⟨A, c, he, hO, hn, hx⟩ => ⟨_, _, he, hx, fun q hq => hO.lt q hq, A, c, rfl, rfl, hO.down x_19.size⟩)) (am (mk_call LnQ_en_slices_Clone_S_string_string_ _ rfl rfl rfl rfl (fun _ _ _ _ ⟨A, c, h1, h2, h3⟩ x => ⟨A, c, h1, h2, h3.later x⟩) (fun w_23 x_24 => (clone_S _ _ L.got _ (hL.G.keep (Ext.tr z_15 x_24))).mono fun e w2 ⟨A, c, he, hO, hn, hx⟩ => ⟨_, _, he, hx, fun q hq => hO.lt q hq, A, c, rfl, rfl, hO.down x_24.size⟩)) (am (mk_call LnQ_en_slices_Clone_S_int_int_ _ rfl rfl rfl rfl (fun _ _ _ _ ⟨A, c, h1, h2, h3⟩ x => ⟨A, c, h1, h2, h3.later x⟩) (fun w_28 x_29 => (clone_I _ _ L.way _ (hL.W.keep (Ext.tr z_15 x_29))).mono fun e w2 ⟨A, c, he, hO, hn, hx⟩ => ⟨_, _, he, hx, fun q hq => hO.lt q hq, A, c, rfl, rfl, hO.down x_29.size⟩)) (am (mk_call LnQ_en_slices_Clone_S_int_int_ _ rfl rfl rfl rfl (fun _ _ _ _ ⟨A, c, h1, h2, h3⟩ x => ⟨A, c, h1, h2, h3.later x⟩) (fun w_33 x_34 => (clone_I _ _ L.acks _ (hL.K.keep (Ext.tr z_15 x_34))).mono fun e w2 ⟨A, c, he, hO, hn, hx⟩ => ⟨_, _, he, hx, fun q hq => hO.lt q hq, A, c, rfl, rfl, hO.down x_34.size⟩)) (am (mk_call LnQ_en_slices_Clone_S_int_int_ _ rfl rfl rfl rfl (fun _ _ _ _ ⟨A, c, h1, h2, h3⟩ x => ⟨A, c, h1, h2, h3.later x⟩) (fun w_38 x_39 => (clone_I _ _ L.held _ (hL.H.keep (Ext.tr z_15 x_39))).mono fun e w2 ⟨A, c, he, hO, hn, hx⟩ => ⟨_, _, he, hx, fun q hq => hO.lt q hq, A, c, rfl, rfl, hO.down x_39.size⟩)) (am (mk_alloc rfl LnQ_zv_api_Link rfl rfl rfl) an)))))) rfl rfl rfl rfl rfl rfl rfl rfl (fun v1_ v2_ h_ => by have h_2 := h_ (2, 18) (by decide); have h_5 := h_ (5, 21) (by decide); have h_8 := h_ (8, 24) (by decide); have h_11 := h_ (11, 27) (by decide); have h_14 := h_ (14, 30) (by decide); simp only [h_2, h_5, h_8, h_11, h_14]) (fun vs_ fs_ u_ hP_ w_ => by obtain ⟨A_2, c_2, e_2, _⟩ := hP_ _ (List.Mem.head _) (show (2 : Nat) ∈ ([2, 5, 8, 11, 14] : List Nat) by decide); obtain ⟨A_5, c_5, e_5, _⟩ := hP_ _ (List.Mem.tail _ (List.Mem.head _)) (show (5 : Nat) ∈ ([2, 5, 8, 11, 14] : List Nat) by decide); obtain ⟨A_8, c_8, e_8, _⟩ := hP_ _ (List.Mem.tail _ (List.Mem.tail _ (List.Mem.head _))) (show (8 : Nat) ∈ ([2, 5, 8, 11, 14] : List Nat) by decide); obtain ⟨A_11, c_11, e_11, _⟩ := hP_ _ (List.Mem.tail _ (List.Mem.tail _ (List.Mem.tail _ (List.Mem.head _)))) (show (11 : Nat) ∈ ([2, 5, 8, 11, 14] : List Nat) by decide); obtain ⟨A_14, c_14, e_14, _⟩ := hP_ _ (List.Mem.tail _ (List.Mem.tail _ (List.Mem.tail _ (List.Mem.tail _ (List.Mem.head _))))) (show (14 : Nat) ∈ ([2, 5, 8, 11, 14] : List Nat) by decide); show Runs _ ((18, vs_ 2) :: (21, vs_ 5) :: (24, vs_ 8) :: (27, vs_ 11) :: (30, vs_ 14) :: _) _ _ (.agg #[.int .i64 0, vs_ 2, .int .i64 0, .int .i64 0, vs_ 8, vs_ 11, vs_ 5, vs_ 14]) _; rw [e_2, e_5, e_8, e_11, e_14]; exact bd rfl (by kernel_rfl)) ?_
  intro w_43 vs_45 fs_46 x_44 hP_47 hD_48
  have q_49 := x_44.size
  have z_43 := Ext.tr z_15 x_44
  obtain ⟨⟨A_53, c_54, hv_50, hf_51, O_55⟩, hb_52⟩ := hP_47 _ (List.Mem.head _)
  have u_56 := fun q hq => (O_55.lt q hq).2
  have lo_57 := fun q hq => (O_55.lt q hq).1
  obtain ⟨⟨A_61, c_62, hv_58, hf_59, O_63⟩, hb_60⟩ := hP_47 _ (List.Mem.tail _ (List.Mem.head _))
  have u_64 := fun q hq => (O_63.lt q hq).2
  have lo_65 := fun q hq => (O_63.lt q hq).1
  obtain ⟨⟨A_69, c_70, hv_66, hf_67, O_71⟩, hb_68⟩ := hP_47 _ (List.Mem.tail _ (List.Mem.tail _ (List.Mem.head _)))
  have u_72 := fun q hq => (O_71.lt q hq).2
  have lo_73 := fun q hq => (O_71.lt q hq).1
  obtain ⟨⟨A_77, c_78, hv_74, hf_75, O_79⟩, hb_76⟩ := hP_47 _ (List.Mem.tail _ (List.Mem.tail _ (List.Mem.tail _ (List.Mem.head _))))
  have u_80 := fun q hq => (O_79.lt q hq).2
  have lo_81 := fun q hq => (O_79.lt q hq).1
  obtain ⟨⟨A_85, c_86, hv_82, hf_83, O_87⟩, hb_84⟩ := hP_47 _ (List.Mem.tail _ (List.Mem.tail _ (List.Mem.tail _ (List.Mem.tail _ (List.Mem.head _)))))
  have u_88 := fun q hq => (O_87.lt q hq).2
  have lo_89 := fun q hq => (O_87.lt q hq).1
  obtain ⟨⟨b_93, hv_90, hf_91, B_94⟩, hb_92⟩ := hP_47 _ (List.Mem.tail _ (List.Mem.tail _ (List.Mem.tail _ (List.Mem.tail _ (List.Mem.tail _ (List.Mem.head _))))))
  have q_95 := B_94.lt
  have l_96 := (hb_92 b_93 (by rw [hf_91]; exact List.Mem.head _)).1
  have d_97 : ∀ q, q ∈ Rep.blkOf A_61 → q ∈ Rep.blkOf A_53 → False := fun q h1 h2 => hD_48 _ (List.Mem.tail _ (List.Mem.head _)) _ (List.Mem.head _) (show (5 : Nat) ≠ 2 by decide) q (by rw [hf_59]; exact h1) (by rw [hf_51]; exact h2)
  have d_98 : ∀ q, q ∈ Rep.blkOf A_69 → q ∈ Rep.blkOf A_53 → False := fun q h1 h2 => hD_48 _ (List.Mem.tail _ (List.Mem.tail _ (List.Mem.head _))) _ (List.Mem.head _) (show (8 : Nat) ≠ 2 by decide) q (by rw [hf_67]; exact h1) (by rw [hf_51]; exact h2)
  have d_99 : ∀ q, q ∈ Rep.blkOf A_69 → q ∈ Rep.blkOf A_61 → False := fun q h1 h2 => hD_48 _ (List.Mem.tail _ (List.Mem.tail _ (List.Mem.head _))) _ (List.Mem.tail _ (List.Mem.head _)) (show (8 : Nat) ≠ 5 by decide) q (by rw [hf_67]; exact h1) (by rw [hf_59]; exact h2)
  have d_100 : ∀ q, q ∈ Rep.blkOf A_77 → q ∈ Rep.blkOf A_53 → False := fun q h1 h2 => hD_48 _ (List.Mem.tail _ (List.Mem.tail _ (List.Mem.tail _ (List.Mem.head _)))) _ (List.Mem.head _) (show (11 : Nat) ≠ 2 by decide) q (by rw [hf_75]; exact h1) (by rw [hf_51]; exact h2)
  have d_101 : ∀ q, q ∈ Rep.blkOf A_77 → q ∈ Rep.blkOf A_61 → False := fun q h1 h2 => hD_48 _ (List.Mem.tail _ (List.Mem.tail _ (List.Mem.tail _ (List.Mem.head _)))) _ (List.Mem.tail _ (List.Mem.head _)) (show (11 : Nat) ≠ 5 by decide) q (by rw [hf_75]; exact h1) (by rw [hf_59]; exact h2)
  have d_102 : ∀ q, q ∈ Rep.blkOf A_77 → q ∈ Rep.blkOf A_69 → False := fun q h1 h2 => hD_48 _ (List.Mem.tail _ (List.Mem.tail _ (List.Mem.tail _ (List.Mem.head _)))) _ (List.Mem.tail _ (List.Mem.tail _ (List.Mem.head _))) (show (11 : Nat) ≠ 8 by decide) q (by rw [hf_75]; exact h1) (by rw [hf_67]; exact h2)
  have d_103 : ∀ q, q ∈ Rep.blkOf A_85 → q ∈ Rep.blkOf A_53 → False := fun q h1 h2 => hD_48 _ (List.Mem.tail _ (List.Mem.tail _ (List.Mem.tail _ (List.Mem.tail _ (List.Mem.head _))))) _ (List.Mem.head _) (show (14 : Nat) ≠ 2 by decide) q (by rw [hf_83]; exact h1) (by rw [hf_51]; exact h2)
  have d_104 : ∀ q, q ∈ Rep.blkOf A_85 → q ∈ Rep.blkOf A_61 → False := fun q h1 h2 => hD_48 _ (List.Mem.tail _ (List.Mem.tail _ (List.Mem.tail _ (List.Mem.tail _ (List.Mem.head _))))) _ (List.Mem.tail _ (List.Mem.head _)) (show (14 : Nat) ≠ 5 by decide) q (by rw [hf_83]; exact h1) (by rw [hf_59]; exact h2)
  have d_105 : ∀ q, q ∈ Rep.blkOf A_85 → q ∈ Rep.blkOf A_69 → False := fun q h1 h2 => hD_48 _ (List.Mem.tail _ (List.Mem.tail _ (List.Mem.tail _ (List.Mem.tail _ (List.Mem.head _))))) _ (List.Mem.tail _ (List.Mem.tail _ (List.Mem.head _))) (show (14 : Nat) ≠ 8 by decide) q (by rw [hf_83]; exact h1) (by rw [hf_67]; exact h2)
  have d_106 : ∀ q, q ∈ Rep.blkOf A_85 → q ∈ Rep.blkOf A_77 → False := fun q h1 h2 => hD_48 _ (List.Mem.tail _ (List.Mem.tail _ (List.Mem.tail _ (List.Mem.tail _ (List.Mem.head _))))) _ (List.Mem.tail _ (List.Mem.tail _ (List.Mem.tail _ (List.Mem.head _)))) (show (14 : Nat) ≠ 11 by decide) q (by rw [hf_83]; exact h1) (by rw [hf_75]; exact h2)
  have d_107 : ∀ q, q = b_93 → q ∈ Rep.blkOf A_53 → False := fun q h1 h2 => hD_48 _ (List.Mem.tail _ (List.Mem.tail _ (List.Mem.tail _ (List.Mem.tail _ (List.Mem.tail _ (List.Mem.head _)))))) _ (List.Mem.head _) (show (16 : Nat) ≠ 2 by decide) q (by rw [hf_91, h1]; exact List.Mem.head _) (by rw [hf_51]; exact h2)
  have d_108 : ∀ q, q = b_93 → q ∈ Rep.blkOf A_61 → False := fun q h1 h2 => hD_48 _ (List.Mem.tail _ (List.Mem.tail _ (List.Mem.tail _ (List.Mem.tail _ (List.Mem.tail _ (List.Mem.head _)))))) _ (List.Mem.tail _ (List.Mem.head _)) (show (16 : Nat) ≠ 5 by decide) q (by rw [hf_91, h1]; exact List.Mem.head _) (by rw [hf_59]; exact h2)
  have d_109 : ∀ q, q = b_93 → q ∈ Rep.blkOf A_69 → False := fun q h1 h2 => hD_48 _ (List.Mem.tail _ (List.Mem.tail _ (List.Mem.tail _ (List.Mem.tail _ (List.Mem.tail _ (List.Mem.head _)))))) _ (List.Mem.tail _ (List.Mem.tail _ (List.Mem.head _))) (show (16 : Nat) ≠ 8 by decide) q (by rw [hf_91, h1]; exact List.Mem.head _) (by rw [hf_67]; exact h2)
  have d_110 : ∀ q, q = b_93 → q ∈ Rep.blkOf A_77 → False := fun q h1 h2 => hD_48 _ (List.Mem.tail _ (List.Mem.tail _ (List.Mem.tail _ (List.Mem.tail _ (List.Mem.tail _ (List.Mem.head _)))))) _ (List.Mem.tail _ (List.Mem.tail _ (List.Mem.tail _ (List.Mem.head _)))) (show (16 : Nat) ≠ 11 by decide) q (by rw [hf_91, h1]; exact List.Mem.head _) (by rw [hf_75]; exact h2)
  have d_111 : ∀ q, q = b_93 → q ∈ Rep.blkOf A_85 → False := fun q h1 h2 => hD_48 _ (List.Mem.tail _ (List.Mem.tail _ (List.Mem.tail _ (List.Mem.tail _ (List.Mem.tail _ (List.Mem.head _)))))) _ (List.Mem.tail _ (List.Mem.tail _ (List.Mem.tail _ (List.Mem.tail _ (List.Mem.head _))))) (show (16 : Nat) ≠ 14 by decide) q (by rw [hf_91, h1]; exact List.Mem.head _) (by rw [hf_83]; exact h2)
  show FL _ _ _ _ _ _ ((31, .agg #[.int .i64 0, vs_45 2, .int .i64 0, .int .i64 0, vs_45 8, vs_45 11, vs_45 5, vs_45 14]) :: (18, vs_45 2) :: (21, vs_45 5) :: (24, vs_45 8) :: (27, vs_45 11) :: (30, vs_45 14) :: (5, vs_45 16) :: _) _
  rw [hv_50, hv_58, hv_66, hv_74, hv_82, hv_90]
  refine fb rfl rfl rfl fun w_112 x_113 Q hK => st (new := [.int .i64 0, .slice A_53 ((L.sent).length) c_54, .int .i64 0, .int .i64 0, .slice A_69 ((L.way).length) c_70, .slice A_77 ((L.acks).length) c_78, .slice A_61 ((L.got).length) c_62, .slice A_85 ((L.held).length) c_86]) rfl rfl (B_94.later x_113) rfl LnQ_sz_api_Link rfl rfl rfl fun w_114 m_115 B_94 => hK _ _ ?_
  have q_117 := x_113.size
  have z_112 := Ext.tr z_43 x_113
  have q_118 := m_115.size
  have z_114 := Ext.mod z_112 m_115 (by simp only [List.mem_singleton, forall_eq]; omega)
  have q_116 := m_115.size
  refine fn fun w_119 x_120 => ?_
  have q_121 := x_120.size
  have z_119 := Ext.tr z_114 x_120
  refine nT <| sq <| rg <| vl (mf rfl rfl) rfl <| vl (as_ rfl) rfl <| nl <| nT <| sq <| rg <| ?_
  have B_5 := B_5.later (Ext.tr x_16 (Ext.tr x_44 x_113))
  have B_5 := B_5.mod m_115 (by simp only [List.mem_singleton]; omega)
  have B_5 := B_5.later x_120
  refine vl (ld rfl (B_5.all LnQ_ag_api_Link LnQ_sz_api_Link)) rfl <| ?_
  have B_12 := B_12.later (Ext.tr x_16 (Ext.tr x_44 x_113))
  have B_12 := B_12.mod m_115 (by simp only [List.mem_singleton]; omega)
  have B_12 := B_12.later x_120
  refine vl (ld rfl (B_12.all LnQ_ag_api_Event LnQ_sz_api_Event)) rfl <| ?_
  obtain ⟨M, ee, hM⟩ : ∃ M e, L.doR x = (M, e) := ⟨_, _, rfl⟩
  have hDA := lDo_any a L x _ (hL.keep z_119) hxo
  rw [hM] at hDA
  dsimp only at hDA
  refine ca LnQ_en_link_Do rfl rfl ((hDA).mono ?_)
  rintro e w_122 ⟨aA, rfl, HTA, x_123⟩
  refine ⟨_, rfl, ?_⟩
  have q_124 := x_123.size
  have z_122 := Ext.tr z_119 x_123
  have RS := RawX.ofS HTA.S
  have uS := fun q hq => (RS.lt q hq).2
  have loS := fun q hq => (RS.lt q hq).1
  have hcS := HTA.S.has.2.1
  have RW := RawX.ofI HTA.W
  have uW := fun q hq => (RW.lt q hq).2
  have loW := fun q hq => (RW.lt q hq).1
  have hcW := HTA.W.has.2.1
  have RK := RawX.ofI HTA.K
  have uK := fun q hq => (RK.lt q hq).2
  have loK := fun q hq => (RK.lt q hq).1
  have hcK := HTA.K.has.2.1
  have RG := RawX.ofS HTA.G
  have uG := fun q hq => (RG.lt q hq).2
  have loG := fun q hq => (RG.lt q hq).1
  have hcG := HTA.G.has.2.1
  have RH := RawX.ofT HTA.H
  have uH := fun q hq => (RH.lt q hq).2
  have loH := fun q hq => (RH.lt q hq).1
  have hcH := HTA.H.has.2.1
  refine vl (mv rfl) rfl <| vl (ex rfl rfl) rfl <| vl (ex rfl rfl) rfl <| al rfl LnQ_zv_api_Link rfl rfl fun w_125 b_126 x_127 l_128 B_129 => ?_
  have q_130 := x_127.size
  have z_125 := Ext.tr z_122 x_127
  have q_131 := B_129.lt
  refine st (new := [.int .i64 M.window, .slice aA.S M.sent.length aA.s, .int .i64 M.base, .int .i64 M.next, .slice aA.W M.way.length aA.w, .slice aA.K M.acks.length aA.k, .slice aA.G M.got.length aA.g, .slice aA.H M.held.length aA.h]) rfl rfl B_129 rfl LnQ_sz_api_Link rfl rfl rfl fun w_132 m_133 B_129 => ?_
  have q_135 := m_133.size
  have z_132 := Ext.mod z_125 m_133 (by simp only [List.mem_singleton, forall_eq]; omega)
  have q_134 := m_133.size
  refine vl (as_ rfl) rfl <| nl <| nT <| sq <| rg <| vl (mv rfl) rfl <| ?_
  have B_5 := B_5.later (Ext.tr x_123 x_127)
  have B_5 := B_5.mod m_133 (by simp only [List.mem_singleton]; omega)
  have B_94 := B_94.later (Ext.tr x_120 (Ext.tr x_123 x_127))
  have B_94 := B_94.mod m_133 (by simp only [List.mem_singleton]; omega)
  have O_55 := O_55.later x_113
  have O_55 := O_55.mod m_115 (fun q hq h => by have hb := List.mem_singleton.1 h; exfalso; (exact (fun q h1 h2 => d_107 q h2 h1) q hq hb))
  have O_55 := O_55.later (Ext.tr x_120 (Ext.tr x_123 x_127))
  have O_55 := O_55.mod m_133 (fun q hq h => by have hb := List.mem_singleton.1 h; exfalso; (have := u_56 q hq; omega))
  have O_71 := O_71.later x_113
  have O_71 := O_71.mod m_115 (fun q hq h => by have hb := List.mem_singleton.1 h; exfalso; (exact (fun q h1 h2 => d_109 q h2 h1) q hq hb))
  have O_71 := O_71.later (Ext.tr x_120 (Ext.tr x_123 x_127))
  have O_71 := O_71.mod m_133 (fun q hq h => by have hb := List.mem_singleton.1 h; exfalso; (have := u_72 q hq; omega))
  have O_79 := O_79.later x_113
  have O_79 := O_79.mod m_115 (fun q hq h => by have hb := List.mem_singleton.1 h; exfalso; (exact (fun q h1 h2 => d_110 q h2 h1) q hq hb))
  have O_79 := O_79.later (Ext.tr x_120 (Ext.tr x_123 x_127))
  have O_79 := O_79.mod m_133 (fun q hq h => by have hb := List.mem_singleton.1 h; exfalso; (have := u_80 q hq; omega))
  have O_63 := O_63.later x_113
  have O_63 := O_63.mod m_115 (fun q hq h => by have hb := List.mem_singleton.1 h; exfalso; (exact (fun q h1 h2 => d_108 q h2 h1) q hq hb))
  have O_63 := O_63.later (Ext.tr x_120 (Ext.tr x_123 x_127))
  have O_63 := O_63.mod m_133 (fun q hq h => by have hb := List.mem_singleton.1 h; exfalso; (have := u_64 q hq; omega))
  have O_87 := O_87.later x_113
  have O_87 := O_87.mod m_115 (fun q hq h => by have hb := List.mem_singleton.1 h; exfalso; (exact (fun q h1 h2 => d_111 q h2 h1) q hq hb))
  have O_87 := O_87.later (Ext.tr x_120 (Ext.tr x_123 x_127))
  have O_87 := O_87.mod m_133 (fun q hq h => by have hb := List.mem_singleton.1 h; exfalso; (have := u_88 q hq; omega))
  refine cv LnQ_en_mustkeep_LinkOwn_1 rfl rfl rfl ((linkSame a ⟨A_53, A_69, A_77, A_61, A_85, c_54, c_70, c_78, c_62, c_86⟩ L b_2 b_93 _ (hL.keep z_132) ⟨O_55.has, O_71.has, O_79.has, O_63.has, O_87.has, hL.nums0⟩ B_5 B_94).mono ?_)
  rintro e w_136 ⟨rfl, x_137⟩
  refine ⟨_, rfl, ?_⟩
  have q_138 := x_137.size
  have z_136 := Ext.tr z_132 x_137
  refine vl (as_ rfl) rfl <| nl <| nT <| sq <| sq <| ?_
  refine rd [(1, 0), (3, 0), (7, 0), (9, 0)] [0, 1, 2, 3, 4, 5, 6, 7, 8, 9, 10, 11, 12, 13] (by kernel_rfl) (by kernel_rfl) ?_
  refine fw rfl rfl (fun _ => fa LnQ_fd_api_Link_1 rfl) rfl <| ?_
  have B_129 := B_129.later x_137
  refine fq rfl rfl (fun _ x => ld rfl ((B_129.later x).one LnQ_ag_S_string rfl)) rfl <| fw rfl rfl (fun _ => fa LnQ_fd_api_Link_1 rfl) rfl <| fq rfl rfl (fun _ x => ld rfl ((B_129.later x).one LnQ_ag_S_string rfl)) rfl <| fw rfl rfl (fun _ => cp Try.underlying53 rfl) rfl <| fw rfl rfl (fun _ => sx Try.underlying53 LnQ_sz_string rfl rfl) rfl <| fw rfl rfl (fun _ => fa LnQ_fd_api_Link_6 rfl) rfl <| fq rfl rfl (fun _ x => ld rfl ((B_129.later x).one LnQ_ag_S_string rfl)) rfl <| fw rfl rfl (fun _ => fa LnQ_fd_api_Link_6 rfl) rfl <| fq rfl rfl (fun _ x => ld rfl ((B_129.later x).one LnQ_ag_S_string rfl)) rfl <| fw rfl rfl (fun _ => cp Try.underlying53 rfl) rfl <| fw rfl rfl (fun _ => sx Try.underlying53 LnQ_sz_string rfl rfl) rfl <| fw (v := .agg #[.slice aA.S aA.s aA.s, .slice aA.G aA.g aA.g]) rfl rfl (fun _ => bd rfl (by kernel_rfl)) rfl <| fw rfl rfl (fun _ => mv rfl) rfl <| fn fun w_139 x_140 => ?_
  have q_141 := x_140.size
  have z_139 := Ext.tr z_136 x_140
  refine nT <| bk <| lu 3 <| lr <| sq <| rg <| vl (blt rfl rfl) rfl <| nl <| nT <| sq <| cT rfl <| sk <| nT <| sq <| bk <| sq <| rg <| vl (v := .slice aA.S aA.s aA.s) (ixk rfl rfl (by kernel_rfl)) rfl <| vl (as_ rfl) rfl <| nl <| nT <| sq <| rg <| vl (mv rfl) rfl <| ?_
  refine vl (ln Try.underlying53 rfl) rfl <| vl (mv rfl) rfl <| nl <| nT <| bk <| ?_
  have RS := RS.later x_127
  have RS := RS.mod m_133 (fun q hq h => by have hb := List.mem_singleton.1 h; exfalso; (have := uS q hq; omega))
  have RS := RS.later (Ext.tr x_137 x_140)
  have B_5 := B_5.later (Ext.tr x_137 x_140)
  have O_55 := O_55.later (Ext.tr x_137 x_140)
  have O_63 := O_63.later (Ext.tr x_137 x_140)
  have O_71 := O_71.later (Ext.tr x_137 x_140)
  have O_79 := O_79.later (Ext.tr x_137 x_140)
  have O_87 := O_87.later (Ext.tr x_137 x_140)
  have B_94 := B_94.later (Ext.tr x_137 x_140)
  have RW := RW.later x_127
  have RW := RW.mod m_133 (fun q hq h => by have hb := List.mem_singleton.1 h; exfalso; (have := uW q hq; omega))
  have RW := RW.later (Ext.tr x_137 x_140)
  have RK := RK.later x_127
  have RK := RK.mod m_133 (fun q hq h => by have hb := List.mem_singleton.1 h; exfalso; (have := uK q hq; omega))
  have RK := RK.later (Ext.tr x_137 x_140)
  have RG := RG.later x_127
  have RG := RG.mod m_133 (fun q hq h => by have hb := List.mem_singleton.1 h; exfalso; (have := uG q hq; omega))
  have RG := RG.later (Ext.tr x_137 x_140)
  have RH := RH.later x_127
  have RH := RH.mod m_133 (fun q hq h => by have hb := List.mem_singleton.1 h; exfalso; (have := uH q hq; omega))
  have RH := RH.later (Ext.tr x_137 x_140)
  have B_129 := B_129.later x_140
  refine lp (fun mI EI wI => ∃ k : Nat, EI = [(4, .bool false), (6, .func (.func 35) #[] #[.pointer (some ⟨b_2, 0, none⟩), .pointer (some ⟨b_93, 0, none⟩)]), (7, .pointer (some ⟨b_126, 0, none⟩)), (9, .bool true), (11, .slice aA.S aA.s aA.s), (53, .agg #[.slice aA.S aA.s aA.s, .slice aA.G aA.g aA.g]), (54, .int .i64 0), (55, .bool true), (56, .slice aA.S aA.s aA.s), (57, .slice aA.S aA.s aA.s), (58, .int .i64 (aA.s : Int)), (59, .int .i64 (k : Int))] ∧ mI = aA.s - k ∧ Ext w wI ∧ Blk wI b_2 [.int .i64 L.window, .slice a.S L.sent.length a.s, .int .i64 L.base, .int .i64 L.next, .slice a.W L.way.length a.w, .slice a.K L.acks.length a.k, .slice a.G L.got.length a.g, .slice a.H L.held.length a.h] 55 (0, 0) ∧ repS.SOwn 9 16 wI w_15.heap.size (Rep.blkOf A_53) A_53 c_54 (L.sent) ∧ repS.SOwn 9 16 wI w_15.heap.size (Rep.blkOf A_61) A_61 c_62 (L.got) ∧ repI.SOwn 3 8 wI w_15.heap.size (Rep.blkOf A_69) A_69 c_70 (L.way) ∧ repI.SOwn 3 8 wI w_15.heap.size (Rep.blkOf A_77) A_77 c_78 (L.acks) ∧ repI.SOwn 3 8 wI w_15.heap.size (Rep.blkOf A_85) A_85 c_86 (L.held) ∧ Blk wI b_93 [.int .i64 0, .slice A_53 ((L.sent).length) c_54, .int .i64 0, .int .i64 0, .slice A_69 ((L.way).length) c_70, .slice A_77 ((L.acks).length) c_78, .slice A_61 ((L.got).length) c_62, .slice A_85 ((L.held).length) c_86] 55 (0, 0) ∧ RawX w_119.heap.size 1 GI wI aA.W aA.w ∧ RawX w_119.heap.size 1 GI wI aA.K aA.k ∧ RawX w_119.heap.size 1 (GS 0) wI aA.G aA.g ∧ RawX w_119.heap.size 1 GI wI aA.H aA.h ∧ Blk wI b_126 [.int .i64 M.window, .slice aA.S M.sent.length aA.s, .int .i64 M.base, .int .i64 M.next, .slice aA.W M.way.length aA.w, .slice aA.K M.acks.length aA.k, .slice aA.G M.got.length aA.g, .slice aA.H M.held.length aA.h] 55 (0, 0) ∧ RawX w_119.heap.size 1 (GS k) wI aA.S aA.s ∧ (k ≤ aA.s) ∧ (∀ q ∈ Rep.blkOf aA.S, q = b_2 → False) ∧ (∀ q ∈ Rep.blkOf aA.S, q = b_93 → False) ∧ (∀ q ∈ Rep.blkOf aA.S, q = b_126 → False) ∧ (∀ q ∈ Rep.blkOf aA.S, q ∈ Rep.blkOf A_53 → False) ∧ (∀ q ∈ Rep.blkOf aA.S, q ∈ Rep.blkOf A_61 → False) ∧ (∀ q ∈ Rep.blkOf aA.S, q ∈ Rep.blkOf A_69 → False) ∧ (∀ q ∈ Rep.blkOf aA.S, q ∈ Rep.blkOf A_77 → False) ∧ (∀ q ∈ Rep.blkOf aA.S, q ∈ Rep.blkOf A_85 → False) ∧ (∀ q ∈ Rep.blkOf aA.S, q ∈ Rep.blkOf aA.W → False) ∧ (∀ q ∈ Rep.blkOf aA.S, q ∈ Rep.blkOf aA.K → False) ∧ (∀ q ∈ Rep.blkOf aA.S, q ∈ Rep.blkOf aA.G → False) ∧ (∀ q ∈ Rep.blkOf aA.S, q ∈ Rep.blkOf aA.H → False)) _ _ ⟨0, rfl, rfl, z_139, B_5, O_55, O_63, O_71, O_79, O_87, B_94, RW, RK, RG, RH, B_129, RS, by omega, (fun q hq hb => by (have := loS q hq; omega)), (fun q hq hb => by (have := loS q hq; omega)), (fun q hq hb => by (have := uS q hq; omega)), (fun q hq hb => by (have := loS q hq; (have := u_56 q hb; omega))), (fun q hq hb => by (have := loS q hq; (have := u_64 q hb; omega))), (fun q hq hb => by (have := loS q hq; (have := u_72 q hb; omega))), (fun q hq hb => by (have := loS q hq; (have := u_80 q hb; omega))), (fun q hq hb => by (have := loS q hq; (have := u_88 q hb; omega))), (fun q hq hb => by (exact HTA.dWS q hb hq)), (fun q hq hb => by (exact HTA.dKS q hb hq)), (fun q hq hb => by (exact HTA.dGS q hb hq)), (fun q hq hb => by (exact HTA.dHS q hb hq))⟩ (.cons rfl (.cons rfl (.cons rfl (.cons rfl (.cons rfl (.cons rfl (.cons rfl (.cons rfl (.cons rfl (.cons rfl (.cons rfl (.cons (loI rfl (by first | omega | rfl | (simp <;> omega))) .nil)))))))))))) ?_
  rintro m_155 E_156 w_154 ⟨k, rfl, rfl, z_154, B_5, O_55, O_63, O_71, O_79, O_87, B_94, RW, RK, RG, RH, B_129, QS, hk, d_142, d_143, d_144, d_145, d_146, d_147, d_148, d_149, d_150, d_151, d_152, d_153⟩
  have q_157 := z_154.size
  have q_158 := B_5.lt
  have u_159 := fun q hq => (O_55.lt q hq).2
  have u_160 := fun q hq => (O_63.lt q hq).2
  have u_161 := fun q hq => (O_71.lt q hq).2
  have u_162 := fun q hq => (O_79.lt q hq).2
  have u_163 := fun q hq => (O_87.lt q hq).2
  have q_164 := B_94.lt
  have u_165 := fun q hq => (RW.lt q hq).2
  have u_166 := fun q hq => (RK.lt q hq).2
  have u_167 := fun q hq => (RG.lt q hq).2
  have u_168 := fun q hq => (RH.lt q hq).2
  have q_169 := B_129.lt
  have u_170 := fun q hq => (QS.lt q hq).2
  have hcap : (aA.s : Int) ≤ 9223372036854775807 := by omega
  refine sq <| rg <| vl (blt rfl rfl) rfl <| nl <| nT <| sq <| ?_
  refine clt rfl (fun h_171 => ?_) (fun h_171 => ?_)
  · refine sk <| nT <| sq <| bk <| sq <| rg <| vl (mv rfl) rfl <| vl (as_ rfl) rfl <| nl <| nT <| rg <| vl (mv rfl) rfl <| vl (mv rfl) rfl <| vl (iA k Try.underlying53 LnQ_sz_string rfl rfl (QS.adr (Nat.zero_lt_of_lt (show k < _ from (by omega)))) rfl (by omega)) rfl <| ?_
    obtain ⟨t_172, ht_173, hsz_t_172⟩ := RawX.getS (k := k) QS (by omega)
    refine vl (ld rfl (Lds.one LnQ_ag_string ht_173)) rfl <| vl (sjn (b := bytesS [33]) rfl rfl (by have : (bytesS [33]).size = 1 := rfl; omega)) rfl <| vl (iA k Try.underlying53 LnQ_sz_string rfl rfl (QS.adr (Nat.zero_lt_of_lt (show k < _ from (by omega)))) rfl (by omega)) rfl <| srx (i := k) QS (by decide) (by omega) rfl rfl rfl rfl LnQ_sz_string (fun k v _ h => GS.step h) GS.done fun w_174 m_175 QS => ?_
    have q_176 := m_175.size
    have z_174 := Ext.mod z_154 m_175 (fun q hq => by have := loS q hq; omega)
    have q_177 := m_175.size
    refine nl <| nB <| nT <| rg <| vl (bad rfl rfl (inI (by omega))) rfl <| vl (mv rfl) rfl <| nl <| ?_
    have B_5 := B_5.mod m_175 (fun hq => d_142 _ hq rfl)
    have O_55 := O_55.mod m_175 (fun q hq h => by exfalso; (exact d_145 q h hq))
    have O_63 := O_63.mod m_175 (fun q hq h => by exfalso; (exact d_146 q h hq))
    have O_71 := O_71.mod m_175 (fun q hq h => by exfalso; (exact d_147 q h hq))
    have O_79 := O_79.mod m_175 (fun q hq h => by exfalso; (exact d_148 q h hq))
    have O_87 := O_87.mod m_175 (fun q hq h => by exfalso; (exact d_149 q h hq))
    have B_94 := B_94.mod m_175 (fun hq => d_143 _ hq rfl)
    have RW := RW.mod m_175 (fun q hq h => by exfalso; (exact HTA.dWS q hq h))
    have RK := RK.mod m_175 (fun q hq h => by exfalso; (exact HTA.dKS q hq h))
    have RG := RG.mod m_175 (fun q hq h => by exfalso; (exact HTA.dGS q hq h))
    have RH := RH.mod m_175 (fun q hq h => by exfalso; (exact HTA.dHS q hq h))
    have B_129 := B_129.mod m_175 (fun hq => d_144 _ hq rfl)
    exact nI _ _ ⟨k + 1, rfl, rfl, z_174, B_5, O_55, O_63, O_71, O_79, O_87, B_94, RW, RK, RG, RH, B_129, QS, by omega, (fun q hq hb => by (exact d_142 q hq hb)), (fun q hq hb => by (exact d_143 q hq hb)), (fun q hq hb => by (exact d_144 q hq hb)), (fun q hq hb => by (exact d_145 q hq hb)), (fun q hq hb => by (exact d_146 q hq hb)), (fun q hq hb => by (exact d_147 q hq hb)), (fun q hq hb => by (exact d_148 q hq hb)), (fun q hq hb => by (exact d_149 q hq hb)), (fun q hq hb => by (exact HTA.dWS q hb hq)), (fun q hq hb => by (exact HTA.dKS q hb hq)), (fun q hq hb => by (exact HTA.dGS q hb hq)), (fun q hq hb => by (exact HTA.dHS q hb hq))⟩ (by omega) (.cons rfl (.cons rfl (.cons rfl (.cons rfl (.cons rfl (.cons rfl (.cons rfl (.cons rfl (.cons rfl (.cons rfl (.cons rfl (.cons (loI rfl (by first | omega | rfl | (simp <;> omega))) .nil))))))))))))
  · refine xt <| xT <| xK <| xB <| nB <| nT <| rg <| vl (badL (r := 1) rfl rfl (by decide) (by decide)) rfl <| vl (mv rfl) rfl <| nl <| nR <| lr <| sq <| rg <| vl (blt rfl rfl) rfl <| nl <| nT <| sq <| cT rfl <| sk <| nT <| sq <| bk <| sq <| ?_
    refine rg <| vl (v := .slice aA.G aA.g aA.g) (ixk rfl rfl (by kernel_rfl)) rfl <| vl (as_ rfl) rfl <| nl <| nT <| sq <| rg <| vl (mv rfl) rfl <| vl (ln Try.underlying53 rfl) rfl <| vl (mv rfl) rfl <| nl <| nT <| bk <| ?_
    refine lp (fun mI EI wI => ∃ k : Nat, EI = [(4, .bool false), (6, .func (.func 35) #[] #[.pointer (some ⟨b_2, 0, none⟩), .pointer (some ⟨b_93, 0, none⟩)]), (7, .pointer (some ⟨b_126, 0, none⟩)), (9, .bool true), (11, .slice aA.G aA.g aA.g), (53, .agg #[.slice aA.S aA.s aA.s, .slice aA.G aA.g aA.g]), (54, .int .i64 1), (55, .bool true), (56, .slice aA.G aA.g aA.g), (57, .slice aA.G aA.g aA.g), (58, .int .i64 (aA.g : Int)), (59, .int .i64 (k : Int)), (69, .int .i64 1)] ∧ mI = aA.g - k ∧ Ext w wI ∧ Blk wI b_2 [.int .i64 L.window, .slice a.S L.sent.length a.s, .int .i64 L.base, .int .i64 L.next, .slice a.W L.way.length a.w, .slice a.K L.acks.length a.k, .slice a.G L.got.length a.g, .slice a.H L.held.length a.h] 55 (0, 0) ∧ repS.SOwn 9 16 wI w_15.heap.size (Rep.blkOf A_53) A_53 c_54 (L.sent) ∧ repS.SOwn 9 16 wI w_15.heap.size (Rep.blkOf A_61) A_61 c_62 (L.got) ∧ repI.SOwn 3 8 wI w_15.heap.size (Rep.blkOf A_69) A_69 c_70 (L.way) ∧ repI.SOwn 3 8 wI w_15.heap.size (Rep.blkOf A_77) A_77 c_78 (L.acks) ∧ repI.SOwn 3 8 wI w_15.heap.size (Rep.blkOf A_85) A_85 c_86 (L.held) ∧ Blk wI b_93 [.int .i64 0, .slice A_53 ((L.sent).length) c_54, .int .i64 0, .int .i64 0, .slice A_69 ((L.way).length) c_70, .slice A_77 ((L.acks).length) c_78, .slice A_61 ((L.got).length) c_62, .slice A_85 ((L.held).length) c_86] 55 (0, 0) ∧ RawX w_119.heap.size 1 GI wI aA.W aA.w ∧ RawX w_119.heap.size 1 GI wI aA.K aA.k ∧ RawX w_119.heap.size 1 GI wI aA.H aA.h ∧ Blk wI b_126 [.int .i64 M.window, .slice aA.S M.sent.length aA.s, .int .i64 M.base, .int .i64 M.next, .slice aA.W M.way.length aA.w, .slice aA.K M.acks.length aA.k, .slice aA.G M.got.length aA.g, .slice aA.H M.held.length aA.h] 55 (0, 0) ∧ RawX w_119.heap.size 1 (GS k) wI aA.G aA.g ∧ (k ≤ aA.g) ∧ (∀ q ∈ Rep.blkOf aA.G, q = b_2 → False) ∧ (∀ q ∈ Rep.blkOf aA.G, q = b_93 → False) ∧ (∀ q ∈ Rep.blkOf aA.G, q = b_126 → False) ∧ (∀ q ∈ Rep.blkOf aA.G, q ∈ Rep.blkOf A_53 → False) ∧ (∀ q ∈ Rep.blkOf aA.G, q ∈ Rep.blkOf A_61 → False) ∧ (∀ q ∈ Rep.blkOf aA.G, q ∈ Rep.blkOf A_69 → False) ∧ (∀ q ∈ Rep.blkOf aA.G, q ∈ Rep.blkOf A_77 → False) ∧ (∀ q ∈ Rep.blkOf aA.G, q ∈ Rep.blkOf A_85 → False) ∧ (∀ q ∈ Rep.blkOf aA.G, q ∈ Rep.blkOf aA.W → False) ∧ (∀ q ∈ Rep.blkOf aA.G, q ∈ Rep.blkOf aA.K → False) ∧ (∀ q ∈ Rep.blkOf aA.G, q ∈ Rep.blkOf aA.H → False)) _ _ ⟨0, rfl, rfl, z_154, B_5, O_55, O_63, O_71, O_79, O_87, B_94, RW, RK, RH, B_129, RG, by omega, (fun q hq hb => by (have := loG q hq; omega)), (fun q hq hb => by (have := loG q hq; omega)), (fun q hq hb => by (have := u_167 q hq; have := uG q hq; omega)), (fun q hq hb => by (have := loG q hq; (have := u_159 q hb; have := u_56 q hb; omega))), (fun q hq hb => by (have := loG q hq; (have := u_160 q hb; have := u_64 q hb; omega))), (fun q hq hb => by (have := loG q hq; (have := u_161 q hb; have := u_72 q hb; omega))), (fun q hq hb => by (have := loG q hq; (have := u_162 q hb; have := u_80 q hb; omega))), (fun q hq hb => by (have := loG q hq; (have := u_163 q hb; have := u_88 q hb; omega))), (fun q hq hb => by (exact HTA.dGW q hq hb)), (fun q hq hb => by (exact HTA.dGK q hq hb)), (fun q hq hb => by (exact HTA.dHG q hb hq))⟩ (.cons rfl (.cons rfl (.cons rfl (.cons rfl (.cons rfl (.cons rfl (.cons rfl (.cons rfl (.cons rfl (.cons rfl (.cons rfl (.cons (loI rfl (by first | omega | rfl | (simp <;> omega))) (.cons rfl .nil))))))))))))) ?_
    rintro m_190 E_191 w_189 ⟨k, rfl, rfl, z_189, B_5, O_55, O_63, O_71, O_79, O_87, B_94, RW, RK, RH, B_129, QG, hk, d_178, d_179, d_180, d_181, d_182, d_183, d_184, d_185, d_186, d_187, d_188⟩
    have q_192 := z_189.size
    have q_193 := B_5.lt
    have u_194 := fun q hq => (O_55.lt q hq).2
    have u_195 := fun q hq => (O_63.lt q hq).2
    have u_196 := fun q hq => (O_71.lt q hq).2
    have u_197 := fun q hq => (O_79.lt q hq).2
    have u_198 := fun q hq => (O_87.lt q hq).2
    have q_199 := B_94.lt
    have u_200 := fun q hq => (RW.lt q hq).2
    have u_201 := fun q hq => (RK.lt q hq).2
    have u_202 := fun q hq => (RH.lt q hq).2
    have q_203 := B_129.lt
    have u_204 := fun q hq => (QG.lt q hq).2
    have hcap : (aA.g : Int) ≤ 9223372036854775807 := by omega
    refine sq <| rg <| vl (blt rfl rfl) rfl <| nl <| nT <| sq <| ?_
    refine clt rfl (fun h_205 => ?_) (fun h_205 => ?_)
    · refine sk <| nT <| sq <| bk <| sq <| rg <| vl (mv rfl) rfl <| vl (as_ rfl) rfl <| nl <| nT <| rg <| vl (mv rfl) rfl <| vl (mv rfl) rfl <| vl (iA k Try.underlying53 LnQ_sz_string rfl rfl (QG.adr (Nat.zero_lt_of_lt (show k < _ from (by omega)))) rfl (by omega)) rfl <| ?_
      obtain ⟨t_206, ht_207, hsz_t_206⟩ := RawX.getS (k := k) QG (by omega)
      refine vl (ld rfl (Lds.one LnQ_ag_string ht_207)) rfl <| vl (sjn (b := bytesS [33]) rfl rfl (by have : (bytesS [33]).size = 1 := rfl; omega)) rfl <| vl (iA k Try.underlying53 LnQ_sz_string rfl rfl (QG.adr (Nat.zero_lt_of_lt (show k < _ from (by omega)))) rfl (by omega)) rfl <| srx (i := k) QG (by decide) (by omega) rfl rfl rfl rfl LnQ_sz_string (fun k v _ h => GS.step h) GS.done fun w_208 m_209 QG => ?_
      have q_210 := m_209.size
      have z_208 := Ext.mod z_189 m_209 (fun q hq => by have := loG q hq; omega)
      have q_211 := m_209.size
      refine nl <| nB <| nT <| rg <| vl (bad rfl rfl (inI (by omega))) rfl <| vl (mv rfl) rfl <| nl <| ?_
      have B_5 := B_5.mod m_209 (fun hq => d_178 _ hq rfl)
      have O_55 := O_55.mod m_209 (fun q hq h => by exfalso; (exact d_181 q h hq))
      have O_63 := O_63.mod m_209 (fun q hq h => by exfalso; (exact d_182 q h hq))
      have O_71 := O_71.mod m_209 (fun q hq h => by exfalso; (exact d_183 q h hq))
      have O_79 := O_79.mod m_209 (fun q hq h => by exfalso; (exact d_184 q h hq))
      have O_87 := O_87.mod m_209 (fun q hq h => by exfalso; (exact d_185 q h hq))
      have B_94 := B_94.mod m_209 (fun hq => d_179 _ hq rfl)
      have RW := RW.mod m_209 (fun q hq h => by exfalso; (exact d_186 q h hq))
      have RK := RK.mod m_209 (fun q hq h => by exfalso; (exact d_187 q h hq))
      have RH := RH.mod m_209 (fun q hq h => by exfalso; (exact HTA.dHG q hq h))
      have B_129 := B_129.mod m_209 (fun hq => d_180 _ hq rfl)
      exact nI _ _ ⟨k + 1, rfl, rfl, z_208, B_5, O_55, O_63, O_71, O_79, O_87, B_94, RW, RK, RH, B_129, QG, by omega, (fun q hq hb => by (exact d_178 q hq hb)), (fun q hq hb => by (exact d_179 q hq hb)), (fun q hq hb => by (exact d_180 q hq hb)), (fun q hq hb => by (exact d_181 q hq hb)), (fun q hq hb => by (exact d_182 q hq hb)), (fun q hq hb => by (exact d_183 q hq hb)), (fun q hq hb => by (exact d_184 q hq hb)), (fun q hq hb => by (exact d_185 q hq hb)), (fun q hq hb => by (exact d_186 q hq hb)), (fun q hq hb => by (exact d_187 q hq hb)), (fun q hq hb => by (exact HTA.dHG q hb hq))⟩ (by omega) (.cons rfl (.cons rfl (.cons rfl (.cons rfl (.cons rfl (.cons rfl (.cons rfl (.cons rfl (.cons rfl (.cons rfl (.cons rfl (.cons (loI rfl (by first | omega | rfl | (simp <;> omega))) (.cons rfl .nil)))))))))))))
    · refine xt <| xT <| xK <| xB <| nB <| nT <| rg <| vl (badL (r := 2) rfl rfl (by decide) (by decide)) rfl <| vl (mv rfl) rfl <| nl <| nR <| lr <| sq <| rg <| vl (blt rfl rfl) rfl <| nl <| nT <| sq <| cF rfl <| xt <| xT <| xK <| xB <| nT <| ?_
      refine sq <| sq <| ?_
      refine rd [(1, 0), (3, 0), (7, 0), (9, 0), (13, 0), (15, 0)] [0, 1, 2, 3, 4, 5, 6, 7, 8, 9, 10, 11, 12, 13, 14, 15, 16, 17, 18, 19] (by kernel_rfl) (by kernel_rfl) ?_
      refine fw rfl rfl (fun _ => fa LnQ_fd_api_Link_4 rfl) rfl <| fq rfl rfl (fun _ x => ld rfl ((B_129.later x).one LnQ_ag_S_int rfl)) rfl <| fw rfl rfl (fun _ => fa LnQ_fd_api_Link_4 rfl) rfl <| fq rfl rfl (fun _ x => ld rfl ((B_129.later x).one LnQ_ag_S_int rfl)) rfl <| fw rfl rfl (fun _ => cp Try.underlying38 rfl) rfl <| fw rfl rfl (fun _ => sx Try.underlying38 LnQ_sz_int rfl rfl) rfl <| fw rfl rfl (fun _ => fa LnQ_fd_api_Link_5 rfl) rfl <| fq rfl rfl (fun _ x => ld rfl ((B_129.later x).one LnQ_ag_S_int rfl)) rfl <| fw rfl rfl (fun _ => fa LnQ_fd_api_Link_5 rfl) rfl <| fq rfl rfl (fun _ x => ld rfl ((B_129.later x).one LnQ_ag_S_int rfl)) rfl <| fw rfl rfl (fun _ => cp Try.underlying38 rfl) rfl <| fw rfl rfl (fun _ => sx Try.underlying38 LnQ_sz_int rfl rfl) rfl <| fw rfl rfl (fun _ => fa LnQ_fd_api_Link_7 rfl) rfl <| fq rfl rfl (fun _ x => ld rfl ((B_129.later x).one LnQ_ag_S_int rfl)) rfl <| fw rfl rfl (fun _ => fa LnQ_fd_api_Link_7 rfl) rfl <| fq rfl rfl (fun _ x => ld rfl ((B_129.later x).one LnQ_ag_S_int rfl)) rfl <| fw rfl rfl (fun _ => cp Try.underlying38 rfl) rfl <| fw rfl rfl (fun _ => sx Try.underlying38 LnQ_sz_int rfl rfl) rfl <| fw (v := .agg #[.slice aA.W aA.w aA.w, .slice aA.K aA.k aA.k, .slice aA.H aA.h aA.h]) rfl rfl (fun _ => bd rfl (by kernel_rfl)) rfl <| fw rfl rfl (fun _ => mv rfl) rfl <| fn fun w_212 x_213 => ?_
      have q_214 := x_213.size
      have z_212 := Ext.tr z_189 x_213
      refine nT <| bk <| lu 4 <| lr <| sq <| rg <| vl (blt rfl rfl) rfl <| nl <| nT <| sq <| cT rfl <| sk <| nT <| sq <| bk <| sq <| rg <| vl (v := .slice aA.W aA.w aA.w) (ixk rfl rfl (by kernel_rfl)) rfl <| vl (as_ rfl) rfl <| nl <| nT <| sq <| rg <| vl (mv rfl) rfl <| ?_
      refine vl (ln Try.underlying38 rfl) rfl <| vl (mv rfl) rfl <| nl <| nT <| bk <| ?_
      have B_5 := B_5.later x_213
      have O_55 := O_55.later x_213
      have O_63 := O_63.later x_213
      have O_71 := O_71.later x_213
      have O_79 := O_79.later x_213
      have O_87 := O_87.later x_213
      have B_94 := B_94.later x_213
      have RW := RW.later x_213
      have RK := RK.later x_213
      have RH := RH.later x_213
      refine lp (fun mI EI wI => ∃ k : Nat, EI = [(4, .bool false), (6, .func (.func 35) #[] #[.pointer (some ⟨b_2, 0, none⟩), .pointer (some ⟨b_93, 0, none⟩)]), (9, .bool true), (14, .slice aA.W aA.w aA.w), (88, .agg #[.slice aA.W aA.w aA.w, .slice aA.K aA.k aA.k, .slice aA.H aA.h aA.h]), (89, .int .i64 0), (90, .bool true), (91, .slice aA.W aA.w aA.w), (92, .slice aA.W aA.w aA.w), (93, .int .i64 (aA.w : Int)), (94, .int .i64 (k : Int))] ∧ mI = aA.w - k ∧ Ext w wI ∧ Blk wI b_2 [.int .i64 L.window, .slice a.S L.sent.length a.s, .int .i64 L.base, .int .i64 L.next, .slice a.W L.way.length a.w, .slice a.K L.acks.length a.k, .slice a.G L.got.length a.g, .slice a.H L.held.length a.h] 55 (0, 0) ∧ repS.SOwn 9 16 wI w_15.heap.size (Rep.blkOf A_53) A_53 c_54 (L.sent) ∧ repS.SOwn 9 16 wI w_15.heap.size (Rep.blkOf A_61) A_61 c_62 (L.got) ∧ repI.SOwn 3 8 wI w_15.heap.size (Rep.blkOf A_69) A_69 c_70 (L.way) ∧ repI.SOwn 3 8 wI w_15.heap.size (Rep.blkOf A_77) A_77 c_78 (L.acks) ∧ repI.SOwn 3 8 wI w_15.heap.size (Rep.blkOf A_85) A_85 c_86 (L.held) ∧ Blk wI b_93 [.int .i64 0, .slice A_53 ((L.sent).length) c_54, .int .i64 0, .int .i64 0, .slice A_69 ((L.way).length) c_70, .slice A_77 ((L.acks).length) c_78, .slice A_61 ((L.got).length) c_62, .slice A_85 ((L.held).length) c_86] 55 (0, 0) ∧ RawX w_119.heap.size 1 GI wI aA.W aA.w ∧ RawX w_119.heap.size 1 GI wI aA.K aA.k ∧ RawX w_119.heap.size 1 GI wI aA.H aA.h ∧ (k ≤ aA.w)) _ _ ⟨0, rfl, rfl, z_212, B_5, O_55, O_63, O_71, O_79, O_87, B_94, RW, RK, RH, by omega⟩ (.cons rfl (.cons rfl (.cons rfl (.cons rfl (.cons rfl (.cons rfl (.cons rfl (.cons rfl (.cons rfl (.cons rfl (.cons (loI rfl (by first | omega | rfl | (simp <;> omega))) .nil))))))))))) ?_
      rintro m_216 E_217 w_215 ⟨k, rfl, rfl, z_215, B_5, O_55, O_63, O_71, O_79, O_87, B_94, RW, RK, RH, hk⟩
      have q_218 := z_215.size
      have q_219 := B_5.lt
      have u_220 := fun q hq => (O_55.lt q hq).2
      have u_221 := fun q hq => (O_63.lt q hq).2
      have u_222 := fun q hq => (O_71.lt q hq).2
      have u_223 := fun q hq => (O_79.lt q hq).2
      have u_224 := fun q hq => (O_87.lt q hq).2
      have q_225 := B_94.lt
      have u_226 := fun q hq => (RW.lt q hq).2
      have u_227 := fun q hq => (RK.lt q hq).2
      have u_228 := fun q hq => (RH.lt q hq).2
      have hcap : (aA.w : Int) ≤ 9223372036854775807 := by omega
      refine sq <| rg <| vl (blt rfl rfl) rfl <| nl <| nT <| sq <| ?_
      refine clt rfl (fun h_229 => ?_) (fun h_229 => ?_)
      · refine sk <| nT <| sq <| bk <| sq <| rg <| vl (mv rfl) rfl <| vl (as_ rfl) rfl <| nl <| nT <| rg <| vl (mv rfl) rfl <| vl (mv rfl) rfl <| vl (iA k Try.underlying38 LnQ_sz_int rfl rfl (RW.adr (Nat.zero_lt_of_lt (show k < _ from (by omega)))) rfl (by omega)) rfl <| ?_
        obtain ⟨v_230, hv_231⟩ := RawX.getI (i := k) RW (by omega)
        refine vl (ld rfl (Lds.one LnQ_ag_int hv_231)) rfl <| vl (badW rfl rfl) rfl <| vl (iA k Try.underlying38 LnQ_sz_int rfl rfl (RW.adr (Nat.zero_lt_of_lt (show k < _ from (by omega)))) rfl (by omega)) rfl <| srx (i := k) RW (by decide) (by omega) rfl rfl rfl rfl LnQ_sz_int (fun k v _ h => h) ⟨_, rfl⟩ fun w_232 m_233 RW => ?_
        have q_234 := m_233.size
        have z_232 := Ext.mod z_215 m_233 (fun q hq => by have := loW q hq; omega)
        have q_235 := m_233.size
        refine nl <| nB <| nT <| rg <| vl (bad rfl rfl (inI (by omega))) rfl <| vl (mv rfl) rfl <| nl <| ?_
        have d_236 : ∀ q ∈ Rep.blkOf aA.W, q = b_2 → False := fun q hq hb => by (have := loW q hq; omega)
        have B_5 := B_5.mod m_233 (fun hq => d_236 _ hq rfl)
        have O_55 := O_55.mod m_233 (fun q hq h => by exfalso; (have := loW q h; (have := u_220 q hq; have := u_56 q hq; have := u_159 q hq; have := u_194 q hq; omega)))
        have O_63 := O_63.mod m_233 (fun q hq h => by exfalso; (have := loW q h; (have := u_221 q hq; have := u_64 q hq; have := u_160 q hq; have := u_195 q hq; omega)))
        have O_71 := O_71.mod m_233 (fun q hq h => by exfalso; (have := loW q h; (have := u_222 q hq; have := u_72 q hq; have := u_161 q hq; have := u_196 q hq; omega)))
        have O_79 := O_79.mod m_233 (fun q hq h => by exfalso; (have := loW q h; (have := u_223 q hq; have := u_80 q hq; have := u_162 q hq; have := u_197 q hq; omega)))
        have O_87 := O_87.mod m_233 (fun q hq h => by exfalso; (have := loW q h; (have := u_224 q hq; have := u_88 q hq; have := u_163 q hq; have := u_198 q hq; omega)))
        have d_237 : ∀ q ∈ Rep.blkOf aA.W, q = b_93 → False := fun q hq hb => by (have := loW q hq; omega)
        have B_94 := B_94.mod m_233 (fun hq => d_237 _ hq rfl)
        have RK := RK.mod m_233 (fun q hq h => by exfalso; (exact HTA.dKW q hq h))
        have RH := RH.mod m_233 (fun q hq h => by exfalso; (exact HTA.dHW q hq h))
        exact nI _ _ ⟨k + 1, rfl, rfl, z_232, B_5, O_55, O_63, O_71, O_79, O_87, B_94, RW, RK, RH, by omega⟩ (by omega) (.cons rfl (.cons rfl (.cons rfl (.cons rfl (.cons rfl (.cons rfl (.cons rfl (.cons rfl (.cons rfl (.cons rfl (.cons (loI rfl (by first | omega | rfl | (simp <;> omega))) .nil)))))))))))
      · refine xt <| xT <| xK <| xB <| nB <| nT <| rg <| vl (badL (r := 1) rfl rfl (by decide) (by decide)) rfl <| vl (mv rfl) rfl <| nl <| nR <| lr <| sq <| rg <| vl (blt rfl rfl) rfl <| nl <| nT <| sq <| cT rfl <| sk <| nT <| sq <| bk <| sq <| ?_
        refine rg <| vl (v := .slice aA.K aA.k aA.k) (ixk rfl rfl (by kernel_rfl)) rfl <| vl (as_ rfl) rfl <| nl <| nT <| sq <| rg <| vl (mv rfl) rfl <| vl (ln Try.underlying38 rfl) rfl <| vl (mv rfl) rfl <| nl <| nT <| bk <| ?_
        refine lp (fun mI EI wI => ∃ k : Nat, EI = [(4, .bool false), (6, .func (.func 35) #[] #[.pointer (some ⟨b_2, 0, none⟩), .pointer (some ⟨b_93, 0, none⟩)]), (9, .bool true), (14, .slice aA.K aA.k aA.k), (88, .agg #[.slice aA.W aA.w aA.w, .slice aA.K aA.k aA.k, .slice aA.H aA.h aA.h]), (89, .int .i64 1), (90, .bool true), (91, .slice aA.K aA.k aA.k), (92, .slice aA.K aA.k aA.k), (93, .int .i64 (aA.k : Int)), (94, .int .i64 (k : Int)), (104, .int .i64 1)] ∧ mI = aA.k - k ∧ Ext w wI ∧ Blk wI b_2 [.int .i64 L.window, .slice a.S L.sent.length a.s, .int .i64 L.base, .int .i64 L.next, .slice a.W L.way.length a.w, .slice a.K L.acks.length a.k, .slice a.G L.got.length a.g, .slice a.H L.held.length a.h] 55 (0, 0) ∧ repS.SOwn 9 16 wI w_15.heap.size (Rep.blkOf A_53) A_53 c_54 (L.sent) ∧ repS.SOwn 9 16 wI w_15.heap.size (Rep.blkOf A_61) A_61 c_62 (L.got) ∧ repI.SOwn 3 8 wI w_15.heap.size (Rep.blkOf A_69) A_69 c_70 (L.way) ∧ repI.SOwn 3 8 wI w_15.heap.size (Rep.blkOf A_77) A_77 c_78 (L.acks) ∧ repI.SOwn 3 8 wI w_15.heap.size (Rep.blkOf A_85) A_85 c_86 (L.held) ∧ Blk wI b_93 [.int .i64 0, .slice A_53 ((L.sent).length) c_54, .int .i64 0, .int .i64 0, .slice A_69 ((L.way).length) c_70, .slice A_77 ((L.acks).length) c_78, .slice A_61 ((L.got).length) c_62, .slice A_85 ((L.held).length) c_86] 55 (0, 0) ∧ RawX w_119.heap.size 1 GI wI aA.W aA.w ∧ RawX w_119.heap.size 1 GI wI aA.K aA.k ∧ RawX w_119.heap.size 1 GI wI aA.H aA.h ∧ (k ≤ aA.k)) _ _ ⟨0, rfl, rfl, z_215, B_5, O_55, O_63, O_71, O_79, O_87, B_94, RW, RK, RH, by omega⟩ (.cons rfl (.cons rfl (.cons rfl (.cons rfl (.cons rfl (.cons rfl (.cons rfl (.cons rfl (.cons rfl (.cons rfl (.cons (loI rfl (by first | omega | rfl | (simp <;> omega))) (.cons rfl .nil)))))))))))) ?_
        rintro m_239 E_240 w_238 ⟨k, rfl, rfl, z_238, B_5, O_55, O_63, O_71, O_79, O_87, B_94, RW, RK, RH, hk⟩
        have q_241 := z_238.size
        have q_242 := B_5.lt
        have u_243 := fun q hq => (O_55.lt q hq).2
        have u_244 := fun q hq => (O_63.lt q hq).2
        have u_245 := fun q hq => (O_71.lt q hq).2
        have u_246 := fun q hq => (O_79.lt q hq).2
        have u_247 := fun q hq => (O_87.lt q hq).2
        have q_248 := B_94.lt
        have u_249 := fun q hq => (RW.lt q hq).2
        have u_250 := fun q hq => (RK.lt q hq).2
        have u_251 := fun q hq => (RH.lt q hq).2
        have hcap : (aA.k : Int) ≤ 9223372036854775807 := by omega
        refine sq <| rg <| vl (blt rfl rfl) rfl <| nl <| nT <| sq <| ?_
        refine clt rfl (fun h_252 => ?_) (fun h_252 => ?_)
        · refine sk <| nT <| sq <| bk <| sq <| rg <| vl (mv rfl) rfl <| vl (as_ rfl) rfl <| nl <| nT <| rg <| vl (mv rfl) rfl <| vl (mv rfl) rfl <| vl (iA k Try.underlying38 LnQ_sz_int rfl rfl (RK.adr (Nat.zero_lt_of_lt (show k < _ from (by omega)))) rfl (by omega)) rfl <| ?_
          obtain ⟨v_253, hv_254⟩ := RawX.getI (i := k) RK (by omega)
          refine vl (ld rfl (Lds.one LnQ_ag_int hv_254)) rfl <| vl (badW rfl rfl) rfl <| vl (iA k Try.underlying38 LnQ_sz_int rfl rfl (RK.adr (Nat.zero_lt_of_lt (show k < _ from (by omega)))) rfl (by omega)) rfl <| srx (i := k) RK (by decide) (by omega) rfl rfl rfl rfl LnQ_sz_int (fun k v _ h => h) ⟨_, rfl⟩ fun w_255 m_256 RK => ?_
          have q_257 := m_256.size
          have z_255 := Ext.mod z_238 m_256 (fun q hq => by have := loK q hq; omega)
          have q_258 := m_256.size
          refine nl <| nB <| nT <| rg <| vl (bad rfl rfl (inI (by omega))) rfl <| vl (mv rfl) rfl <| nl <| ?_
          have d_259 : ∀ q ∈ Rep.blkOf aA.K, q = b_2 → False := fun q hq hb => by (have := loK q hq; omega)
          have B_5 := B_5.mod m_256 (fun hq => d_259 _ hq rfl)
          have O_55 := O_55.mod m_256 (fun q hq h => by exfalso; (have := loK q h; (have := u_243 q hq; have := u_56 q hq; have := u_159 q hq; have := u_220 q hq; omega)))
          have O_63 := O_63.mod m_256 (fun q hq h => by exfalso; (have := loK q h; (have := u_244 q hq; have := u_64 q hq; have := u_160 q hq; have := u_221 q hq; omega)))
          have O_71 := O_71.mod m_256 (fun q hq h => by exfalso; (have := loK q h; (have := u_245 q hq; have := u_72 q hq; have := u_161 q hq; have := u_222 q hq; omega)))
          have O_79 := O_79.mod m_256 (fun q hq h => by exfalso; (have := loK q h; (have := u_246 q hq; have := u_80 q hq; have := u_162 q hq; have := u_223 q hq; omega)))
          have O_87 := O_87.mod m_256 (fun q hq h => by exfalso; (have := loK q h; (have := u_247 q hq; have := u_88 q hq; have := u_163 q hq; have := u_224 q hq; omega)))
          have d_260 : ∀ q ∈ Rep.blkOf aA.K, q = b_93 → False := fun q hq hb => by (have := loK q hq; omega)
          have B_94 := B_94.mod m_256 (fun hq => d_260 _ hq rfl)
          have RW := RW.mod m_256 (fun q hq h => by exfalso; (exact HTA.dKW q h hq))
          have RH := RH.mod m_256 (fun q hq h => by exfalso; (exact HTA.dHK q hq h))
          exact nI _ _ ⟨k + 1, rfl, rfl, z_255, B_5, O_55, O_63, O_71, O_79, O_87, B_94, RW, RK, RH, by omega⟩ (by omega) (.cons rfl (.cons rfl (.cons rfl (.cons rfl (.cons rfl (.cons rfl (.cons rfl (.cons rfl (.cons rfl (.cons rfl (.cons (loI rfl (by first | omega | rfl | (simp <;> omega))) (.cons rfl .nil))))))))))))
        · refine xt <| xT <| xK <| xB <| nB <| nT <| rg <| vl (badL (r := 2) rfl rfl (by decide) (by decide)) rfl <| vl (mv rfl) rfl <| nl <| nR <| lr <| sq <| rg <| vl (blt rfl rfl) rfl <| nl <| nT <| sq <| cT rfl <| sk <| nT <| sq <| bk <| sq <| ?_
          refine rg <| vl (v := .slice aA.H aA.h aA.h) (ixk rfl rfl (by kernel_rfl)) rfl <| vl (as_ rfl) rfl <| nl <| nT <| sq <| rg <| vl (mv rfl) rfl <| vl (ln Try.underlying38 rfl) rfl <| vl (mv rfl) rfl <| nl <| nT <| bk <| ?_
          refine lp (fun mI EI wI => ∃ k : Nat, EI = [(4, .bool false), (6, .func (.func 35) #[] #[.pointer (some ⟨b_2, 0, none⟩), .pointer (some ⟨b_93, 0, none⟩)]), (9, .bool true), (14, .slice aA.H aA.h aA.h), (88, .agg #[.slice aA.W aA.w aA.w, .slice aA.K aA.k aA.k, .slice aA.H aA.h aA.h]), (89, .int .i64 2), (90, .bool true), (91, .slice aA.H aA.h aA.h), (92, .slice aA.H aA.h aA.h), (93, .int .i64 (aA.h : Int)), (94, .int .i64 (k : Int)), (104, .int .i64 2)] ∧ mI = aA.h - k ∧ Ext w wI ∧ Blk wI b_2 [.int .i64 L.window, .slice a.S L.sent.length a.s, .int .i64 L.base, .int .i64 L.next, .slice a.W L.way.length a.w, .slice a.K L.acks.length a.k, .slice a.G L.got.length a.g, .slice a.H L.held.length a.h] 55 (0, 0) ∧ repS.SOwn 9 16 wI w_15.heap.size (Rep.blkOf A_53) A_53 c_54 (L.sent) ∧ repS.SOwn 9 16 wI w_15.heap.size (Rep.blkOf A_61) A_61 c_62 (L.got) ∧ repI.SOwn 3 8 wI w_15.heap.size (Rep.blkOf A_69) A_69 c_70 (L.way) ∧ repI.SOwn 3 8 wI w_15.heap.size (Rep.blkOf A_77) A_77 c_78 (L.acks) ∧ repI.SOwn 3 8 wI w_15.heap.size (Rep.blkOf A_85) A_85 c_86 (L.held) ∧ Blk wI b_93 [.int .i64 0, .slice A_53 ((L.sent).length) c_54, .int .i64 0, .int .i64 0, .slice A_69 ((L.way).length) c_70, .slice A_77 ((L.acks).length) c_78, .slice A_61 ((L.got).length) c_62, .slice A_85 ((L.held).length) c_86] 55 (0, 0) ∧ RawX w_119.heap.size 1 GI wI aA.W aA.w ∧ RawX w_119.heap.size 1 GI wI aA.K aA.k ∧ RawX w_119.heap.size 1 GI wI aA.H aA.h ∧ (k ≤ aA.h)) _ _ ⟨0, rfl, rfl, z_238, B_5, O_55, O_63, O_71, O_79, O_87, B_94, RW, RK, RH, by omega⟩ (.cons rfl (.cons rfl (.cons rfl (.cons rfl (.cons rfl (.cons rfl (.cons rfl (.cons rfl (.cons rfl (.cons rfl (.cons (loI rfl (by first | omega | rfl | (simp <;> omega))) (.cons rfl .nil)))))))))))) ?_
          rintro m_262 E_263 w_261 ⟨k, rfl, rfl, z_261, B_5, O_55, O_63, O_71, O_79, O_87, B_94, RW, RK, RH, hk⟩
          have q_264 := z_261.size
          have q_265 := B_5.lt
          have u_266 := fun q hq => (O_55.lt q hq).2
          have u_267 := fun q hq => (O_63.lt q hq).2
          have u_268 := fun q hq => (O_71.lt q hq).2
          have u_269 := fun q hq => (O_79.lt q hq).2
          have u_270 := fun q hq => (O_87.lt q hq).2
          have q_271 := B_94.lt
          have u_272 := fun q hq => (RW.lt q hq).2
          have u_273 := fun q hq => (RK.lt q hq).2
          have u_274 := fun q hq => (RH.lt q hq).2
          have hcap : (aA.h : Int) ≤ 9223372036854775807 := by omega
          refine sq <| rg <| vl (blt rfl rfl) rfl <| nl <| nT <| sq <| ?_
          refine clt rfl (fun h_275 => ?_) (fun h_275 => ?_)
          · refine sk <| nT <| sq <| bk <| sq <| rg <| vl (mv rfl) rfl <| vl (as_ rfl) rfl <| nl <| nT <| rg <| vl (mv rfl) rfl <| vl (mv rfl) rfl <| vl (iA k Try.underlying38 LnQ_sz_int rfl rfl (RH.adr (Nat.zero_lt_of_lt (show k < _ from (by omega)))) rfl (by omega)) rfl <| ?_
            obtain ⟨v_276, hv_277⟩ := RawX.getI (i := k) RH (by omega)
            refine vl (ld rfl (Lds.one LnQ_ag_int hv_277)) rfl <| vl (badW rfl rfl) rfl <| vl (iA k Try.underlying38 LnQ_sz_int rfl rfl (RH.adr (Nat.zero_lt_of_lt (show k < _ from (by omega)))) rfl (by omega)) rfl <| srx (i := k) RH (by decide) (by omega) rfl rfl rfl rfl LnQ_sz_int (fun k v _ h => h) ⟨_, rfl⟩ fun w_278 m_279 RH => ?_
            have q_280 := m_279.size
            have z_278 := Ext.mod z_261 m_279 (fun q hq => by have := loH q hq; omega)
            have q_281 := m_279.size
            refine nl <| nB <| nT <| rg <| vl (bad rfl rfl (inI (by omega))) rfl <| vl (mv rfl) rfl <| nl <| ?_
            have d_282 : ∀ q ∈ Rep.blkOf aA.H, q = b_2 → False := fun q hq hb => by (have := loH q hq; omega)
            have B_5 := B_5.mod m_279 (fun hq => d_282 _ hq rfl)
            have O_55 := O_55.mod m_279 (fun q hq h => by exfalso; (have := loH q h; (have := u_266 q hq; have := u_56 q hq; have := u_159 q hq; have := u_243 q hq; omega)))
            have O_63 := O_63.mod m_279 (fun q hq h => by exfalso; (have := loH q h; (have := u_267 q hq; have := u_64 q hq; have := u_160 q hq; have := u_244 q hq; omega)))
            have O_71 := O_71.mod m_279 (fun q hq h => by exfalso; (have := loH q h; (have := u_268 q hq; have := u_72 q hq; have := u_161 q hq; have := u_245 q hq; omega)))
            have O_79 := O_79.mod m_279 (fun q hq h => by exfalso; (have := loH q h; (have := u_269 q hq; have := u_80 q hq; have := u_162 q hq; have := u_246 q hq; omega)))
            have O_87 := O_87.mod m_279 (fun q hq h => by exfalso; (have := loH q h; (have := u_270 q hq; have := u_88 q hq; have := u_163 q hq; have := u_247 q hq; omega)))
            have d_283 : ∀ q ∈ Rep.blkOf aA.H, q = b_93 → False := fun q hq hb => by (have := loH q hq; omega)
            have B_94 := B_94.mod m_279 (fun hq => d_283 _ hq rfl)
            have RW := RW.mod m_279 (fun q hq h => by exfalso; (exact HTA.dHW q h hq))
            have RK := RK.mod m_279 (fun q hq h => by exfalso; (exact HTA.dHK q h hq))
            exact nI _ _ ⟨k + 1, rfl, rfl, z_278, B_5, O_55, O_63, O_71, O_79, O_87, B_94, RW, RK, RH, by omega⟩ (by omega) (.cons rfl (.cons rfl (.cons rfl (.cons rfl (.cons rfl (.cons rfl (.cons rfl (.cons rfl (.cons rfl (.cons rfl (.cons (loI rfl (by first | omega | rfl | (simp <;> omega))) (.cons rfl .nil))))))))))))
          · refine xt <| xT <| xK <| xB <| nB <| nT <| rg <| vl (badL (r := 3) rfl rfl (by decide) (by decide)) rfl <| vl (mv rfl) rfl <| nl <| nR <| lr <| sq <| rg <| vl (blt rfl rfl) rfl <| nl <| nT <| sq <| cF rfl <| xt <| xT <| xK <| xB <| nT <| ?_
            refine sq <| rg <| ca LnQ_en_mustkeep_linkLives rfl rfl ((linkLives_any _).mono ?_)
            rintro e w_284 ⟨rfl, x_285⟩
            refine ⟨_, rfl, ?_⟩
            have q_286 := x_285.size
            have z_284 := Ext.tr z_261 x_285
            refine vl (mv rfl) rfl <| ug rfl rfl rfl <| vl (mv rfl) rfl <| vl (pkT rfl rfl) rfl <| vl (mv rfl) rfl <| ug rfl rfl rfl <| vl (mv rfl) rfl <| ug rfl rfl rfl <| ?_
            have B_5 := B_5.later x_285
            have B_94 := B_94.later x_285
            have O_55 := O_55.later x_285
            have O_71 := O_71.later x_285
            have O_79 := O_79.later x_285
            have O_63 := O_63.later x_285
            have O_87 := O_87.later x_285
            refine cv LnQ_en_mustkeep_LinkOwn_1 rfl rfl rfl ((linkSame a ⟨A_53, A_69, A_77, A_61, A_85, c_54, c_70, c_78, c_62, c_86⟩ L b_2 b_93 _ (hL.keep z_284) ⟨O_55.has, O_71.has, O_79.has, O_63.has, O_87.has, hL.nums0⟩ B_5 B_94).mono ?_)
            rintro e w_287 ⟨rfl, x_288⟩
            refine ⟨_, rfl, ?_⟩
            have q_289 := x_288.size
            have z_287 := Ext.tr z_284 x_288
            refine vl (pkT rfl rfl) rfl <| vl (as_ rfl) rfl <| nl <| nT <| rt <| tR (.tmp rfl .nil) <| ?_
            exact ⟨rfl, z_287⟩
theorem linkOwn_any (c0 : Array Value) (c1 : Array Value) (w : World) (h0 : (.cons (.int .i64) (.cons (.slice .str 16) (.cons (.int .i64) (.cons (.int .i64) (.cons (.slice (.int .i64) 8) (.cons (.slice (.int .i64) 8) (.cons (.slice .str 16) (.cons (.slice (.int .i64) 8) .nil))))))) : Sh).Ok w c0.toList) (h1 : (.cons (.int .i64) (.cons (.int .i64) (.cons .bool (.cons .str .nil))) : Sh).Ok w c1.toList) :
    Calls Try.prog 12 #[.agg c0, .agg c1] w fun e w' => e = .returned (.bool true) ∧ Below w.heap.size w w' := by
  obtain ⟨a, L, e, hL⟩ := Lnk.opens w _ (show Lnk.sh.Ok w c0.toList from h0)
  have hc : c0 = (Lnk.cells a L).toArray := by rw [← e]
  subst hc
  obtain ⟨x, e, hxo⟩ := Evt.opens w _ (show Evt.sh.Ok w c1.toList from h1)
  have hc : c1 = x.cells.toArray := by rw [← e]
  subst hc
  exact linkOwn_walk a L x w hL hxo
end Go.Proofs.Ytfabhinehfhndaa
