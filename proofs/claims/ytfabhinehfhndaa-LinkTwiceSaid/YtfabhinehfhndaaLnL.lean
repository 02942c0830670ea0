/-
  linkLives, SameLink. (Printed by bin/linklaw.py.)
-/
import Derived.Test.YtfabhinehfhndaaLnP
set_option linter.unusedVariables false
set_option linter.unusedSimpArgs false
namespace Go.Proofs.Ytfabhinehfhndaa
open Go.RowKit

theorem LnL_en_link_Play : Enters Try.prog 26 := en Try.func26 (by kernel_rfl) (by kernel_rfl)
theorem LnL_zv_api_Link : Zv Try.prog 55 (.agg #[.int .i64 0, .slice none 0 0, .int .i64 0, .int .i64 0, .slice none 0 0, .slice none 0 0, .slice none 0 0, .slice none 0 0]) := fun _ => by kernel_rfl
theorem LnL_sz_api_Link : Sz Try.prog 55 8 := fun _ => by kernel_rfl
theorem LnL_fd_api_Link_6 : Fd Try.prog 55 6 6 := fun _ _ _ => by kernel_rfl
theorem LnL_ag_S_string : Ag Try.prog 53 false := fun _ => by kernel_rfl
theorem LnL_en_slices_Equal_S_string_string_ : Enters Try.prog 28 := en Try.func28 (by kernel_rfl) (by kernel_rfl)
theorem LnL_fd_api_Link_2 : Fd Try.prog 55 2 2 := fun _ _ _ => by kernel_rfl
theorem LnL_ag_int : Ag Try.prog 3 false := fun _ => by kernel_rfl
theorem LnL_fd_api_Link_4 : Fd Try.prog 55 4 4 := fun _ _ _ => by kernel_rfl
theorem LnL_ag_S_int : Ag Try.prog 38 false := fun _ => by kernel_rfl
theorem LnL_fd_api_Link_5 : Fd Try.prog 55 5 5 := fun _ _ _ => by kernel_rfl
theorem LnL_fd_api_Link_0 : Fd Try.prog 55 0 0 := fun _ _ _ => by kernel_rfl
theorem LnL_fd_api_Link_1 : Fd Try.prog 55 1 1 := fun _ _ _ => by kernel_rfl
theorem LnL_fd_api_Link_3 : Fd Try.prog 55 3 3 := fun _ _ _ => by kernel_rfl
theorem LnL_en_slices_Equal_S_int_int_ : Enters Try.prog 36 := en Try.func36 (by kernel_rfl) (by kernel_rfl)
theorem LnL_fd_api_Link_7 : Fd Try.prog 55 7 7 := fun _ _ _ => by kernel_rfl
def liveE : List Evt := [⟨1, 0, false, bytesS [97]⟩, ⟨2, 0, false, .empty⟩, ⟨3, 0, false, .empty⟩, ⟨4, 0, false, .empty⟩]
theorem live_all {w : World} : All2 (fun es a => Evt.rep.has w es a) (liveE.map Evt.cells) liveE := ⟨⟨rfl, by decide, by decide, by decide⟩, ⟨rfl, by decide, by decide, by decide⟩, ⟨rfl, by decide, by decide, by decide⟩, ⟨rfl, by decide, by decide, by decide⟩, trivial⟩
theorem liveR : playR 2 liveE = (⟨2, [bytesS [97]], 1, 1, [], [], [bytesS [97]], []⟩, [0, 0, 0, 0], 0) := by rfl
theorem same_link (L M : Lnk) : decide (L = M) = ((((((((L.window == M.window) && decide (L.sent = M.sent)) && (L.base == M.base)) && (L.next == M.next)) && decide (L.way = M.way)) && decide (L.acks = M.acks)) && decide (L.got = M.got)) && decide (L.held = M.held)) := by
  obtain ⟨a1, a2, a3, a4, a5, a6, a7, a8⟩ := L
  obtain ⟨b1, b2, b3, b4, b5, b6, b7, b8⟩ := M
  rw [Bool.eq_iff_iff]
  simp only [decide_eq_true_eq, Bool.and_eq_true, beq_iff_eq, Lnk.mk.injEq]
  constructor
  · rintro ⟨h1, h2, h3, h4, h5, h6, h7, h8⟩; exact ⟨⟨⟨⟨⟨⟨⟨h1, h2⟩, h3⟩, h4⟩, h5⟩, h6⟩, h7⟩, h8⟩
  · rintro ⟨⟨⟨⟨⟨⟨⟨h1, h2⟩, h3⟩, h4⟩, h5⟩, h6⟩, h7⟩, h8⟩; exact ⟨h1, h2, h3, h4, h5, h6, h7, h8⟩
set_option maxRecDepth 100000 in
set_option maxHeartbeats 400000 in
theorem linkLives_any  (w : World) :
    Calls Try.prog 27 #[] w (fun e w' => e = .returned (.bool true) ∧ Ext w w') := by
  refine calls_W (n := 44) Try.func27 rfl rfl rfl ?_
  refine sq <| rg <| vl (as_ rfl) rfl <| nl <| nT <| sq <| rg <| vl (v := .agg #[.int .i64 1, .int .i64 0, .bool false, .string (bytesS [97])]) (bd rfl (by kernel_rfl)) rfl <| vl (v := .agg #[.int .i64 2, .int .i64 0, .bool false, .string .empty]) (bd rfl (by kernel_rfl)) rfl <| vl (v := .agg #[.int .i64 3, .int .i64 0, .bool false, .string .empty]) (bd rfl (by kernel_rfl)) rfl <| vl (v := .agg #[.int .i64 4, .int .i64 0, .bool false, .string .empty]) (bd rfl (by kernel_rfl)) rfl <| bs (e := 60) (cs := [.int .i64 1, .int .i64 0, .bool false, .string (bytesS [97]), .int .i64 2, .int .i64 0, .bool false, .string .empty, .int .i64 3, .int .i64 0, .bool false, .string .empty, .int .i64 4, .int .i64 0, .bool false, .string .empty]) rfl (fun _ => by kernel_rfl) rfl fun w_1 b_2 x_3 l_4 B_5 => ?_
  have q_6 := x_3.size
  have z_1 := Ext.tr (Ext.rf w) x_3
  have q_7 := B_5.lt
  have hpl_8 := lplay_any 2 _ 4 liveE _ (Blk.hasN (R := Evt.rep) (by_ := 40) (k := liveE) B_5 (liveE.map Evt.cells) rfl live_all (by decide) (by decide)) (by omega)
  rw [liveR] at hpl_8
  refine ca LnL_en_link_Play rfl rfl ((hpl_8).mono ?_)
  rintro e w_11 ⟨a_8, A_8, c_8, rfl, HT_8, HE_8, x_12⟩
  refine ⟨_, rfl, ?_⟩
  have q_13 := x_12.size
  have z_11 := Ext.tr z_1 x_12
  have HG_8 := HT_8.G
  have u_9 := fun q hq => (HG_8.lt q hq).2
  have lo_10 := fun q hq => (HG_8.lt q hq).1
  refine vl (mv rfl) rfl <| vl (ex rfl rfl) rfl <| vl (ex rfl rfl) rfl <| vl (ex rfl rfl) rfl <| al rfl LnL_zv_api_Link rfl rfl fun w_14 b_15 x_16 l_17 B_18 => ?_
  have q_19 := x_16.size
  have z_14 := Ext.tr z_11 x_16
  have q_20 := B_18.lt
  refine st (new := [.int .i64 2, .slice a_8.S 1 a_8.s, .int .i64 1, .int .i64 1, .slice a_8.W 0 a_8.w, .slice a_8.K 0 a_8.k, .slice a_8.G 1 a_8.g, .slice a_8.H 0 a_8.h]) rfl rfl B_18 rfl LnL_sz_api_Link rfl rfl rfl fun w_21 m_22 B_18 => ?_
  have q_24 := m_22.size
  have z_21 := Ext.mod z_14 m_22 (by simp only [List.mem_singleton, forall_eq]; omega)
  have q_23 := m_22.size
  refine vl (as_ rfl) rfl <| vl (as_ rfl) rfl <| nl <| nT <| sq <| rg <| vl (mv rfl) rfl <| vl (beq rfl rfl) rfl <| vl (mv rfl) rfl <| ug rfl rfl rfl <| vl (mv rfl) rfl <| ug rfl rfl rfl <| vl (ln Try.underlying56 rfl) rfl <| ug rfl rfl rfl <| vl (beq rfl rfl) rfl <| vl (pkT rfl rfl) rfl <| vl (mv rfl) rfl <| ug rfl rfl rfl <| vl (fa LnL_fd_api_Link_6 rfl) rfl <| ug rfl rfl rfl <| vl (ld rfl (B_18.one LnL_ag_S_string rfl)) rfl <| ug rfl rfl rfl <| bs (e := 9) (cs := [.string (bytesS [97])]) rfl (fun _ => by kernel_rfl) rfl fun w_25 b_26 x_27 l_28 B_29 => ?_
  have q_30 := x_27.size
  have z_25 := Ext.tr z_21 x_27
  have q_31 := B_29.lt
  refine ug rfl rfl rfl <| ?_
  have HG_8 := HG_8.later x_16
  have HG_8 := HG_8.mod m_22 (fun q hq h => by have hb := List.mem_singleton.1 h; exfalso; (have := u_9 q hq; omega))
  have HG_8 := HG_8.later x_27
  have hbl := Blk.has1 (R := repS) (by_ := 16) (q := bytesS [97]) B_29 ⟨rfl, (by decide : (bytesS [97]).size ≤ 140737488351232)⟩ (by decide)
  have hq_32 : (decide ([bytesS [97]] = [bytesS [97]])) = true := decide_eq_true rfl
  refine ca LnL_en_slices_Equal_S_string_string_ rfl rfl ((equal_S _ _ _ _ _ _ [bytesS [97]] [bytesS [97]] _ HG_8.has hbl).mono ?_)
  rintro e w_33 ⟨rfl, x_34⟩
  refine ⟨_, rfl, ?_⟩
  have q_35 := x_34.size
  have z_33 := Ext.tr z_25 x_34
  refine vl (pkT rfl (evb rfl hq_32)) rfl <| vl (mv rfl) rfl <| ug rfl rfl rfl <| vl (fa LnL_fd_api_Link_2 rfl) rfl <| ug rfl rfl rfl <| ?_
  have B_18 := B_18.later (Ext.tr x_27 x_34)
  refine vl (ld rfl (B_18.one LnL_ag_int rfl)) rfl <| ug rfl rfl rfl <| vl (beq rfl rfl) rfl <| vl (pkT rfl rfl) rfl <| vl (mv rfl) rfl <| ug rfl rfl rfl <| vl (fa LnL_fd_api_Link_4 rfl) rfl <| ug rfl rfl rfl <| vl (ld rfl (B_18.one LnL_ag_S_int rfl)) rfl <| ug rfl rfl rfl <| vl (ln Try.underlying38 rfl) rfl <| ug rfl rfl rfl <| vl (beq rfl rfl) rfl <| vl (pkT rfl rfl) rfl <| vl (mv rfl) rfl <| ug rfl rfl rfl <| vl (fa LnL_fd_api_Link_5 rfl) rfl <| ug rfl rfl rfl <| vl (ld rfl (B_18.one LnL_ag_S_int rfl)) rfl <| ug rfl rfl rfl <| vl (ln Try.underlying38 rfl) rfl <| ug rfl rfl rfl <| vl (beq rfl rfl) rfl <| vl (pkT rfl rfl) rfl <| ?_
  refine vl (as_ rfl) rfl <| nl <| nT <| rt <| tR (.tmp rfl .nil) <| ?_
  exact ⟨rfl, z_33⟩
set_option maxRecDepth 100000 in
set_option maxHeartbeats 400000 in
theorem sameLink_any (a : Lnk.At) (L : Lnk) (a2 : Lnk.At) (M : Lnk) (w : World) (hL : Lnk.Has w a L) (hM : Lnk.Has w a2 M) :
    Calls Try.prog 32 #[.agg #[.int .i64 L.window, .slice a.S L.sent.length a.s, .int .i64 L.base, .int .i64 L.next, .slice a.W L.way.length a.w, .slice a.K L.acks.length a.k, .slice a.G L.got.length a.g, .slice a.H L.held.length a.h], .agg #[.int .i64 M.window, .slice a2.S M.sent.length a2.s, .int .i64 M.base, .int .i64 M.next, .slice a2.W M.way.length a2.w, .slice a2.K M.acks.length a2.k, .slice a2.G M.got.length a2.g, .slice a2.H M.held.length a2.h]] w (fun e w' => e = .returned (.bool (decide (L = M))) ∧ Ext w w') := by
  refine calls_W (n := 59) Try.func32 rfl rfl rfl ?_
  refine sq <| rg <| bx rfl rfl rfl rfl fun w_1 b_2 x_3 l_4 B_5 => ?_
  have q_6 := x_3.size
  have z_1 := Ext.tr (Ext.rf w) x_3
  have q_7 := B_5.lt
  refine bx rfl rfl rfl rfl fun w_8 b_9 x_10 l_11 B_12 => ?_
  have q_13 := x_10.size
  have z_8 := Ext.tr z_1 x_10
  have q_14 := B_12.lt
  refine vl (as_ rfl) rfl <| nl <| nT <| sq <| rg <| vl (fa LnL_fd_api_Link_0 rfl) rfl <| ?_
  have B_5 := B_5.later x_10
  refine vl (ld rfl (B_5.one LnL_ag_int rfl)) rfl <| vl (fa LnL_fd_api_Link_0 rfl) rfl <| vl (ld rfl (B_12.one LnL_ag_int rfl)) rfl <| vl (beq rfl rfl) rfl <| vl (mv rfl) rfl <| vQ rfl rfl rfl rfl (fun hc => fa LnL_fd_api_Link_1 rfl) rfl <| vQ rfl rfl rfl rfl (fun hc => ld (gt hc rfl) (B_5.one LnL_ag_S_string rfl)) rfl <| vQ rfl rfl rfl rfl (fun hc => fa LnL_fd_api_Link_1 rfl) rfl <| vQ rfl rfl rfl rfl (fun hc => ld (gt hc rfl) (B_12.one LnL_ag_S_string rfl)) rfl <| vC rfl rfl rfl rfl LnL_en_slices_Equal_S_string_string_ (fun hc => ec (gt hc rfl) (ec (gt hc rfl) rfl)) (fun hc => equal_S _ _ _ _ _ _ L.sent M.sent _ (hL.S.keep z_8) (hM.S.keep z_8)) rfl fun w_15 x_16 => ?_
  have q_17 := x_16.size
  have z_15 := Ext.tr z_8 x_16
  refine vl (pA rfl rfl rfl rfl) rfl <| vl (mv rfl) rfl <| vQ rfl rfl rfl rfl (fun hc => fa LnL_fd_api_Link_2 rfl) rfl <| ?_
  have B_5 := B_5.later x_16
  refine vQ rfl rfl rfl rfl (fun hc => ld (gt hc rfl) (B_5.one LnL_ag_int rfl)) rfl <| vQ rfl rfl rfl rfl (fun hc => fa LnL_fd_api_Link_2 rfl) rfl <| ?_
  have B_12 := B_12.later x_16
  refine vQ rfl rfl rfl rfl (fun hc => ld (gt hc rfl) (B_12.one LnL_ag_int rfl)) rfl <| vQ rfl rfl rfl rfl (fun hc => beq (gt hc rfl) (gt hc rfl)) rfl <| vl (pA rfl rfl rfl rfl) rfl <| vl (mv rfl) rfl <| vQ rfl rfl rfl rfl (fun hc => fa LnL_fd_api_Link_3 rfl) rfl <| vQ rfl rfl rfl rfl (fun hc => ld (gt hc rfl) (B_5.one LnL_ag_int rfl)) rfl <| vQ rfl rfl rfl rfl (fun hc => fa LnL_fd_api_Link_3 rfl) rfl <| vQ rfl rfl rfl rfl (fun hc => ld (gt hc rfl) (B_12.one LnL_ag_int rfl)) rfl <| vQ rfl rfl rfl rfl (fun hc => beq (gt hc rfl) (gt hc rfl)) rfl <| vl (pA rfl rfl rfl rfl) rfl <| vl (mv rfl) rfl <| vQ rfl rfl rfl rfl (fun hc => fa LnL_fd_api_Link_4 rfl) rfl <| vQ rfl rfl rfl rfl (fun hc => ld (gt hc rfl) (B_5.one LnL_ag_S_int rfl)) rfl <| vQ rfl rfl rfl rfl (fun hc => fa LnL_fd_api_Link_4 rfl) rfl <| vQ rfl rfl rfl rfl (fun hc => ld (gt hc rfl) (B_12.one LnL_ag_S_int rfl)) rfl <| vC rfl rfl rfl rfl LnL_en_slices_Equal_S_int_int_ (fun hc => ec (gt hc rfl) (ec (gt hc rfl) rfl)) (fun hc => equal_Z _ _ _ _ _ _ L.way M.way _ (hL.W.keep z_15) (hM.W.keep z_15)) rfl fun w_18 x_19 => ?_
  have q_20 := x_19.size
  have z_18 := Ext.tr z_15 x_19
  refine vl (pA rfl rfl rfl rfl) rfl <| vl (mv rfl) rfl <| vQ rfl rfl rfl rfl (fun hc => fa LnL_fd_api_Link_5 rfl) rfl <| ?_
  have B_5 := B_5.later x_19
  refine vQ rfl rfl rfl rfl (fun hc => ld (gt hc rfl) (B_5.one LnL_ag_S_int rfl)) rfl <| vQ rfl rfl rfl rfl (fun hc => fa LnL_fd_api_Link_5 rfl) rfl <| ?_
  have B_12 := B_12.later x_19
  refine vQ rfl rfl rfl rfl (fun hc => ld (gt hc rfl) (B_12.one LnL_ag_S_int rfl)) rfl <| vC rfl rfl rfl rfl LnL_en_slices_Equal_S_int_int_ (fun hc => ec (gt hc rfl) (ec (gt hc rfl) rfl)) (fun hc => equal_Z _ _ _ _ _ _ L.acks M.acks _ (hL.K.keep z_18) (hM.K.keep z_18)) rfl fun w_21 x_22 => ?_
  have q_23 := x_22.size
  have z_21 := Ext.tr z_18 x_22
  refine vl (pA rfl rfl rfl rfl) rfl <| vl (mv rfl) rfl <| vQ rfl rfl rfl rfl (fun hc => fa LnL_fd_api_Link_6 rfl) rfl <| ?_
  have B_5 := B_5.later x_22
  refine vQ rfl rfl rfl rfl (fun hc => ld (gt hc rfl) (B_5.one LnL_ag_S_string rfl)) rfl <| vQ rfl rfl rfl rfl (fun hc => fa LnL_fd_api_Link_6 rfl) rfl <| ?_
  have B_12 := B_12.later x_22
  refine vQ rfl rfl rfl rfl (fun hc => ld (gt hc rfl) (B_12.one LnL_ag_S_string rfl)) rfl <| vC rfl rfl rfl rfl LnL_en_slices_Equal_S_string_string_ (fun hc => ec (gt hc rfl) (ec (gt hc rfl) rfl)) (fun hc => equal_S _ _ _ _ _ _ L.got M.got _ (hL.G.keep z_21) (hM.G.keep z_21)) rfl fun w_24 x_25 => ?_
  have q_26 := x_25.size
  have z_24 := Ext.tr z_21 x_25
  refine vl (pA rfl rfl rfl rfl) rfl <| vl (mv rfl) rfl <| vQ rfl rfl rfl rfl (fun hc => fa LnL_fd_api_Link_7 rfl) rfl <| ?_
  have B_5 := B_5.later x_25
  refine vQ rfl rfl rfl rfl (fun hc => ld (gt hc rfl) (B_5.one LnL_ag_S_int rfl)) rfl <| vQ rfl rfl rfl rfl (fun hc => fa LnL_fd_api_Link_7 rfl) rfl <| ?_
  have B_12 := B_12.later x_25
  refine vQ rfl rfl rfl rfl (fun hc => ld (gt hc rfl) (B_12.one LnL_ag_S_int rfl)) rfl <| vC rfl rfl rfl rfl LnL_en_slices_Equal_S_int_int_ (fun hc => ec (gt hc rfl) (ec (gt hc rfl) rfl)) (fun hc => equal_Z _ _ _ _ _ _ L.held M.held _ (hL.H.keep z_24) (hM.H.keep z_24)) rfl fun w_27 x_28 => ?_
  have q_29 := x_28.size
  have z_27 := Ext.tr z_24 x_28
  refine vl (pA rfl rfl rfl rfl) rfl <| vl (as_ rfl) rfl <| nl <| nT <| rt <| tR (.tmp rfl .nil) <| ?_
  exact ⟨by rw [same_link]; rfl, z_27⟩
end Go.Proofs.Ytfabhinehfhndaa
