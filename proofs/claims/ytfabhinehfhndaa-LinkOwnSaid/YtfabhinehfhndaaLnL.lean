/-
  linkLives, SameLink. (Printed by bin/linklaw.py.)
-/
import Derived.Test.YtfabhinehfhndaaLnP
set_option linter.unusedVariables false
set_option linter.unusedSimpArgs false
namespace Go.Proofs.Ytfabhinehfhndaa
open Go.RowKit

theorem LnL_en_link_Play : Enters Try.prog 26 := en Try.func26 (by kernel_rfl) (by kernel_rfl)
theorem LnL_zv_api_Link : Zv Try.prog 55 (.agg #[.int .i64 0, .slice none 0 0, .int .i64 0, .int .i64 0, .slice none 0 0, .slice none 0 0, .slice none 0 0, .slice none 0 0]) := fun _ => by kernel_rfl
theorem LnL_sz_api_Link : Sz Try.prog 55 8 := fun _ => by kernel_rfl
theorem LnL_fd_api_Link_6 : Fd Try.prog 55 6 6 := fun _ _ _ => by kernel_rfl
theorem LnL_ag_S_string : Ag Try.prog 53 false := fun _ => by kernel_rfl
theorem LnL_en_slices_Equal_S_string_string_ : Enters Try.prog 28 := en Try.func28 (by kernel_rfl) (by kernel_rfl)
theorem LnL_fd_api_Link_2 : Fd Try.prog 55 2 2 := fun _ _ _ => by kernel_rfl
theorem LnL_ag_int : Ag Try.prog 3 false := fun _ => by kernel_rfl
theorem LnL_fd_api_Link_4 : Fd Try.prog 55 4 4 := fun _ _ _ => by kernel_rfl
theorem LnL_ag_S_int : Ag Try.prog 38 false := fun _ => by kernel_rfl
theorem LnL_fd_api_Link_5 : Fd Try.prog 55 5 5 := fun _ _ _ => by kernel_rfl
def liveE : List Evt := [⟨1, 0, false, bytesS [97]⟩, ⟨2, 0, false, .empty⟩, ⟨3, 0, false, .empty⟩, ⟨4, 0, false, .empty⟩]
theorem live_all {w : World} : All2 (fun es a => Evt.rep.has w es a) (liveE.map Evt.cells) liveE := ⟨⟨rfl, by decide, by decide, by decide⟩, ⟨rfl, by decide, by decide, by decide⟩, ⟨rfl, by decide, by decide, by decide⟩, ⟨rfl, by decide, by decide, by decide⟩, trivial⟩
theorem liveR : playR 2 liveE = (⟨2, [bytesS [97]], 1, 1, [], [], [bytesS [97]], []⟩, [0, 0, 0, 0], 0) := by rfl
set_option maxRecDepth 100000 in
set_option maxHeartbeats 400000 in
theorem linkLives_any  (w : World) :
    Calls Try.prog 27 #[] w (fun e w' => e = .returned (.bool true) ∧ Ext w w') := by
  refine calls_W (n := 44) Try.func27 rfl rfl rfl ?_
  refine sq <| rg <| vl (as_ rfl) rfl <| nl <| nT <| sq <| rg <| vl (v := .agg #[.int .i64 1, .int .i64 0, .bool false, .string (bytesS [97])]) (bd rfl (by kernel_rfl)) rfl <| vl (v := .agg #[.int .i64 2, .int .i64 0, .bool false, .string .empty]) (bd rfl (by kernel_rfl)) rfl <| vl (v := .agg #[.int .i64 3, .int .i64 0, .bool false, .string .empty]) (bd rfl (by kernel_rfl)) rfl <| vl (v := .agg #[.int .i64 4, .int .i64 0, .bool false, .string .empty]) (bd rfl (by kernel_rfl)) rfl <| bs (e := 60) (cs := [.int .i64 1, .int .i64 0, .bool false, .string (bytesS [97]), .int .i64 2, .int .i64 0, .bool false, .string .empty, .int .i64 3, .int .i64 0, .bool false, .string .empty, .int .i64 4, .int .i64 0, .bool false, .string .empty]) rfl (fun _ => by kernel_rfl) rfl fun w_1 b_2 x_3 l_4 B_5 => ?_
  have q_6 := x_3.size
  have z_1 := Ext.tr (Ext.rf w) x_3
  have q_7 := B_5.lt
  have hpl_8 := lplay_any 2 _ 4 liveE _ (Blk.hasN (R := Evt.rep) (by_ := 40) (k := liveE) B_5 (liveE.map Evt.cells) rfl live_all (by decide) (by decide)) (by omega)
  rw [liveR] at hpl_8
  refine ca LnL_en_link_Play rfl rfl ((hpl_8).mono ?_)
  rintro e w_11 ⟨a_8, A_8, c_8, rfl, HT_8, HE_8, x_12⟩
  refine ⟨_, rfl, ?_⟩
  have q_13 := x_12.size
  have z_11 := Ext.tr z_1 x_12
  have HG_8 := HT_8.G
  have u_9 := fun q hq => (HG_8.lt q hq).2
  have lo_10 := fun q hq => (HG_8.lt q hq).1
  refine vl (mv rfl) rfl <| vl (ex rfl rfl) rfl <| vl (ex rfl rfl) rfl <| vl (ex rfl rfl) rfl <| al rfl LnL_zv_api_Link rfl rfl fun w_14 b_15 x_16 l_17 B_18 => ?_
  have q_19 := x_16.size
  have z_14 := Ext.tr z_11 x_16
  have q_20 := B_18.lt
  refine st (new := [.int .i64 2, .slice a_8.S 1 a_8.s, .int .i64 1, .int .i64 1, .slice a_8.W 0 a_8.w, .slice a_8.K 0 a_8.k, .slice a_8.G 1 a_8.g, .slice a_8.H 0 a_8.h]) rfl rfl B_18 rfl LnL_sz_api_Link rfl rfl rfl fun w_21 m_22 B_18 => ?_
  have q_24 := m_22.size
  have z_21 := Ext.mod z_14 m_22 (by simp only [List.mem_singleton, forall_eq]; omega)
  have q_23 := m_22.size
  refine vl (as_ rfl) rfl <| vl (as_ rfl) rfl <| nl <| nT <| sq <| rg <| vl (mv rfl) rfl <| vl (beq rfl rfl) rfl <| vl (mv rfl) rfl <| ug rfl rfl rfl <| vl (mv rfl) rfl <| ug rfl rfl rfl <| vl (ln Try.underlying56 rfl) rfl <| ug rfl rfl rfl <| vl (beq rfl rfl) rfl <| vl (pkT rfl rfl) rfl <| vl (mv rfl) rfl <| ug rfl rfl rfl <| vl (fa LnL_fd_api_Link_6 rfl) rfl <| ug rfl rfl rfl <| vl (ld rfl (B_18.one LnL_ag_S_string rfl)) rfl <| ug rfl rfl rfl <| bs (e := 9) (cs := [.string (bytesS [97])]) rfl (fun _ => by kernel_rfl) rfl fun w_25 b_26 x_27 l_28 B_29 => ?_
  have q_30 := x_27.size
  have z_25 := Ext.tr z_21 x_27
  have q_31 := B_29.lt
  refine ug rfl rfl rfl <| ?_
  have HG_8 := HG_8.later x_16
  have HG_8 := HG_8.mod m_22 (fun q hq h => by have hb := List.mem_singleton.1 h; exfalso; (have := u_9 q hq; omega))
  have HG_8 := HG_8.later x_27
  have hbl := Blk.has1 (R := repS) (by_ := 16) (q := bytesS [97]) B_29 ⟨rfl, (by decide : (bytesS [97]).size ≤ 140737488351232)⟩ (by decide)
  have hq_32 : (decide ([bytesS [97]] = [bytesS [97]])) = true := decide_eq_true rfl
  refine ca LnL_en_slices_Equal_S_string_string_ rfl rfl ((equal_S _ _ _ _ _ _ [bytesS [97]] [bytesS [97]] _ HG_8.has hbl).mono ?_)
  rintro e w_33 ⟨rfl, x_34⟩
  refine ⟨_, rfl, ?_⟩
  have q_35 := x_34.size
  have z_33 := Ext.tr z_25 x_34
  refine vl (pkT rfl (evb rfl hq_32)) rfl <| vl (mv rfl) rfl <| ug rfl rfl rfl <| vl (fa LnL_fd_api_Link_2 rfl) rfl <| ug rfl rfl rfl <| ?_
  have B_18 := B_18.later (Ext.tr x_27 x_34)
  refine vl (ld rfl (B_18.one LnL_ag_int rfl)) rfl <| ug rfl rfl rfl <| vl (beq rfl rfl) rfl <| vl (pkT rfl rfl) rfl <| vl (mv rfl) rfl <| ug rfl rfl rfl <| vl (fa LnL_fd_api_Link_4 rfl) rfl <| ug rfl rfl rfl <| vl (ld rfl (B_18.one LnL_ag_S_int rfl)) rfl <| ug rfl rfl rfl <| vl (ln Try.underlying38 rfl) rfl <| ug rfl rfl rfl <| vl (beq rfl rfl) rfl <| vl (pkT rfl rfl) rfl <| vl (mv rfl) rfl <| ug rfl rfl rfl <| vl (fa LnL_fd_api_Link_5 rfl) rfl <| ug rfl rfl rfl <| vl (ld rfl (B_18.one LnL_ag_S_int rfl)) rfl <| ug rfl rfl rfl <| vl (ln Try.underlying38 rfl) rfl <| ug rfl rfl rfl <| vl (beq rfl rfl) rfl <| vl (pkT rfl rfl) rfl <| ?_
  refine vl (as_ rfl) rfl <| nl <| nT <| rt <| tR (.tmp rfl .nil) <| ?_
  exact ⟨rfl, z_33⟩
end Go.Proofs.Ytfabhinehfhndaa
