/-
  GoodsKeep. (Printed by bin/goodslaw2.py.)
-/
import Derived.Test.YticfnngppcmidaaLawP
set_option linter.unusedVariables false
namespace Go.Proofs.Yticfnngppcmidaa
open Go.RowKit

theorem LawB_ag_api_World : Ag Try.prog 28 true := fun _ => by kernel_rfl
theorem LawB_sz_api_World : Sz Try.prog 28 9 := fun _ => by kernel_rfl
theorem LawB_en_goods_Do : Enters Try.prog 15 := en Try.func15 (by kernel_rfl) (by kernel_rfl)
theorem LawB_zv_api_World : Zv Try.prog 28 (.agg #[.int .i64 0, .int .i64 0, .slice none 0 0, .slice none 0 0, .slice none 0 0, .slice none 0 0, .slice none 0 0, .int .i64 0, .int .i64 0]) := fun _ => by kernel_rfl
theorem LawB_en_goods_Worth : Enters Try.prog 32 := en Try.func32 (by kernel_rfl) (by kernel_rfl)
theorem LawB_en_mustkeep_goodsLives : Enters Try.prog 16 := en Try.func16 (by kernel_rfl) (by kernel_rfl)
set_option maxRecDepth 100000 in
set_option maxHeartbeats 400000 in
theorem goodsKeep_walk (a : Wd.At) (W : Wd) (A : Option Addr) (c : Nat) (l : List Ded) (w : World) (hW : Wd.Has w a W) (hl : Ded.rep.SHas 40 w A c l) :
    Calls Try.prog 7 #[.agg ((Wd.cells a W).toArray), .slice A l.length c] w (fun e w' => e = .returned (.bool true) ∧ Ext w w') := by
  refine calls_W (n := 51) Try.func7 rfl rfl rfl ?_
  refine sq <| rg <| bx rfl rfl rfl rfl fun w_1 b_2 x_3 l_4 B_5 => ?_
  have q_6 := x_3.size
  have z_1 := Ext.tr (Ext.rf w) x_3
  have q_7 := B_5.lt
  refine vl (as_ rfl) rfl <| nl <| nT <| sq <| rg <| vl (ld rfl (B_5.all LawB_ag_api_World LawB_sz_api_World)) rfl <| vl (mv rfl) rfl <| ca LawB_en_goods_Do rfl rfl ((do_any l _ _ _ a W (hW.keep z_1) (hl.keep z_1)).mono ?_)
  rintro e w_13 ⟨a_8, A_8, c_8, rfl, HO_8, OD_8, hd_8, x_14⟩
  refine ⟨_, rfl, ?_⟩
  have q_15 := x_14.size
  have z_13 := Ext.tr z_1 x_14
  have u_9 := fun q hq => (HO_8.lt q hq).2
  have lo_10 := fun q hq => (HO_8.lt q hq).1
  have u_11 := fun q hq => (OD_8.lt q hq).2
  have lo_12 := fun q hq => (OD_8.lt q hq).1
  have dd_8 : ∀ q ∈ Rep.blkOf A_8, q ∈ WOwn.foot a_8 → False := hd_8
  have dw_8 : ∀ q ∈ WOwn.foot a_8, q ∈ Rep.blkOf A_8 → False := fun q h1 h2 => hd_8 q h2 h1
  refine vl (mv rfl) rfl <| vl (ex rfl rfl) rfl <| vl (ex rfl rfl) rfl <| vl (ex rfl rfl) rfl <| al rfl LawB_zv_api_World rfl rfl fun w_16 b_17 x_18 l_19 B_20 => ?_
  have q_21 := x_18.size
  have z_16 := Ext.tr z_13 x_18
  have q_22 := B_20.lt
  refine st rfl rfl B_20 rfl LawB_sz_api_World rfl rfl rfl fun w_23 m_24 B_20 => ?_
  have q_26 := m_24.size
  have z_23 := Ext.mod z_16 m_24 (by simp only [List.mem_singleton, forall_eq]; omega)
  have q_25 := m_24.size
  refine vl (as_ rfl) rfl <| vl (as_ rfl) rfl <| nl <| nT <| sq <| rg <| ?_
  have B_5 := B_5.later (Ext.tr x_14 x_18)
  have B_5 := B_5.mod m_24 (by simp only [List.mem_singleton]; omega)
  refine vl (ld rfl (B_5.all LawB_ag_api_World LawB_sz_api_World)) rfl <| ca LawB_en_goods_Worth rfl rfl ((worth_any _ a W (hW.keep z_23)).mono ?_)
  rintro e w_27 ⟨rfl, x_28⟩
  refine ⟨_, rfl, ?_⟩
  have q_29 := x_28.size
  have z_27 := Ext.tr z_23 x_28
  refine vl (mv rfl) rfl <| vl (ex rfl rfl) rfl <| vl (ex rfl rfl) rfl <| vl (as_ rfl) rfl <| vl (as_ rfl) rfl <| nl <| nT <| sq <| rg <| ?_
  have B_20 := B_20.later x_28
  refine vl (ld rfl (B_20.all LawB_ag_api_World LawB_sz_api_World)) rfl <| ?_
  have HO_8 := HO_8.later x_18
  have HO_8 := HO_8.mod m_24 (fun q hq h => by have hb := List.mem_singleton.1 h; exfalso; (have := u_9 q hq; omega))
  have HO_8 := HO_8.later x_28
  refine ca LawB_en_goods_Worth rfl rfl ((worth_any _ a_8 (W.doW l) HO_8.has).mono ?_)
  rintro e w_30 ⟨rfl, x_31⟩
  refine ⟨_, rfl, ?_⟩
  have q_32 := x_31.size
  have z_30 := Ext.tr z_27 x_31
  refine vl (mv rfl) rfl <| vl (ex rfl rfl) rfl <| vl (ex rfl rfl) rfl <| vl (as_ rfl) rfl <| vl (as_ rfl) rfl <| nl <| nT <| sq <| sq <| rg <| ca LawB_en_mustkeep_goodsLives rfl rfl ((goodsLives_any _).mono ?_)
  rintro e w_33 ⟨rfl, x_34⟩
  refine ⟨_, rfl, ?_⟩
  have q_35 := x_34.size
  have z_33 := Ext.tr z_30 x_34
  refine vl (nt rfl) rfl <| vl (mv rfl) rfl <| vQ rfl rfl rfl rfl (fun hc => mv rfl) rfl <| vQ rfl rfl rfl rfl (fun hc => bne (gt hc rfl) rfl) rfl <| vl (pO rfl rfl rfl rfl) rfl <| nl <| nT <| ?_
  refine cb rfl (fun h_36 => ?_) (fun h_36 => ?_)
  · refine sq <| rg <| ca LawB_en_mustkeep_goodsLives rfl rfl ((goodsLives_any _).mono ?_)
    rintro e w_37 ⟨rfl, x_38⟩
    refine ⟨_, rfl, ?_⟩
    have q_39 := x_38.size
    have z_37 := Ext.tr z_33 x_38
    refine vl (as_ rfl) rfl <| nl <| nT <| rt <| tT <| tR (.tmp rfl .nil) <| ?_
    exact ⟨rfl, z_37⟩
  · refine sk <| nT <| sq <| rg <| vl (mv rfl) rfl <| vl (beq rfl rfl) rfl <| vl (mv rfl) rfl <| vQ rfl rfl rfl rfl (fun hc => mv rfl) rfl <| vQ rfl rfl rfl rfl (fun hc => beq (gt hc rfl) rfl) rfl <| vl (pA rfl rfl rfl rfl) rfl <| vl (mv rfl) rfl <| vQ rfl rfl rfl rfl (fun hc => mv rfl) rfl <| vQ rfl rfl rfl rfl (fun hc => mv rfl) rfl <| vQ rfl rfl rfl rfl (fun hc => beq (gt hc rfl) (gt hc rfl)) rfl <| vl (pA rfl rfl rfl rfl) rfl <| vl (mv rfl) rfl <| vQ rfl rfl rfl rfl (fun hc => mv rfl) rfl <| vQ rfl rfl rfl rfl (fun hc => bge (gt hc rfl) rfl) rfl <| vl (pA rfl rfl rfl rfl) rfl <| vl (as_ rfl) rfl <| nl <| nT <| rt <| tR (.tmp rfl .nil) <| ?_
    obtain ⟨hG, hl2, e1, e2⟩ := do_of (by simpa using h_36)
    exact ⟨ret_true (by rw [e1, worth_ok hG.chk0, worth_ok (hG.deeds l).chk0, hG.chk0, (hG.deeds l).chk0, total_deeds hG]; simpa using total_pos hG), z_33⟩
theorem goodsKeep_any (c0 : Array Value) (a1 : Option Addr) (len1 cap1 : Nat) (w : World) (h0 : (.cons (.cons (.int .i64) (.cons (.int .i64) (.cons (.slice (.int .i64) 8) .nil))) (.cons (.slice (.cons (.int .i64) (.cons (.int .i64) .nil)) 16) (.cons (.slice (.int .i64) 8) (.cons (.slice (.int .i64) 8) (.cons (.slice (.cons (.int .i64) (.cons (.int .i64) (.cons (.int .i64) (.cons (.cons (.int .i64) (.cons (.int .i64) .nil)) (.cons (.int .i64) (.cons (.int .i64) .nil)))))) 56) (.cons (.int .i64) (.cons (.int .i64) .nil)))))) : Sh).Ok w c0.toList) (h1 : (.slice (.cons (.int .i64) (.cons (.int .i64) (.cons (.cons (.int .i64) (.cons (.int .i64) .nil)) (.cons (.int .i64) .nil)))) 40 : Sh).Ok w [.slice a1 len1 cap1]) :
    Calls Try.prog 7 #[.agg c0, .slice a1 len1 cap1] w fun e w' => e = .returned (.bool true) ∧ Below w.heap.size w w' := by
  obtain ⟨a, W, e, hW⟩ := Wd.opens w _ (show Wd.sh.Ok w c0.toList from h0)
  have hc : c0 = (Wd.cells a W).toArray := by rw [← e]
  subst hc
  obtain ⟨A, c, l, e2, hl⟩ := Rep.opens_slice (R := Ded.rep) (by_ := 40) Ded.opens rfl (by decide) h1
  simp only [List.cons.injEq, Value.slice.injEq, and_true] at e2
  obtain ⟨rfl, rfl, rfl⟩ := e2
  exact goodsKeep_walk a W _ _ l w hW hl
end Go.Proofs.Yticfnngppcmidaa
