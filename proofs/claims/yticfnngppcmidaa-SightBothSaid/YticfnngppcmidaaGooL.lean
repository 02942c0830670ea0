/-
  What is carried is brought in. (Printed by bin/goods_d.py.)
-/
import Derived.Test.YticfnngppcmidaaGooK
import Derived.Test.YticfnngppcmidaaGooD
set_option linter.unusedVariables false
set_option linter.unusedSimpArgs false
namespace Go.Proofs.Yticfnngppcmidaa
open Go.RowKit

theorem GooL_fd_api_Deed_1 : Fd Try.prog 45 1 1 := fun _ _ _ => by kernel_rfl
theorem GooL_ag_int : Ag Try.prog 3 false := fun _ => by kernel_rfl
theorem GooL_en__P_goods_shop__troop : Enters Try.prog 79 := en Try.func79 (by kernel_rfl) (by kernel_rfl)
theorem GooL_en_goods_beside : Enters Try.prog 80 := en Try.func80 (by kernel_rfl) (by kernel_rfl)
theorem GooL_fd_api_Troop_5 : Fd Try.prog 39 5 6 := fun _ _ _ => by kernel_rfl
theorem GooL_fd_goods_shop_0 : Fd Try.prog 91 0 0 := fun _ _ _ => by kernel_rfl
theorem GooL_fd_api_World_1 : Fd Try.prog 28 1 3 := fun _ _ _ => by kernel_rfl
theorem GooL_ag_S_api_Cell : Ag Try.prog 25 false := fun _ => by kernel_rfl
theorem GooL_fd_api_Troop_1 : Fd Try.prog 39 1 1 := fun _ _ _ => by kernel_rfl
theorem GooL_sz_api_Cell : Sz Try.prog 37 2 := fun _ => by kernel_rfl
theorem GooL_ag_api_Cell : Ag Try.prog 37 true := fun _ => by kernel_rfl
theorem GooL_fd_api_Troop_3 : Fd Try.prog 39 3 3 := fun _ _ _ => by kernel_rfl
theorem GooL_fd_api_World_2 : Fd Try.prog 28 2 4 := fun _ _ _ => by kernel_rfl
theorem GooL_ag_S_int : Ag Try.prog 22 false := fun _ => by kernel_rfl
theorem GooL_sz_int : Sz Try.prog 3 1 := fun _ => by kernel_rfl
theorem drop_none {W : Wd} {d : Ded} (hf : W.troops.findIdx? (isId d.who) = none) : W.drop d = none := by unfold Wd.drop; rw [hf]
theorem drop_no {W : Wd} {d : Ded} {k : Nat} {t : Trp} {b : Cel} {s : Int} (hf : W.troops.findIdx? (isId d.who) = some k) (ht : W.troops[k]? = some t) (hb : W.bases[t.owner.toNat]? = some b) (hs : W.stocks[t.owner.toNat]? = some s) (h : (t.load == 0 || !beside b t.spot) = true) : W.drop d = none := by
  rw [drop_eq hf ht hb hs, if_neg]
  intro hc
  simp only [Bool.and_eq_true, bne_iff_ne] at hc
  simp only [hc.1.2, Bool.or_eq_true, beq_iff_eq, Bool.not_true, Bool.false_eq_true, or_false] at h
  exact hc.1.1 h
theorem drop_val2 {W : Wd} {d : Ded} {k : Nat} {t : Trp} {b : Cel} {s : Int} (hf : W.troops.findIdx? (isId d.who) = some k) (ht : W.troops[k]? = some t) (hb : W.bases[t.owner.toNat]? = some b) (hs : W.stocks[t.owner.toNat]? = some s) (hl : ¬ t.load = 0) (hbe : beside b t.spot = true) (hG : Good W) :
    (W.drop d).isSome = decide (0 < min t.load (1000000 - s)) ∧ (W.drop d).getD W = { W with stocks := W.stocks.set t.owner.toNat (s + min t.load (1000000 - s)), troops := W.troops.set k (Wd.addLoad t (-(min t.load (1000000 - s)))) } := by
  have h1 := (hG.troops k t ht).load.1
  have h2 := hG.stocks _ _ hs
  rw [drop_eq hf ht hb hs]
  by_cases hn : 0 < min t.load (1000000 - s)
  · rw [if_pos (by simp [hl, hbe, hn])]
    exact ⟨by simp [hn], rfl⟩
  · rw [if_neg (by simp [hn])]
    have h0 : min t.load (1000000 - s) = 0 := by omega
    refine ⟨by simp [hn], ?_⟩
    rw [h0]
    have e1 : W.stocks.set t.owner.toNat (s + 0) = W.stocks := by rw [Int.add_zero]; exact set_same hs
    have e2 : W.troops.set k (Wd.addLoad t (-0)) = W.troops := by
      have : Wd.addLoad t (-0) = t := by unfold Wd.addLoad; simp
      rw [this]; exact set_same ht
    rw [e1, e2]; rfl
set_option maxRecDepth 100000 in
set_option maxHeartbeats 400000 in
theorem drop2_none (d : Ded) (w : World) (Z S : Nat) (a : Wd.At) (W : Wd) (h : Shop w Z S a W) (hG : Good W) (hf : W.troops.findIdx? (isId d.who) = none) :
    Calls Try.prog 66 #[.pointer (some ⟨S, 0, none⟩), .agg #[.int .i64 d.kind, .int .i64 d.who, .int .i64 d.spot.x, .int .i64 d.spot.y, .int .i64 d.what]] w (ShopPost W (W.drop d) w Z S a) := by
  have hsl := hG.sl
  have hml := hG.ml
  have hlow := h.low
  have hZ : Z ≤ w.heap.size := by have := h.low; have := h.blk.lt; omega
  have hfar := h.far
  have q0 := h.blk.lt
  have BS := h.blk
  have HO := h.own
  have dS : ∀ q ∈ WOwn.foot a, q = S → False := fun q hq hb => hfar (hb ▸ hq)
  have u_1 := fun q hq => (HO.lt q hq).2
  have htr := trOf_none (a := a) hf
  refine calls_W (n := 80) Try.func66 rfl rfl rfl ?_
  refine sq <| rg <| bx rfl rfl rfl rfl fun w_2 b_3 x_4 l_5 B_6 => ?_
  have q_7 := x_4.size
  have z_2 := (Mod.rf (S :: WOwn.foot a) w).trans (Mod.of_ext x_4)
  have q_8 := B_6.lt
  refine vl (as_ rfl) rfl <| nl <| nT <| sq <| rg <| vl (mv rfl) rfl <| vl (fa GooL_fd_api_Deed_1 rfl) rfl <| vl (ld rfl (B_6.one GooL_ag_int rfl)) rfl <| ?_
  have BS := BS.later x_4
  have HO := HO.later x_4
  refine ca GooL_en__P_goods_shop__troop rfl rfl (((htr ▸ shopTroop d.who _ Z S a W ⟨BS, HO, hfar, hlow⟩)).mono ?_)
  rintro e w_9 ⟨rfl, x_10⟩
  refine ⟨_, rfl, ?_⟩
  have q_11 := x_10.size
  have z_9 := z_2.trans (Mod.of_ext x_10)
  refine vl (as_ rfl) rfl <| nl <| nT <| sq <| sq <| ?_
  refine rd [(6, 0), (14, 0), (18, 0), (20, 0), (24, 0), (25, 0)] [0, 1, 2, 3, 4, 5, 6, 7, 8, 9, 10, 11, 12, 13, 14, 15, 16, 17, 18, 19, 20, 21, 22, 23, 24, 25, 26, 27] (by kernel_rfl) (by kernel_rfl) ?_
  refine fw rfl rfl (fun _ => mv rfl) rfl <| fw rfl rfl (fun _ => bpN Try.underlying119 rfl rfl) rfl <| fw rfl rfl (fun _ => mv rfl) rfl <| fW (v := undef) rfl rfl rfl rfl rfl rfl (fun hc => nomatch hc) rfl <| fW (v := undef) rfl rfl rfl rfl rfl rfl (fun hc => nomatch hc) rfl <| fW (v := undef) rfl rfl rfl rfl rfl rfl (fun hc => nomatch hc) rfl <| fQ (v := undef) rfl rfl rfl rfl rfl rfl (fun hc => nomatch hc) rfl <| fW (v := undef) rfl rfl rfl rfl rfl rfl (fun hc => nomatch hc) rfl <| fw rfl rfl (fun _ => pkT rfl rfl) rfl <| fw rfl rfl (fun _ => mv rfl) rfl <| fW (v := undef) rfl rfl rfl rfl rfl rfl (fun hc => nomatch hc) rfl <| fW (v := undef) rfl rfl rfl rfl rfl rfl (fun hc => nomatch hc) rfl <| fW (v := undef) rfl rfl rfl rfl rfl rfl (fun hc => nomatch hc) rfl <| fW (v := undef) rfl rfl rfl rfl rfl rfl (fun hc => nomatch hc) rfl <| fQ (v := undef) rfl rfl rfl rfl rfl rfl (fun hc => nomatch hc) rfl <| fW (v := undef) rfl rfl rfl rfl rfl rfl (fun hc => nomatch hc) rfl <| fW (v := undef) rfl rfl rfl rfl rfl rfl (fun hc => nomatch hc) rfl <| fW (v := undef) rfl rfl rfl rfl rfl rfl (fun hc => nomatch hc) rfl <| fQ (v := undef) rfl rfl rfl rfl rfl rfl (fun hc => nomatch hc) rfl <| fW (v := undef) rfl rfl rfl rfl rfl rfl (fun hc => nomatch hc) rfl <| fQ (v := undef) rfl rfl rfl rfl rfl rfl (fun hc => nomatch hc) rfl <| fW (v := undef) rfl rfl rfl rfl rfl rfl (fun hc => nomatch hc) rfl <| fW (v := undef) rfl rfl rfl rfl rfl rfl (fun hc => nomatch hc) rfl <| fW (v := undef) rfl rfl rfl rfl rfl rfl (fun hc => nomatch hc) rfl <| ?_
  refine fQ (v := undef) rfl rfl rfl rfl rfl rfl (fun hc => nomatch hc) rfl <| fC (v := undef) (args := []) rfl rfl rfl rfl rfl rfl GooL_en_goods_beside (fun hc => nomatch hc) (fun hc => nomatch hc) rfl <| fW (v := undef) rfl rfl rfl rfl rfl rfl (fun hc => nomatch hc) rfl <| fw rfl rfl (fun _ => pkT rfl rfl) rfl <| fn fun w_12 x_13 => ?_
  have q_14 := x_13.size
  have z_12 := z_9.trans (Mod.of_ext x_13)
  refine nT <| cT rfl <| sq <| rg <| vl (as_ rfl) rfl <| nl <| nT <| rt <| tT <| tR (.tmp rfl .nil) <| ?_
  have HO := HO.later (Ext.tr x_10 x_13)
  have BS := BS.later (Ext.tr x_10 x_13)
  exact ⟨a, by rw [drop_none hf]; rfl, by rw [drop_none hf]; exact ⟨BS, HO, hfar, hlow⟩, fun q hq => .inl hq, z_12⟩
set_option maxRecDepth 100000 in
set_option maxHeartbeats 400000 in
theorem drop2 (d : Ded) (w : World) (Z S : Nat) (a : Wd.At) (W : Wd) (h : Shop w Z S a W) (hG : Good W) (k : Nat) (t : Trp) (hf : W.troops.findIdx? (isId d.who) = some k) (ht : W.troops[k]? = some t) :
    Calls Try.prog 66 #[.pointer (some ⟨S, 0, none⟩), .agg #[.int .i64 d.kind, .int .i64 d.who, .int .i64 d.spot.x, .int .i64 d.spot.y, .int .i64 d.what]] w (ShopPost W (W.drop d) w Z S a) := by
  have hsl := hG.sl
  have hml := hG.ml
  have hlow := h.low
  have hZ : Z ≤ w.heap.size := by have := h.low; have := h.blk.lt; omega
  have hfar := h.far
  have q0 := h.blk.lt
  have BS := h.blk
  have HO := h.own
  have dS : ∀ q ∈ WOwn.foot a, q = S → False := fun q hq hb => hfar (hb ▸ hq)
  have u_1 := fun q hq => (HO.lt q hq).2
  have htr := trOf_some HO hf
  have hT := hG.troops k t ht
  have how := hT.owner
  obtain ⟨b, hb⟩ := get_of (l := W.bases) (i := t.owner.toNat) (by omega)
  obtain ⟨sv, hs⟩ := get_of (l := W.stocks) (i := t.owner.toNat) (by omega)
  have hsr := hG.stocks _ _ hs
  have hbg := hG.bases _ _ hb
  obtain ⟨i1, i2, i3, i4, i5, i6⟩ := Fld.idx hG.field (Fld.ground_in hbg.1)
  obtain ⟨y1, y2, y3, y4, _, _⟩ := Fld.good hG.field
  have hb1 : 0 ≤ b.x := by omega
  have hb2 : b.x ≤ 40 := by omega
  have hb3 : 0 ≤ b.y := by omega
  have hb4 : b.y ≤ 40 := by omega
  have hld := hT.load
  have hmo : Wd.mostOf t.kind ≤ 5 := by unfold Wd.mostOf; split <;> omega
  refine calls_W (n := 80) Try.func66 rfl rfl rfl ?_
  refine sq <| rg <| bx rfl rfl rfl rfl fun w_2 b_3 x_4 l_5 B_6 => ?_
  have q_7 := x_4.size
  have z_2 := (Mod.rf (S :: WOwn.foot a) w).trans (Mod.of_ext x_4)
  have q_8 := B_6.lt
  refine vl (as_ rfl) rfl <| nl <| nT <| sq <| rg <| vl (mv rfl) rfl <| vl (fa GooL_fd_api_Deed_1 rfl) rfl <| vl (ld rfl (B_6.one GooL_ag_int rfl)) rfl <| ?_
  have BS := BS.later x_4
  have HO := HO.later x_4
  refine ca GooL_en__P_goods_shop__troop rfl rfl (((htr ▸ shopTroop d.who _ Z S a W ⟨BS, HO, hfar, hlow⟩)).mono ?_)
  rintro e w_9 ⟨rfl, x_10⟩
  refine ⟨_, rfl, ?_⟩
  have q_11 := x_10.size
  have z_9 := z_2.trans (Mod.of_ext x_10)
  refine vl (as_ rfl) rfl <| nl <| nT <| sq <| sq <| ?_
  refine rd [(6, 0), (14, 0), (18, 0), (20, 0), (24, 0), (25, 0)] [0, 1, 2, 3, 4, 5, 6, 7, 8, 9, 10, 11, 12, 13, 14, 15, 16, 17, 18, 19, 20, 21, 22, 23, 24, 25, 26, 27] (by kernel_rfl) (by kernel_rfl) ?_
  refine fw rfl rfl (fun _ => mv rfl) rfl <| fw rfl rfl (fun _ => bpN Try.underlying119 rfl rfl) rfl <| fw rfl rfl (fun _ => mv rfl) rfl <| fW rfl rfl rfl rfl rfl rfl (fun hc _ => mv rfl) rfl <| fW rfl rfl rfl rfl rfl rfl (fun hc _ => nc rfl) rfl <| fW rfl rfl rfl rfl rfl rfl (fun hc _ => fa GooL_fd_api_Troop_5 rfl) rfl <| ?_
  have HO := HO.later x_10
  refine fQ rfl rfl rfl rfl rfl rfl (fun hc _ x => ld rfl (Rep.SHas.fld hcT (by rw [← (HO.later x).T.has.adr (Nat.zero_lt_of_lt (show k < _ from (by have := (List.getElem?_eq_some_iff.1 ht).1; simpa using this)))]; exact (HO.later x).T.has) 6 ht rfl GooL_ag_int)) rfl <| fW rfl rfl rfl rfl rfl rfl (fun hc _ => beq rfl rfl) rfl <| fw rfl rfl (fun _ => pkF rfl rfl) rfl <| fw rfl rfl (fun _ => mv rfl) rfl <| fW rfl rfl rfl rfl rfl rfl (fun hc _ => mv rfl) rfl <| fW rfl rfl rfl rfl rfl rfl (fun hc _ => nc (gt hc rfl)) rfl <| fW rfl rfl rfl rfl rfl rfl (fun hc _ => fa GooL_fd_goods_shop_0 (gt hc rfl)) rfl <| fW rfl rfl rfl rfl rfl rfl (fun hc _ => fa GooL_fd_api_World_1 (gt hc rfl)) rfl <| ?_
  have BS := BS.later x_10
  refine fQ rfl rfl rfl rfl rfl rfl (fun hc _ x => ld (gt hc rfl) ((BS.later x).one GooL_ag_S_api_Cell rfl)) rfl <| fW rfl rfl rfl rfl rfl rfl (fun hc _ => mv rfl) rfl <| fW rfl rfl rfl rfl rfl rfl (fun hc _ => nc (gt hc rfl)) rfl <| fW rfl rfl rfl rfl rfl rfl (fun hc _ => fa GooL_fd_api_Troop_1 (gt hc rfl)) rfl <| fQ rfl rfl rfl rfl rfl rfl (fun hc _ x => ld (gt hc rfl) (Rep.SHas.fld hcT (by rw [← (HO.later x).T.has.adr (Nat.zero_lt_of_lt (show k < _ from (by have := (List.getElem?_eq_some_iff.1 ht).1; simpa using this)))]; exact (HO.later x).T.has) 1 ht rfl GooL_ag_int)) rfl <| fW rfl rfl rfl rfl rfl rfl (fun hc _ => iA t.owner.toNat Try.underlying25 GooL_sz_api_Cell (gt hc rfl) (gt hc rfl) (HO.B.has.adr (Nat.zero_lt_of_lt (show t.owner.toNat < _ from (show t.owner.toNat < W.bases.length by omega)))) (by (try simp only [Bool.or_eq_true, Bool.or_eq_false_iff, Bool.and_eq_true, Bool.and_eq_false_iff, decide_eq_true_eq, decide_eq_false_iff_not, beq_iff_eq, bne_iff_ne, beq_eq_false_iff_ne, bne_eq_false_iff_eq, Bool.not_eq_true', Bool.not_eq_false', Bool.not_eq_true, Bool.not_eq_false, Int.not_lt, Int.not_le, Nat.not_lt, Nat.not_le, ne_eq, Classical.not_not] at hc); omega) (show t.owner.toNat < W.bases.length by omega)) rfl <| fQ rfl rfl rfl rfl rfl rfl (fun hc _ x => ld (gt hc rfl) (Rep.SHas.elt hcC (by rw [← (HO.later x).B.has.adr (Nat.zero_lt_of_lt (show t.owner.toNat < _ from (show t.owner.toNat < W.bases.length by omega)))]; exact (HO.later x).B.has) hb GooL_ag_api_Cell GooL_sz_api_Cell)) rfl <| fW rfl rfl rfl rfl rfl rfl (fun hc _ => mv rfl) rfl <| fW rfl rfl rfl rfl rfl rfl (fun hc _ => nc (gt hc rfl)) rfl <| fW rfl rfl rfl rfl rfl rfl (fun hc _ => fa GooL_fd_api_Troop_3 (gt hc rfl)) rfl <| fQ rfl rfl rfl rfl rfl rfl (fun hc _ x => ld (gt hc rfl) (Rep.SHas.part hcT (by rw [← (HO.later x).T.has.adr (Nat.zero_lt_of_lt (show k < _ from (by have := (List.getElem?_eq_some_iff.1 ht).1; simpa using this)))]; exact (HO.later x).T.has) 3 (ds := [.int .i64 t.spot.x, .int .i64 t.spot.y]) ht rfl GooL_ag_api_Cell GooL_sz_api_Cell)) rfl <| fC rfl rfl rfl rfl rfl rfl GooL_en_goods_beside (fun hc => ec (gt hc rfl) (ec (gt hc rfl) rfl)) (fun hc _ x => beside_any b t.spot _ hb1 hb2 hb3 hb4) rfl <| fW rfl rfl rfl rfl rfl rfl (fun hc _ => nt (gt hc rfl)) rfl <| fw rfl rfl (fun _ => pO rfl rfl rfl rfl) rfl <| fn fun w_12 x_13 => ?_
  have q_14 := x_13.size
  have z_12 := z_9.trans (Mod.of_ext x_13)
  refine nT <| ?_
  refine cb rfl (fun h_15 => ?_) (fun h_15 => ?_)
  · refine sq <| rg <| vl (as_ rfl) rfl <| nl <| nT <| rt <| tT <| tR (.tmp rfl .nil) <| ?_
    have HO := HO.later x_13
    have BS := BS.later x_13
    exact ⟨a, by rw [drop_no hf ht hb hs h_15]; rfl, by rw [drop_no hf ht hb hs h_15]; exact ⟨BS, HO, hfar, hlow⟩, fun q hq => .inl hq, z_12⟩
  · simp only [Bool.or_eq_false_iff, beq_eq_false_iff_ne, Bool.not_eq_false', ne_eq] at h_15
    obtain ⟨hl, hbe⟩ := h_15
    have ht2 : (W.troops.set k (Wd.addLoad t (-(min t.load (1000000 - sv)))))[k]? = some (Wd.addLoad t (-(min t.load (1000000 - sv)))) := List.getElem?_set_self (List.getElem?_eq_some_iff.1 ht).1
    refine sk <| nT <| sq <| ?_
    refine rd [(3, 0), (8, 0), (12, 0), (14, 0)] [0, 1, 2, 3, 4, 5, 6, 7, 8, 9, 10, 11, 12, 13, 14, 15, 16, 17] (by kernel_rfl) (by kernel_rfl) ?_
    refine fw rfl rfl (fun _ => mv rfl) rfl <| fw rfl rfl (fun _ => nc rfl) rfl <| fw rfl rfl (fun _ => fa GooL_fd_api_Troop_5 rfl) rfl <| ?_
    have HO := HO.later x_13
    refine fq rfl rfl (fun _ x => ld rfl (Rep.SHas.fld hcT (by rw [← (HO.later x).T.has.adr (Nat.zero_lt_of_lt (show k < _ from (by have := (List.getElem?_eq_some_iff.1 ht).1; simpa using this)))]; exact (HO.later x).T.has) 6 ht rfl GooL_ag_int)) rfl <| fw rfl rfl (fun _ => mv rfl) rfl <| fw rfl rfl (fun _ => nc rfl) rfl <| fw rfl rfl (fun _ => fa GooL_fd_goods_shop_0 rfl) rfl <| fw rfl rfl (fun _ => fa GooL_fd_api_World_2 rfl) rfl <| ?_
    have BS := BS.later x_13
    refine fq rfl rfl (fun _ x => ld rfl ((BS.later x).one GooL_ag_S_int rfl)) rfl <| fw rfl rfl (fun _ => mv rfl) rfl <| fw rfl rfl (fun _ => nc rfl) rfl <| fw rfl rfl (fun _ => fa GooL_fd_api_Troop_1 rfl) rfl <| fq rfl rfl (fun _ x => ld rfl (Rep.SHas.fld hcT (by rw [← (HO.later x).T.has.adr (Nat.zero_lt_of_lt (show k < _ from (by have := (List.getElem?_eq_some_iff.1 ht).1; simpa using this)))]; exact (HO.later x).T.has) 1 ht rfl GooL_ag_int)) rfl <| fw rfl rfl (fun _ => iA t.owner.toNat Try.underlying22 GooL_sz_int rfl rfl (HO.S.has.adr (Nat.zero_lt_of_lt (show t.owner.toNat < _ from (show t.owner.toNat < W.stocks.length by omega)))) (by omega) (show t.owner.toNat < W.stocks.length by omega)) rfl <| fq rfl rfl (fun _ x => ld rfl (Rep.SHas.one' hcI (by rw [← (HO.later x).S.has.adr (Nat.zero_lt_of_lt (show t.owner.toNat < _ from (show t.owner.toNat < W.stocks.length by omega)))]; exact (HO.later x).S.has) hs rfl GooL_ag_int)) rfl <| fw rfl rfl (fun _ => bsu rfl rfl (inI (by omega))) rfl <| fw rfl rfl (fun _ => mn rfl rfl) rfl <| fw rfl rfl (fun _ => as_ rfl) rfl <| fn fun w_16 x_17 => ?_
    have q_18 := x_17.size
    have z_16 := z_12.trans (Mod.of_ext x_17)
    refine nT <| sq <| rg <| vl (mv rfl) rfl <| vl (nc rfl) rfl <| vl (fa GooL_fd_api_Troop_5 rfl) rfl <| ?_
    have HO := HO.later x_17
    refine vl (ld rfl (Rep.SHas.fld hcT (by rw [← HO.T.has.adr (Nat.zero_lt_of_lt (show k < _ from (by have := (List.getElem?_eq_some_iff.1 ht).1; simpa using this)))]; exact HO.T.has) 6 ht rfl GooL_ag_int)) rfl <| vl (mv rfl) rfl <| vl (bsu rfl rfl (inI (by omega))) rfl <| vl (nc rfl) rfl <| vl (fa GooL_fd_api_Troop_5 rfl) rfl <| so (q' := Wd.addLoad t (-(min t.load (1000000 - sv)))) (j := 6) (i := k) HO.T Rep.flat_bare ht rfl rfl rfl rfl (fun _ cs h => by have ok_ := (show _ ∧ _ from h).2; obtain rfl := hcT h; exact ⟨rfl, by obtain ⟨o1, o2, o3, o4, o5, o6, o7⟩ := ok_; exact ⟨o1, o2, o3, o4, o5, o6, okI_iff.2 (by show _ ≤ t.load + -(min t.load (1000000 - sv)) ∧ t.load + -(min t.load (1000000 - sv)) ≤ _; omega)⟩⟩) rfl rfl GooL_sz_int fun w_19 m_20 O_21 => ?_
    have BS := BS.later x_17
    have B_6 := B_6.later (Ext.tr x_10 (Ext.tr x_13 x_17))
    have q_22 := m_20.size
    have z_19 := z_16.md m_20 (fun q hq => .inl (List.mem_cons_of_mem _ (foot_T hq)))
    have HO_23 := HO.setT m_20 O_21
    have u_24 := fun q hq => (HO_23.lt q hq).2
    have d_25 : ∀ q ∈ Rep.blkOf a.T, q = S → False := fun q hq hb => by (exact dS q (foot_T hq) hb)
    have BS := BS.mod m_20 (fun hq => d_25 _ hq rfl)
    refine nl <| nT <| sq <| ?_
    refine rd [(4, 0), (8, 0), (10, 0), (14, 3)] [0, 1, 2, 3, 4, 5, 6, 7, 8, 9, 10, 11, 12, 13, 14] (by kernel_rfl) (by kernel_rfl) ?_
    refine fw rfl rfl (fun _ => mv rfl) rfl <| fw rfl rfl (fun _ => nc rfl) rfl <| fw rfl rfl (fun _ => fa GooL_fd_goods_shop_0 rfl) rfl <| fw rfl rfl (fun _ => fa GooL_fd_api_World_2 rfl) rfl <| fq rfl rfl (fun _ x => ld rfl ((BS.later x).one GooL_ag_S_int rfl)) rfl <| fw rfl rfl (fun _ => mv rfl) rfl <| fw rfl rfl (fun _ => nc rfl) rfl <| fw rfl rfl (fun _ => fa GooL_fd_api_Troop_1 rfl) rfl <| fq (v := .int .i64 t.owner) rfl rfl (fun _ x => ld rfl (Rep.SHas.fld hcT (by rw [← (HO_23.later x).T.has.adr (Nat.zero_lt_of_lt (show k < _ from (by have := (List.getElem?_eq_some_iff.1 ht).1; simpa using this)))]; exact (HO_23.later x).T.has) 1 ht2 rfl GooL_ag_int)) rfl <| fw rfl rfl (fun _ => iA t.owner.toNat Try.underlying22 GooL_sz_int rfl rfl (HO_23.S.has.adr (Nat.zero_lt_of_lt (show t.owner.toNat < _ from (show t.owner.toNat < W.stocks.length by omega)))) (by omega) (show t.owner.toNat < W.stocks.length by omega)) rfl <| fq rfl rfl (fun _ x => ld rfl (Rep.SHas.one' hcI (by rw [← (HO_23.later x).S.has.adr (Nat.zero_lt_of_lt (show t.owner.toNat < _ from (show t.owner.toNat < W.stocks.length by omega)))]; exact (HO_23.later x).S.has) hs rfl GooL_ag_int)) rfl <| fw rfl rfl (fun _ => mv rfl) rfl <| fw rfl rfl (fun _ => bad rfl rfl (inI (by omega))) rfl <| fw rfl rfl (fun _ => iA t.owner.toNat Try.underlying22 GooL_sz_int rfl rfl (HO_23.S.has.adr (Nat.zero_lt_of_lt (show t.owner.toNat < _ from (show t.owner.toNat < W.stocks.length by omega)))) (by omega) (show t.owner.toNat < W.stocks.length by omega)) rfl <| fb rfl rfl rfl fun w_26 x_27 Q hK => so (q' := sv + min t.load (1000000 - sv)) (j := 0) (i := t.owner.toNat) (HO_23.later x_27).S Rep.flat_bare hs rfl rfl rfl rfl (fun _ cs h => by have ok_ := (show _ ∧ _ from h).2; obtain rfl := hcI h; exact ⟨rfl, okI_iff.2 (by omega)⟩) rfl rfl GooL_sz_int fun w_28 m_29 O_30 => hK _ _ ?_
    have q_31 := x_27.size
    have z_26 := z_19.trans (Mod.of_ext x_27)
    have HO_23 := HO_23.later x_27
    have BS := BS.later x_27
    have d_32 : ∀ q ∈ Rep.blkOf a.T, q = b_3 → False := fun q hq hb => by (have := u_1 q (foot_T hq); omega)
    have B_6 := B_6.mod m_20 (fun hq => d_32 _ hq rfl)
    have B_6 := B_6.later x_27
    have q_33 := m_29.size
    have z_28 := z_26.md m_29 (fun q hq => .inl (List.mem_cons_of_mem _ (foot_S hq)))
    have HO_34 := HO_23.setS m_29 O_30
    have u_35 := fun q hq => (HO_34.lt q hq).2
    have d_36 : ∀ q ∈ Rep.blkOf a.S, q = S → False := fun q hq hb => by (exact dS q (foot_S hq) hb)
    have BS := BS.mod m_29 (fun hq => d_36 _ hq rfl)
    refine fn fun w_37 x_38 => ?_
    have q_39 := x_38.size
    have z_37 := z_28.trans (Mod.of_ext x_38)
    refine nT <| sq <| rg <| vl (mv rfl) rfl <| vl (bgt rfl rfl) rfl <| vl (as_ rfl) rfl <| nl <| nT <| rt <| tR (.tmp rfl .nil) <| ?_
    have HO_34 := HO_34.later x_38
    have BS := BS.later x_38
    obtain ⟨e1, e2⟩ := drop_val2 hf ht hb hs hl hbe hG
    exact ⟨a, by rw [e1]; rfl, by rw [e2]; exact ⟨by simpa [Wd.cells] using BS, HO_34, hfar, hlow⟩, fun q hq => .inl hq, z_37⟩
end Go.Proofs.Yticfnngppcmidaa
