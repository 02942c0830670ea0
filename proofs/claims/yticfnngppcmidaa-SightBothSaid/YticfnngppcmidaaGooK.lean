/-
  A load is mined; nothing turns that is not the shop's. (Printed by bin/goods_m.py.)
-/
import Derived.Test.YticfnngppcmidaaWMod
import Derived.Test.YticfnngppcmidaaGooB
set_option linter.unusedVariables false
set_option linter.unusedSimpArgs false
namespace Go.Proofs.Yticfnngppcmidaa
open Go.RowKit

theorem GooK_fd_api_Deed_1 : Fd Try.prog 45 1 1 := fun _ _ _ => by kernel_rfl
theorem GooK_ag_int : Ag Try.prog 3 false := fun _ => by kernel_rfl
theorem GooK_en__P_goods_shop__troop : Enters Try.prog 79 := en Try.func79 (by kernel_rfl) (by kernel_rfl)
theorem GooK_en_goods_beside : Enters Try.prog 80 := en Try.func80 (by kernel_rfl) (by kernel_rfl)
theorem GooK_fd_api_Troop_2 : Fd Try.prog 39 2 2 := fun _ _ _ => by kernel_rfl
theorem GooK_fd_api_Troop_5 : Fd Try.prog 39 5 6 := fun _ _ _ => by kernel_rfl
theorem GooK_fd_api_Troop_3 : Fd Try.prog 39 3 3 := fun _ _ _ => by kernel_rfl
theorem GooK_ag_api_Cell : Ag Try.prog 37 true := fun _ => by kernel_rfl
theorem GooK_sz_api_Cell : Sz Try.prog 37 2 := fun _ => by kernel_rfl
theorem GooK_fd_api_Deed_2 : Fd Try.prog 45 2 2 := fun _ _ _ => by kernel_rfl
theorem GooK_fd_goods_shop_0 : Fd Try.prog 91 0 0 := fun _ _ _ => by kernel_rfl
theorem GooK_fd_api_World_0 : Fd Try.prog 28 0 0 := fun _ _ _ => by kernel_rfl
theorem GooK_ag_api_Field : Ag Try.prog 24 true := fun _ => by kernel_rfl
theorem GooK_sz_api_Field : Sz Try.prog 24 3 := fun _ => by kernel_rfl
theorem GooK_en_field_At : Enters Try.prog 50 := en Try.func50 (by kernel_rfl) (by kernel_rfl)
theorem GooK_fd_api_World_3 : Fd Try.prog 28 3 5 := fun _ _ _ => by kernel_rfl
theorem GooK_ag_S_int : Ag Try.prog 22 false := fun _ => by kernel_rfl
theorem GooK_fd_api_Cell_1 : Fd Try.prog 37 1 1 := fun _ _ _ => by kernel_rfl
theorem GooK_fd_api_Field_0 : Fd Try.prog 24 0 0 := fun _ _ _ => by kernel_rfl
theorem GooK_fd_api_Cell_0 : Fd Try.prog 37 0 0 := fun _ _ _ => by kernel_rfl
theorem GooK_sz_int : Sz Try.prog 3 1 := fun _ => by kernel_rfl
/-- What a deed leaves: a shop; no block turns that isn't the shop's. -/
def ShopPost (W : Wd) (V : Option Wd) (w : World) (Z S : Nat) (a : Wd.At) (e : Ending) (w' : World) : Prop :=
  ∃ a', e = .returned (.bool V.isSome) ∧ Shop w' Z S a' (V.getD W) ∧ (∀ q ∈ WOwn.foot a', q ∈ WOwn.foot a ∨ w.heap.size ≤ q) ∧ Mod (S :: WOwn.foot a) w w'
theorem WOwn.setM {w w1 : World} {Z : Nat} {a : Wd.At} {W : Wd} {l : List Int} (h : WOwn w Z a W) (m : Mod (Rep.blkOf a.M) w w1) (hM : repI.SOwn 3 8 w1 Z (Rep.blkOf a.M) a.M a.m l) : WOwn w1 Z a { W with mines := l } := by
  obtain ⟨d1, d2, d3⟩ := h.disj
  exact ⟨h.P.mod m fun x hx hs => (d1 x hs).1 hx, h.B.mod m fun x hx hs => (d1 x hs).2.1 hx, h.S.mod m fun x hx hs => (d1 x hs).2.2.1 hx, hM, h.T.mod m fun x hx hs => (d1 x hs).2.2.2 hx, h.apart, h.nums⟩
theorem WOwn.setT {w w1 : World} {Z : Nat} {a : Wd.At} {W : Wd} {l : List Trp} (h : WOwn w Z a W) (m : Mod (Rep.blkOf a.T) w w1) (hT : Trp.rep.SOwn 39 56 w1 Z (Rep.blkOf a.T) a.T a.t l) : WOwn w1 Z a { W with troops := l } := by
  obtain ⟨d1, d2, d3⟩ := h.disj
  exact ⟨h.P.mod m fun x hx hs => (d2 x hs).1 hx, h.B.mod m fun x hx hs => (d2 x hs).2.1 hx, h.S.mod m fun x hx hs => (d2 x hs).2.2.1 hx, h.M.mod m fun x hx hs => (d2 x hs).2.2.2 hx, hT, h.apart, h.nums⟩
theorem trOf_some {w : World} {Z : Nat} {a : Wd.At} {W : Wd} {id : Int} {k : Nat} (h : WOwn w Z a W) (hf : W.troops.findIdx? (isId id) = some k) : trOf a W id = some ⟨bA a.T, oA a.T + k * 7, none⟩ := by
  obtain ⟨t, ht, _⟩ := findId hf
  have hT : Trp.rep.SOwn 39 56 w Z (Rep.blkOf a.T) a.T a.t W.troops := h.T
  obtain ⟨g, hg⟩ := hT.block (by have := (List.getElem?_eq_some_iff.1 ht).1; omega)
  unfold trOf trAt
  rw [hf, hg]
  simp [bA, oA]
theorem trOf_none {a : Wd.At} {W : Wd} {id : Int} (hf : W.troops.findIdx? (isId id) = none) : trOf a W id = none := by unfold trOf; rw [hf]
theorem atE_zero {f : Fld} {c : Cel} (h : f.chk = 0) (he : f.atE c = 0) : f.isIn c = true := by
  cases hi : f.isIn c with
  | true => rfl
  | false => rw [(Fld.at_out h hi).1] at he; omega
theorem mine_none {W : Wd} {d : Ded} (hf : W.troops.findIdx? (isId d.who) = none) : W.mine d = none := by unfold Wd.mine; rw [hf]
theorem mine_no {W : Wd} {d : Ded} {k : Nat} {t : Trp} (hf : W.troops.findIdx? (isId d.who) = some k) (ht : W.troops[k]? = some t) (h : ((t.kind != 1 || decide (5 ≤ t.load)) || !beside t.spot d.spot) = true) : W.mine d = none := by
  rw [mine_eq hf ht, if_neg]
  intro hc
  simp only [Bool.and_eq_true, decide_eq_true_eq, beq_iff_eq] at hc
  simp only [hc.1.1.2, hc.1.1.1.1, Bool.or_eq_true, bne_self_eq_false, decide_eq_true_eq, Bool.not_true, Bool.false_eq_true, or_false, false_or] at h
  omega
theorem mine_out {W : Wd} {d : Ded} {k : Nat} {t : Trp} (hf : W.troops.findIdx? (isId d.who) = some k) (ht : W.troops[k]? = some t) (hF : W.field.chk = 0) (h : ¬ W.field.atE d.spot = 0) : W.mine d = none := by
  rw [mine_eq hf ht, if_neg]
  intro hc
  simp only [Bool.and_eq_true] at hc
  exact h (Fld.at_in hF hc.1.2).1
theorem mine_zero {W : Wd} {d : Ded} {k : Nat} {t : Trp} {m : Int} (hf : W.troops.findIdx? (isId d.who) = some k) (ht : W.troops[k]? = some t) (hm : W.mines.getD (W.place d.spot) 0 = m) (h : m = 0) : W.mine d = none := by
  rw [mine_eq hf ht, hm, h, if_neg (by simp)]
theorem mine_done {W : Wd} {d : Ded} {k : Nat} {t : Trp} {m : Int} (hf : W.troops.findIdx? (isId d.who) = some k) (ht : W.troops[k]? = some t) (hk : t.kind = 1) (hl : t.load < 5) (hb : beside t.spot d.spot = true) (hin : W.field.isIn d.spot = true) (hm : W.mines.getD (W.place d.spot) 0 = m) (h : ¬ m = 0) :
    W.mine d = some { W with mines := W.mines.set (W.place d.spot) (m - 1), troops := W.troops.set k (Wd.addLoad t 1) } := by
  rw [mine_eq hf ht, hm, if_pos]
  simp [hk, hl, hb, hin, h]
set_option maxRecDepth 100000 in
set_option maxHeartbeats 400000 in
theorem mine2_none (d : Ded) (w : World) (Z S : Nat) (a : Wd.At) (W : Wd) (h : Shop w Z S a W) (hG : Good W) (hf : W.troops.findIdx? (isId d.who) = none) :
    Calls Try.prog 65 #[.pointer (some ⟨S, 0, none⟩), .agg #[.int .i64 d.kind, .int .i64 d.who, .int .i64 d.spot.x, .int .i64 d.spot.y, .int .i64 d.what]] w (ShopPost W (W.mine d) w Z S a) := by
  have hsl := hG.sl
  have hml := hG.ml
  have hlow := h.low
  have hZ : Z ≤ w.heap.size := by have := h.low; have := h.blk.lt; omega
  have hfar := h.far
  have q0 := h.blk.lt
  have BS := h.blk
  have HO := h.own
  have dS : ∀ q ∈ WOwn.foot a, q = S → False := fun q hq hb => hfar (hb ▸ hq)
  have u_1 := fun q hq => (HO.lt q hq).2
  have htr := trOf_none (a := a) hf
  refine calls_W (n := 88) Try.func65 rfl rfl rfl ?_
  refine sq <| rg <| bx rfl rfl rfl rfl fun w_2 b_3 x_4 l_5 B_6 => ?_
  have q_7 := x_4.size
  have z_2 := (Mod.rf (S :: WOwn.foot a) w).trans (Mod.of_ext x_4)
  have q_8 := B_6.lt
  refine vl (as_ rfl) rfl <| nl <| nT <| sq <| rg <| vl (mv rfl) rfl <| vl (fa GooK_fd_api_Deed_1 rfl) rfl <| vl (ld rfl (B_6.one GooK_ag_int rfl)) rfl <| ?_
  have BS := BS.later x_4
  have HO := HO.later x_4
  refine ca GooK_en__P_goods_shop__troop rfl rfl (((htr ▸ shopTroop d.who _ Z S a W ⟨BS, HO, hfar, hlow⟩)).mono ?_)
  rintro e w_9 ⟨rfl, x_10⟩
  refine ⟨_, rfl, ?_⟩
  have q_11 := x_10.size
  have z_9 := z_2.trans (Mod.of_ext x_10)
  refine vl (as_ rfl) rfl <| nl <| nT <| sq <| sq <| ?_
  refine rd [(6, 0), (13, 0), (20, 0), (22, 0), (23, 0)] [0, 1, 2, 3, 4, 5, 6, 7, 8, 9, 10, 11, 12, 13, 14, 15, 16, 17, 18, 19, 20, 21, 22, 23, 24, 25] (by kernel_rfl) (by kernel_rfl) ?_
  refine fw rfl rfl (fun _ => mv rfl) rfl <| fw rfl rfl (fun _ => bpN Try.underlying119 rfl rfl) rfl <| fw rfl rfl (fun _ => mv rfl) rfl <| fW (v := undef) rfl rfl rfl rfl rfl rfl (fun hc => nomatch hc) rfl <| fW (v := undef) rfl rfl rfl rfl rfl rfl (fun hc => nomatch hc) rfl <| fW (v := undef) rfl rfl rfl rfl rfl rfl (fun hc => nomatch hc) rfl <| fQ (v := undef) rfl rfl rfl rfl rfl rfl (fun hc => nomatch hc) rfl <| fW (v := undef) rfl rfl rfl rfl rfl rfl (fun hc => nomatch hc) rfl <| fw rfl rfl (fun _ => pkT rfl rfl) rfl <| fw rfl rfl (fun _ => mv rfl) rfl <| fW (v := undef) rfl rfl rfl rfl rfl rfl (fun hc => nomatch hc) rfl <| fW (v := undef) rfl rfl rfl rfl rfl rfl (fun hc => nomatch hc) rfl <| fW (v := undef) rfl rfl rfl rfl rfl rfl (fun hc => nomatch hc) rfl <| fQ (v := undef) rfl rfl rfl rfl rfl rfl (fun hc => nomatch hc) rfl <| fW (v := undef) rfl rfl rfl rfl rfl rfl (fun hc => nomatch hc) rfl <| fw rfl rfl (fun _ => pkT rfl rfl) rfl <| fw rfl rfl (fun _ => mv rfl) rfl <| fW (v := undef) rfl rfl rfl rfl rfl rfl (fun hc => nomatch hc) rfl <| fW (v := undef) rfl rfl rfl rfl rfl rfl (fun hc => nomatch hc) rfl <| fW (v := undef) rfl rfl rfl rfl rfl rfl (fun hc => nomatch hc) rfl <| fQ (v := undef) rfl rfl rfl rfl rfl rfl (fun hc => nomatch hc) rfl <| fW (v := undef) rfl rfl rfl rfl rfl rfl (fun hc => nomatch hc) rfl <| fQ (v := undef) rfl rfl rfl rfl rfl rfl (fun hc => nomatch hc) rfl <| fC (v := undef) (args := []) rfl rfl rfl rfl rfl rfl GooK_en_goods_beside (fun hc => nomatch hc) (fun hc => nomatch hc) rfl <| ?_
  refine fW (v := undef) rfl rfl rfl rfl rfl rfl (fun hc => nomatch hc) rfl <| fw rfl rfl (fun _ => pkT rfl rfl) rfl <| fn fun w_12 x_13 => ?_
  have q_14 := x_13.size
  have z_12 := z_9.trans (Mod.of_ext x_13)
  refine nT <| cT rfl <| sq <| rg <| vl (as_ rfl) rfl <| nl <| nT <| rt <| tT <| tR (.tmp rfl .nil) <| ?_
  have HO := HO.later (Ext.tr x_10 x_13)
  have BS := BS.later (Ext.tr x_10 x_13)
  exact ⟨a, by rw [mine_none hf]; rfl, by rw [mine_none hf]; exact ⟨BS, HO, hfar, hlow⟩, fun q hq => .inl hq, z_12⟩
set_option maxRecDepth 100000 in
set_option maxHeartbeats 400000 in
theorem mine2 (d : Ded) (w : World) (Z S : Nat) (a : Wd.At) (W : Wd) (h : Shop w Z S a W) (hG : Good W) (k : Nat) (t : Trp) (hf : W.troops.findIdx? (isId d.who) = some k) (ht : W.troops[k]? = some t) :
    Calls Try.prog 65 #[.pointer (some ⟨S, 0, none⟩), .agg #[.int .i64 d.kind, .int .i64 d.who, .int .i64 d.spot.x, .int .i64 d.spot.y, .int .i64 d.what]] w (ShopPost W (W.mine d) w Z S a) := by
  have hsl := hG.sl
  have hml := hG.ml
  have hlow := h.low
  have hZ : Z ≤ w.heap.size := by have := h.low; have := h.blk.lt; omega
  have hfar := h.far
  have q0 := h.blk.lt
  have BS := h.blk
  have HO := h.own
  have dS : ∀ q ∈ WOwn.foot a, q = S → False := fun q hq hb => hfar (hb ▸ hq)
  have u_1 := fun q hq => (HO.lt q hq).2
  have htr := trOf_some HO hf
  have hT := hG.troops k t ht
  obtain ⟨i1, i2, i3, i4, i5, i6⟩ := Fld.idx hG.field (Fld.ground_in hT.ground)
  obtain ⟨y1, y2, y3, y4, _, _⟩ := Fld.good hG.field
  have hb1 : 0 ≤ t.spot.x := by omega
  have hb2 : t.spot.x ≤ 40 := by omega
  have hb3 : 0 ≤ t.spot.y := by omega
  have hb4 : t.spot.y ≤ 40 := by omega
  have hld := hT.load
  refine calls_W (n := 88) Try.func65 rfl rfl rfl ?_
  refine sq <| rg <| bx rfl rfl rfl rfl fun w_2 b_3 x_4 l_5 B_6 => ?_
  have q_7 := x_4.size
  have z_2 := (Mod.rf (S :: WOwn.foot a) w).trans (Mod.of_ext x_4)
  have q_8 := B_6.lt
  refine vl (as_ rfl) rfl <| nl <| nT <| sq <| rg <| vl (mv rfl) rfl <| vl (fa GooK_fd_api_Deed_1 rfl) rfl <| vl (ld rfl (B_6.one GooK_ag_int rfl)) rfl <| ?_
  have BS := BS.later x_4
  have HO := HO.later x_4
  refine ca GooK_en__P_goods_shop__troop rfl rfl (((htr ▸ shopTroop d.who _ Z S a W ⟨BS, HO, hfar, hlow⟩)).mono ?_)
  rintro e w_9 ⟨rfl, x_10⟩
  refine ⟨_, rfl, ?_⟩
  have q_11 := x_10.size
  have z_9 := z_2.trans (Mod.of_ext x_10)
  refine vl (as_ rfl) rfl <| nl <| nT <| sq <| sq <| ?_
  refine rd [(6, 0), (13, 0), (20, 0), (22, 0), (23, 0)] [0, 1, 2, 3, 4, 5, 6, 7, 8, 9, 10, 11, 12, 13, 14, 15, 16, 17, 18, 19, 20, 21, 22, 23, 24, 25] (by kernel_rfl) (by kernel_rfl) ?_
  refine fw rfl rfl (fun _ => mv rfl) rfl <| fw rfl rfl (fun _ => bpN Try.underlying119 rfl rfl) rfl <| fw rfl rfl (fun _ => mv rfl) rfl <| fW rfl rfl rfl rfl rfl rfl (fun hc _ => mv rfl) rfl <| fW rfl rfl rfl rfl rfl rfl (fun hc _ => nc rfl) rfl <| fW rfl rfl rfl rfl rfl rfl (fun hc _ => fa GooK_fd_api_Troop_2 rfl) rfl <| ?_
  have HO := HO.later x_10
  refine fQ rfl rfl rfl rfl rfl rfl (fun hc _ x => ld rfl (Rep.SHas.fld hcT (by rw [← (HO.later x).T.has.adr (Nat.zero_lt_of_lt (show k < _ from (by have := (List.getElem?_eq_some_iff.1 ht).1; exact this)))]; exact (HO.later x).T.has) 2 ht rfl GooK_ag_int)) rfl <| fW rfl rfl rfl rfl rfl rfl (fun hc _ => bne rfl rfl) rfl <| fw rfl rfl (fun _ => pkF rfl rfl) rfl <| fw rfl rfl (fun _ => mv rfl) rfl <| fW rfl rfl rfl rfl rfl rfl (fun hc _ => mv rfl) rfl <| fW rfl rfl rfl rfl rfl rfl (fun hc _ => nc (gt hc rfl)) rfl <| fW rfl rfl rfl rfl rfl rfl (fun hc _ => fa GooK_fd_api_Troop_5 (gt hc rfl)) rfl <| fQ rfl rfl rfl rfl rfl rfl (fun hc _ x => ld (gt hc rfl) (Rep.SHas.fld hcT (by rw [← (HO.later x).T.has.adr (Nat.zero_lt_of_lt (show k < _ from (by have := (List.getElem?_eq_some_iff.1 ht).1; exact this)))]; exact (HO.later x).T.has) 6 ht rfl GooK_ag_int)) rfl <| fW rfl rfl rfl rfl rfl rfl (fun hc _ => bge (gt hc rfl) rfl) rfl <| fw rfl rfl (fun _ => pO rfl rfl rfl rfl) rfl <| fw rfl rfl (fun _ => mv rfl) rfl <| fW rfl rfl rfl rfl rfl rfl (fun hc _ => mv rfl) rfl <| fW rfl rfl rfl rfl rfl rfl (fun hc _ => nc (gt hc rfl)) rfl <| fW rfl rfl rfl rfl rfl rfl (fun hc _ => fa GooK_fd_api_Troop_3 (gt hc rfl)) rfl <| fQ rfl rfl rfl rfl rfl rfl (fun hc _ x => ld (gt hc rfl) (Rep.SHas.part hcT (by rw [← (HO.later x).T.has.adr (Nat.zero_lt_of_lt (show k < _ from (by have := (List.getElem?_eq_some_iff.1 ht).1; exact this)))]; exact (HO.later x).T.has) 3 (ds := [.int .i64 t.spot.x, .int .i64 t.spot.y]) ht rfl GooK_ag_api_Cell GooK_sz_api_Cell)) rfl <| fW rfl rfl rfl rfl rfl rfl (fun hc _ => fa GooK_fd_api_Deed_2 rfl) rfl <| ?_
  have B_6 := B_6.later x_10
  refine fQ rfl rfl rfl rfl rfl rfl (fun hc _ x => ld (gt hc rfl) ((B_6.later x).par [.int .i64 d.spot.x, .int .i64 d.spot.y] GooK_ag_api_Cell GooK_sz_api_Cell rfl)) rfl <| fC rfl rfl rfl rfl rfl rfl GooK_en_goods_beside (fun hc => ec (gt hc rfl) (ec (gt hc rfl) rfl)) (fun hc _ x => beside_any t.spot d.spot _ hb1 hb2 hb3 hb4) rfl <| fW rfl rfl rfl rfl rfl rfl (fun hc _ => nt (gt hc rfl)) rfl <| fw rfl rfl (fun _ => pO rfl rfl rfl rfl) rfl <| fn fun w_12 x_13 => ?_
  have q_14 := x_13.size
  have z_12 := z_9.trans (Mod.of_ext x_13)
  refine nT <| ?_
  refine cb rfl (fun h_15 => ?_) (fun h_15 => ?_)
  · refine sq <| rg <| vl (as_ rfl) rfl <| nl <| nT <| rt <| tT <| tR (.tmp rfl .nil) <| ?_
    have HO := HO.later x_13
    have BS := BS.later (Ext.tr x_10 x_13)
    exact ⟨a, by rw [mine_no hf ht h_15]; rfl, by rw [mine_no hf ht h_15]; exact ⟨BS, HO, hfar, hlow⟩, fun q hq => .inl hq, z_12⟩
  · simp only [Bool.or_eq_false_iff, bne_eq_false_iff_eq, decide_eq_false_iff_not, Bool.not_eq_false', Int.not_le] at h_15
    obtain ⟨⟨hk, hl⟩, hbe⟩ := h_15
    refine sk <| nT <| sq <| sq <| ?_
    refine rd [(4, 0), (6, 0), (7, 0)] [0, 1, 2, 3, 4, 5, 6, 7, 8, 9, 10, 11, 12] (by kernel_rfl) (by kernel_rfl) ?_
    refine fw rfl rfl (fun _ => mv rfl) rfl <| fw rfl rfl (fun _ => nc rfl) rfl <| fw rfl rfl (fun _ => fa GooK_fd_goods_shop_0 rfl) rfl <| fw rfl rfl (fun _ => fa GooK_fd_api_World_0 rfl) rfl <| ?_
    have BS := BS.later (Ext.tr x_10 x_13)
    refine fq rfl rfl (fun _ x => ld rfl ((BS.later x).par [.int .i64 W.field.wide, .int .i64 W.field.high, .slice a.P W.field.places.length a.p] GooK_ag_api_Field GooK_sz_api_Field rfl)) rfl <| fw rfl rfl (fun _ => fa GooK_fd_api_Deed_2 rfl) rfl <| ?_
    have B_6 := B_6.later x_13
    refine fq rfl rfl (fun _ x => ld rfl ((B_6.later x).par [.int .i64 d.spot.x, .int .i64 d.spot.y] GooK_ag_api_Cell GooK_sz_api_Cell rfl)) rfl <| ?_
    have HO := HO.later x_13
    refine fc rfl rfl GooK_en_field_At rfl (fun _ x => fldAt2 W.field d.spot a.P a.p _ ((HO.later x).P).has) rfl <| fw rfl rfl (fun _ => mv rfl) rfl <| fw rfl rfl (fun _ => ex rfl rfl) rfl <| fw rfl rfl (fun _ => ex rfl rfl) rfl <| fw rfl rfl (fun _ => as_ rfl) rfl <| fw rfl rfl (fun _ => as_ rfl) rfl <| fn fun w_16 x_17 => ?_
    have q_18 := x_17.size
    have z_16 := z_12.trans (Mod.of_ext x_17)
    refine nT <| sq <| rg <| vl (mv rfl) rfl <| vl (bne rfl rfl) rfl <| nl <| nT <| ?_
    refine cne rfl (fun h_19 => ?_) (fun h_19 => ?_)
    · refine sq <| rg <| vl (as_ rfl) rfl <| nl <| nT <| rt <| tT <| tR (.tmp rfl .nil) <| ?_
      have HO := HO.later x_17
      have BS := BS.later x_17
      exact ⟨a, by rw [mine_out hf ht hG.field h_19]; rfl, by rw [mine_out hf ht hG.field h_19]; exact ⟨BS, HO, hfar, hlow⟩, fun q hq => .inl hq, z_16⟩
    · have hin := atE_zero hG.field h_19
      obtain ⟨x1, x2, x3, x4, x5, x6⟩ := Fld.idx hG.field hin
      have hpl := Fld.len_le hG.field
      obtain ⟨y1, y2, y3, y4, _, _⟩ := Fld.good hG.field
      have z1 : 0 ≤ d.spot.y * W.field.wide := Int.mul_nonneg x5 (by omega)
      have z2 : d.spot.y * W.field.wide ≤ 1600 := by omega
      have hpm : W.place d.spot < W.mines.length := by unfold Wd.place; omega
      obtain ⟨m, hm⟩ := get_of hpm
      have hmr := hG.mines _ m hm
      have hmg : W.mines.getD (W.place d.spot) 0 = m := by rw [List.getD_eq_getElem?_getD, hm]; rfl
      refine sk <| nT <| sq <| ?_
      refine rd [(4, 0), (7, 0), (13, 0), (17, 0)] [0, 1, 2, 3, 4, 5, 6, 7, 8, 9, 10, 11, 12, 13, 14, 15, 16, 17, 18, 19, 20] (by kernel_rfl) (by kernel_rfl) ?_
      refine fw rfl rfl (fun _ => mv rfl) rfl <| fw rfl rfl (fun _ => nc rfl) rfl <| fw rfl rfl (fun _ => fa GooK_fd_goods_shop_0 rfl) rfl <| fw rfl rfl (fun _ => fa GooK_fd_api_World_3 rfl) rfl <| ?_
      have BS := BS.later x_17
      refine fq rfl rfl (fun _ x => ld rfl ((BS.later x).one GooK_ag_S_int rfl)) rfl <| fw rfl rfl (fun _ => fa GooK_fd_api_Deed_2 rfl) rfl <| fw rfl rfl (fun _ => fa GooK_fd_api_Cell_1 rfl) rfl <| ?_
      have B_6 := B_6.later x_17
      refine fq rfl rfl (fun _ x => ld rfl ((B_6.later x).one GooK_ag_int rfl)) rfl <| fw rfl rfl (fun _ => mv rfl) rfl <| fw rfl rfl (fun _ => nc rfl) rfl <| fw rfl rfl (fun _ => fa GooK_fd_goods_shop_0 rfl) rfl <| fw rfl rfl (fun _ => fa GooK_fd_api_World_0 rfl) rfl <| fw rfl rfl (fun _ => fa GooK_fd_api_Field_0 rfl) rfl <| fq rfl rfl (fun _ x => ld rfl ((BS.later x).one GooK_ag_int rfl)) rfl <| fw rfl rfl (fun _ => bmu rfl rfl (inI (by omega))) rfl <| fw rfl rfl (fun _ => fa GooK_fd_api_Deed_2 rfl) rfl <| fw rfl rfl (fun _ => fa GooK_fd_api_Cell_0 rfl) rfl <| fq rfl rfl (fun _ x => ld rfl ((B_6.later x).one GooK_ag_int rfl)) rfl <| fw rfl rfl (fun _ => bad rfl rfl (inI (by omega))) rfl <| ?_
      have HO := HO.later x_17
      refine fw rfl rfl (fun _ => iA (((d.spot.y * W.field.wide) + d.spot.x).toNat) Try.underlying22 GooK_sz_int rfl rfl (HO.M.has.adr (Nat.zero_lt_of_lt (show ((d.spot.y * W.field.wide) + d.spot.x).toNat < _ from (show (d.spot.y * W.field.wide + d.spot.x).toNat < W.mines.length by omega)))) (by omega) (show (d.spot.y * W.field.wide + d.spot.x).toNat < W.mines.length by omega)) rfl <| fw rfl rfl (fun _ => as_ rfl) rfl <| fn fun w_20 x_21 => ?_
      have q_22 := x_21.size
      have z_20 := z_16.trans (Mod.of_ext x_21)
      refine nT <| sq <| sq <| rg <| vl (mv rfl) rfl <| vl (nc rfl) rfl <| ?_
      have HO := HO.later x_21
      refine vl (ld rfl (Rep.SHas.one' hcI (by rw [← HO.M.has.adr (Nat.zero_lt_of_lt (show ((d.spot.y * W.field.wide) + d.spot.x).toNat < _ from (show (d.spot.y * W.field.wide + d.spot.x).toNat < W.mines.length by omega)))]; exact HO.M.has) hm rfl GooK_ag_int)) rfl <| vl (beq rfl rfl) rfl <| nl <| nT <| ?_
      refine ceq rfl (fun h_23 => ?_) (fun h_23 => ?_)
      · refine sq <| rg <| vl (as_ rfl) rfl <| nl <| nT <| rt <| tT <| tR (.tmp rfl .nil) <| ?_
        have BS := BS.later x_21
        exact ⟨a, by rw [mine_zero hf ht hmg h_23]; rfl, by rw [mine_zero hf ht hmg h_23]; exact ⟨BS, HO, hfar, hlow⟩, fun q hq => .inl hq, z_20⟩
      · refine sk <| nT <| sq <| rg <| vl (mv rfl) rfl <| vl (nc rfl) rfl <| vl (ld rfl (Rep.SHas.one' hcI (by rw [← HO.M.has.adr (Nat.zero_lt_of_lt (show ((d.spot.y * W.field.wide) + d.spot.x).toNat < _ from (show (d.spot.y * W.field.wide + d.spot.x).toNat < W.mines.length by omega)))]; exact HO.M.has) hm rfl GooK_ag_int)) rfl <| vl (bsu rfl rfl (inI (by omega))) rfl <| vl (nc rfl) rfl <| so (q' := m - 1) (j := 0) (i := ((d.spot.y * W.field.wide) + d.spot.x).toNat) HO.M Rep.flat_bare hm rfl rfl rfl rfl (fun _ cs h => by have ok_ := (show _ ∧ _ from h).2; obtain rfl := hcI h; exact ⟨rfl, okI_iff.2 (by omega)⟩) rfl rfl GooK_sz_int fun w_24 m_25 O_26 => ?_
        have BS := BS.later x_21
        have B_6 := B_6.later x_21
        have q_27 := m_25.size
        have z_24 := z_20.md m_25 (fun q hq => .inl (List.mem_cons_of_mem _ (foot_M hq)))
        have HO_28 := HO.setM m_25 O_26
        have u_29 := fun q hq => (HO_28.lt q hq).2
        have d_30 : ∀ q ∈ Rep.blkOf a.M, q = S → False := fun q hq hb => by (exact dS q (foot_M hq) hb)
        have BS := BS.mod m_25 (fun hq => d_30 _ hq rfl)
        refine nl <| nT <| sq <| rg <| vl (mv rfl) rfl <| vl (nc rfl) rfl <| vl (fa GooK_fd_api_Troop_5 rfl) rfl <| vl (ld rfl (Rep.SHas.fld hcT (by rw [← HO_28.T.has.adr (Nat.zero_lt_of_lt (show k < _ from (by have := (List.getElem?_eq_some_iff.1 ht).1; exact this)))]; exact HO_28.T.has) 6 ht rfl GooK_ag_int)) rfl <| vl (bad rfl rfl (inI (by omega))) rfl <| vl (nc rfl) rfl <| vl (fa GooK_fd_api_Troop_5 rfl) rfl <| so (q' := Wd.addLoad t 1) (j := 6) (i := k) HO_28.T Rep.flat_bare ht rfl rfl rfl rfl (fun _ cs h => by have ok_ := (show _ ∧ _ from h).2; obtain rfl := hcT h; exact ⟨rfl, by obtain ⟨o1, o2, o3, o4, o5, o6, o7⟩ := ok_; exact ⟨o1, o2, o3, o4, o5, o6, okI_iff.2 (by show _ ≤ t.load + 1 ∧ t.load + 1 ≤ _; omega)⟩⟩) rfl rfl GooK_sz_int fun w_31 m_32 O_33 => ?_
        have d_34 : ∀ q ∈ Rep.blkOf a.M, q = b_3 → False := fun q hq hb => by (have := u_1 q (foot_M hq); omega)
        have B_6 := B_6.mod m_25 (fun hq => d_34 _ hq rfl)
        have q_35 := m_32.size
        have z_31 := z_24.md m_32 (fun q hq => .inl (List.mem_cons_of_mem _ (foot_T hq)))
        have HO_36 := HO_28.setT m_32 O_33
        have u_37 := fun q hq => (HO_36.lt q hq).2
        have d_38 : ∀ q ∈ Rep.blkOf a.T, q = S → False := fun q hq hb => by (exact dS q (foot_T hq) hb)
        have BS := BS.mod m_32 (fun hq => d_38 _ hq rfl)
        refine nl <| nT <| sq <| rg <| vl (as_ rfl) rfl <| nl <| nT <| rt <| tR (.tmp rfl .nil) <| ?_
        rw [mine_done hf ht hk hl hbe hin hmg (by assumption)]
        exact ⟨a, rfl, ⟨by simpa [Wd.cells] using BS, HO_36, hfar, hlow⟩, fun q hq => .inl hq, z_31⟩
end Go.Proofs.Yticfnngppcmidaa
