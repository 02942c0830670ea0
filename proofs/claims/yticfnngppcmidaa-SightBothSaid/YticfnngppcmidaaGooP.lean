/-
  A troop is hired. (Printed by bin/gooP.py.)
-/
import Derived.Test.YticfnngppcmidaaGooI
import Derived.Test.YticfnngppcmidaaGooK
set_option linter.unusedVariables false
set_option linter.unusedSimpArgs false
namespace Go.Proofs.Yticfnngppcmidaa
open Go.RowKit

theorem GooP_fd_api_Deed_3 : Fd Try.prog 45 3 4 := fun _ _ _ => by kernel_rfl
theorem GooP_ag_int : Ag Try.prog 3 false := fun _ => by kernel_rfl
theorem GooP_en_troop_Kind : Enters Try.prog 35 := en Try.func35 (by kernel_rfl) (by kernel_rfl)
theorem GooP_zv_api_Kind : Zv Try.prog 64 (.agg #[.int .i64 0, .int .i64 0, .int .i64 0, .int .i64 0]) := fun _ => by kernel_rfl
theorem GooP_sz_api_Kind : Sz Try.prog 64 4 := fun _ => by kernel_rfl
theorem GooP_fd_api_Deed_1 : Fd Try.prog 45 1 1 := fun _ _ _ => by kernel_rfl
theorem GooP_fd_goods_shop_0 : Fd Try.prog 91 0 0 := fun _ _ _ => by kernel_rfl
theorem GooP_fd_api_World_1 : Fd Try.prog 28 1 3 := fun _ _ _ => by kernel_rfl
theorem GooP_ag_S_api_Cell : Ag Try.prog 25 false := fun _ => by kernel_rfl
theorem GooP_fd_api_World_2 : Fd Try.prog 28 2 4 := fun _ _ _ => by kernel_rfl
theorem GooP_ag_S_int : Ag Try.prog 22 false := fun _ => by kernel_rfl
theorem GooP_sz_int : Sz Try.prog 3 1 := fun _ => by kernel_rfl
theorem GooP_fd_api_Kind_3 : Fd Try.prog 64 3 3 := fun _ _ _ => by kernel_rfl
theorem GooP_fd_api_World_4 : Fd Try.prog 28 4 6 := fun _ _ _ => by kernel_rfl
theorem GooP_ag_S_api_Troop : Ag Try.prog 26 false := fun _ => by kernel_rfl
theorem GooP_fd_api_World_5 : Fd Try.prog 28 5 7 := fun _ _ _ => by kernel_rfl
theorem GooP_sz_api_Cell : Sz Try.prog 37 2 := fun _ => by kernel_rfl
theorem GooP_ag_api_Cell : Ag Try.prog 37 true := fun _ => by kernel_rfl
theorem GooP_en__P_goods_shop__free : Enters Try.prog 81 := en Try.func81 (by kernel_rfl) (by kernel_rfl)
theorem GooP_zv_api_Cell : Zv Try.prog 37 (.agg #[.int .i64 0, .int .i64 0]) := fun _ => by kernel_rfl
theorem GooP_fd_api_Kind_0 : Fd Try.prog 64 0 0 := fun _ _ _ => by kernel_rfl
theorem GooP_el_S_api_Troop : ElT Try.prog Trp.rep 26 39 56 := ElT.mk_ (z := Trp.zero) (k := 7) Try.underlying26 Trp.info rfl rfl (by decide) Trp.zero_raw
theorem GooP_sz_S_api_Troop : Sz Try.prog 26 1 := fun _ => by kernel_rfl
theorem price_le (k : Int) : 0 ≤ Wd.priceOf k ∧ Wd.priceOf k ≤ 12 := by unfold Wd.priceOf; split <;> (try split) <;> omega
theorem life_le (k : Int) : 0 ≤ Wd.lifeOf k ∧ Wd.lifeOf k ≤ 20 := by unfold Wd.lifeOf; split <;> (try split) <;> omega
theorem kindE_ok {k : Int} : (kindE k != 0) = !inB k 1 2 := by
  unfold kindE
  by_cases h1 : k = 1
  · subst h1; rfl
  · by_cases h2 : k = 2
    · subst h2; rfl
    · rw [if_neg h1, if_neg h2, inB_not (by omega)]; rfl
theorem hire_guard {W : Wd} {d : Ded} (hG : Good W) (h : (((((decide (d.who < 0) || decide ((W.bases.length : Int) ≤ d.who)) || kindE d.what != 0) || decide (W.stocks.getD d.who.toNat 0 < Wd.priceOf d.what)) || decide (100 ≤ (W.troops.length : Int))) || decide (1000000 ≤ W.next)) = false) :
    0 ≤ d.who ∧ d.who < (W.bases.length : Int) ∧ inB d.what 1 2 = true ∧ Wd.priceOf d.what ≤ W.stocks.getD d.who.toNat 0 ∧ W.troops.length < 100 ∧ W.next < 1000000 := by
  simp only [Bool.or_eq_false_iff, decide_eq_false_iff_not, kindE_ok, Bool.not_eq_false'] at h
  obtain ⟨⟨⟨⟨⟨h1, h2⟩, h3⟩, h4⟩, h5⟩, h6⟩ := h
  exact ⟨by omega, by omega, h3, by omega, by omega, by omega⟩
theorem hire_no {W : Wd} {d : Ded} (hG : Good W) (h : (((((decide (d.who < 0) || decide ((W.bases.length : Int) ≤ d.who)) || kindE d.what != 0) || decide (W.stocks.getD d.who.toNat 0 < Wd.priceOf d.what)) || decide (100 ≤ (W.troops.length : Int))) || decide (1000000 ≤ W.next)) = true) : W.hire d = none := by
  unfold Wd.hire
  rw [if_neg]
  intro hc
  simp only [Bool.and_eq_true, decide_eq_true_eq] at hc
  obtain ⟨⟨⟨⟨c1, c2⟩, c3⟩, c4⟩, c5⟩ := hc
  have c1 := inB_true c1
  simp only [kindE_ok, c2, Bool.or_eq_true, decide_eq_true_eq, Bool.not_true, Bool.false_eq_true, or_false] at h
  omega
theorem hire_cond {W : Wd} {d : Ded} (h1 : 0 ≤ d.who) (h2 : d.who < (W.bases.length : Int)) (h3 : inB d.what 1 2 = true) (h4 : Wd.priceOf d.what ≤ W.stocks.getD d.who.toNat 0) (h5 : W.troops.length < 100) (h6 : W.next < 1000000) :
    (inB d.who 0 ((W.bases.length : Int) - 1) && inB d.what 1 2 && decide (Wd.priceOf d.what ≤ W.stocks.getD d.who.toNat 0) && decide (W.troops.length < 100) && decide (W.next < 1000000)) = true := by
  rw [inB_mk h1 (by omega), h3, decide_eq_true h4, decide_eq_true h5, decide_eq_true h6]; rfl
theorem hire_none {W : Wd} {d : Ded} (h1 : 0 ≤ d.who) (h2 : d.who < (W.bases.length : Int)) (h3 : inB d.what 1 2 = true) (h4 : Wd.priceOf d.what ≤ W.stocks.getD d.who.toNat 0) (h5 : W.troops.length < 100) (h6 : W.next < 1000000) (h : (!(W.free (W.bases.getD d.who.toNat default)).isSome) = true) : W.hire d = none := by
  unfold Wd.hire
  simp only [hire_cond h1 h2 h3 h4 h5 h6, if_true]
  rw [Bool.not_eq_true', Option.isSome_eq_false_iff, Option.isNone_iff_eq_none] at h
  rw [h]
theorem hire_done {W : Wd} {d : Ded} {c : Cel} (h1 : 0 ≤ d.who) (h2 : d.who < (W.bases.length : Int)) (h3 : inB d.what 1 2 = true) (h4 : Wd.priceOf d.what ≤ W.stocks.getD d.who.toNat 0) (h5 : W.troops.length < 100) (h6 : W.next < 1000000) (hc : (W.free (W.bases.getD d.who.toNat default)).getD ⟨0, 0⟩ = c) (h : (!(W.free (W.bases.getD d.who.toNat default)).isSome) = false) :
    W.hire d = some { W with troops := W.troops ++ [⟨W.next, d.who, d.what, c, Wd.lifeOf d.what, 0⟩], next := W.next + 1, stocks := W.stocks.set d.who.toNat (W.stocks.getD d.who.toNat 0 - Wd.priceOf d.what) } := by
  unfold Wd.hire
  simp only [hire_cond h1 h2 h3 h4 h5 h6, if_true]
  cases hf : W.free (W.bases.getD d.who.toNat default) with
  | none => rw [hf] at h; cases h
  | some c' => rw [hf] at hc; obtain rfl : c' = c := hc; rfl
theorem hire_base {W : Wd} {d : Ded} (hG : Good W) (h1 : 0 ≤ d.who) (h2 : d.who < (W.bases.length : Int)) : (0 ≤ (W.bases.getD d.who.toNat default).x ∧ (W.bases.getD d.who.toNat default).x ≤ 100 ∧ 0 ≤ (W.bases.getD d.who.toNat default).y ∧ (W.bases.getD d.who.toNat default).y ≤ 100) ∧ d.who.toNat < W.bases.length := by
  have hlt : d.who.toNat < W.bases.length := by omega
  have := (hG.bases _ _ (get_d (u := default) hlt)).1
  obtain ⟨i1, i2, i3, i4, i5, i6⟩ := Fld.idx hG.field (Fld.ground_in this)
  obtain ⟨y1, y2, y3, y4, _, _⟩ := Fld.good hG.field
  exact ⟨⟨by omega, by omega, by omega, by omega⟩, hlt⟩
theorem free_cell {W : Wd} {p c : Cel} (hp : 0 ≤ p.x ∧ p.x ≤ 100 ∧ 0 ≤ p.y ∧ p.y ≤ 100) (hc : (W.free p).getD ⟨0, 0⟩ = c) : -1 ≤ c.x ∧ c.x ≤ 101 ∧ -1 ≤ c.y ∧ c.y ≤ 101 := by
  cases hf : W.free p with
  | none => rw [hf] at hc; subst hc; decide
  | some q =>
    rw [hf] at hc
    obtain rfl : q = c := hc
    have := List.mem_of_find?_eq_some hf
    simp only [Wd.around, List.mem_cons, List.not_mem_nil, or_false] at this
    rcases this with rfl | rfl | rfl | rfl | rfl | rfl | rfl | rfl | rfl | rfl <;> (try dsimp only) <;> omega
set_option maxRecDepth 100000 in
set_option maxHeartbeats 400000 in
theorem hire2 (d : Ded) (w : World) (Z S : Nat) (a : Wd.At) (W : Wd) (h : Shop w Z S a W) (hG : Good W) :
    Calls Try.prog 67 #[.pointer (some ⟨S, 0, none⟩), .agg #[.int .i64 d.kind, .int .i64 d.who, .int .i64 d.spot.x, .int .i64 d.spot.y, .int .i64 d.what]] w (ShopPost W (W.hire d) w Z S a) := by
  have hsl := hG.sl
  have hlow := h.low
  have hZ : Z ≤ w.heap.size := by have := h.low; have := h.blk.lt; omega
  have hfar := h.far
  have q0 := h.blk.lt
  have BS := h.blk
  have HO := h.own
  have u_1 := fun q hq => (HO.lt q hq).2
  have dS : ∀ q ∈ WOwn.foot a, q = S → False := fun q hq hb => hfar (hb ▸ hq)
  refine calls_W (n := 126) Try.func67 rfl rfl rfl ?_
  refine sq <| rg <| bx rfl rfl rfl rfl fun w_2 b_3 x_4 l_5 B_6 => ?_
  have q_7 := x_4.size
  have z_2 := (Mod.rf (S :: WOwn.foot a) w).trans (Mod.of_ext x_4)
  have q_8 := B_6.lt
  refine vl (as_ rfl) rfl <| nl <| nT <| sq <| rg <| vl (fa GooP_fd_api_Deed_3 rfl) rfl <| vl (ld rfl (B_6.one GooP_ag_int rfl)) rfl <| ca GooP_en_troop_Kind rfl rfl ((kind_any d.what _).mono ?_)
  rintro e w_9 ⟨rfl, x_10⟩
  refine ⟨_, rfl, ?_⟩
  have q_11 := x_10.size
  have z_9 := z_2.trans (Mod.of_ext x_10)
  refine vl (mv rfl) rfl <| vl (ex rfl rfl) rfl <| vl (ex rfl rfl) rfl <| al rfl GooP_zv_api_Kind rfl rfl fun w_12 b_13 x_14 l_15 B_16 => ?_
  have q_17 := x_14.size
  have z_12 := z_9.trans (Mod.of_ext x_14)
  have q_18 := B_16.lt
  refine st (new := [.int .i64 (Wd.lifeOf d.what), .int .i64 (reachOf d.what), .int .i64 (harmOf d.what), .int .i64 (Wd.priceOf d.what)]) rfl rfl B_16 rfl GooP_sz_api_Kind rfl rfl rfl fun w_19 m_20 B_16 => ?_
  have q_22 := m_20.size
  have z_19 := z_12.md m_20 (fun q hq => .inr (by have := List.mem_singleton.1 hq; omega))
  have q_21 := m_20.size
  refine vl (as_ rfl) rfl <| nl <| nT <| sq <| sq <| ?_
  refine rd [(1, 0), (5, 0), (10, 0), (23, 0), (25, 0), (27, 0), (29, 0), (37, 0), (46, 0)] [0, 1, 2, 3, 4, 5, 6, 7, 8, 9, 10, 11, 12, 13, 14, 15, 16, 17, 18, 19, 20, 21, 22, 23, 24, 25, 26, 27, 28, 29, 30, 31, 32, 33, 34, 35, 36, 37, 38, 39, 40, 41, 42, 43, 44, 45, 46, 47, 48] (by kernel_rfl) (by kernel_rfl) ?_
  refine fw rfl rfl (fun _ => fa GooP_fd_api_Deed_1 rfl) rfl <| ?_
  have B_6 := B_6.later (Ext.tr x_10 x_14)
  have B_6 := B_6.mod m_20 (by simp only [List.mem_singleton]; omega)
  refine fq rfl rfl (fun _ x => ld rfl ((B_6.later x).one GooP_ag_int rfl)) rfl <| fw rfl rfl (fun _ => blt rfl rfl) rfl <| fw rfl rfl (fun _ => mv rfl) rfl <| fW rfl rfl rfl rfl rfl rfl (fun hc _ => fa GooP_fd_api_Deed_1 rfl) rfl <| fQ rfl rfl rfl rfl rfl rfl (fun hc _ x => ld (gt hc rfl) ((B_6.later x).one GooP_ag_int rfl)) rfl <| fW rfl rfl rfl rfl rfl rfl (fun hc _ => mv rfl) rfl <| fW rfl rfl rfl rfl rfl rfl (fun hc _ => nc (gt hc rfl)) rfl <| fW rfl rfl rfl rfl rfl rfl (fun hc _ => fa GooP_fd_goods_shop_0 (gt hc rfl)) rfl <| fW rfl rfl rfl rfl rfl rfl (fun hc _ => fa GooP_fd_api_World_1 (gt hc rfl)) rfl <| ?_
  have BS := BS.later (Ext.tr x_4 (Ext.tr x_10 x_14))
  have BS := BS.mod m_20 (by simp only [List.mem_singleton]; omega)
  refine fQ rfl rfl rfl rfl rfl rfl (fun hc _ x => ld (gt hc rfl) ((BS.later x).one GooP_ag_S_api_Cell rfl)) rfl <| fW rfl rfl rfl rfl rfl rfl (fun hc _ => ln Try.underlying25 (gt hc rfl)) rfl <| fW rfl rfl rfl rfl rfl rfl (fun hc _ => bge (gt hc rfl) (gt hc rfl)) rfl <| fw rfl rfl (fun _ => pO rfl rfl rfl rfl) rfl <| fw rfl rfl (fun _ => mv rfl) rfl <| fW rfl rfl rfl rfl rfl rfl (fun hc _ => mv rfl) rfl <| fW rfl rfl rfl rfl rfl rfl (fun hc _ => bne (gt hc rfl) rfl) rfl <| fw rfl rfl (fun _ => pO rfl rfl rfl rfl) rfl <| fw rfl rfl (fun _ => mv rfl) rfl <| fW rfl rfl rfl rfl rfl rfl (fun hc _ => mv rfl) rfl <| fW rfl rfl rfl rfl rfl rfl (fun hc _ => nc (gt hc rfl)) rfl <| fW rfl rfl rfl rfl rfl rfl (fun hc _ => fa GooP_fd_goods_shop_0 (gt hc rfl)) rfl <| fW rfl rfl rfl rfl rfl rfl (fun hc _ => fa GooP_fd_api_World_2 (gt hc rfl)) rfl <| fQ rfl rfl rfl rfl rfl rfl (fun hc _ x => ld (gt hc rfl) ((BS.later x).one GooP_ag_S_int rfl)) rfl <| fW rfl rfl rfl rfl rfl rfl (fun hc _ => fa GooP_fd_api_Deed_1 rfl) rfl <| fQ rfl rfl rfl rfl rfl rfl (fun hc _ x => ld (gt hc rfl) ((B_6.later x).one GooP_ag_int rfl)) rfl <| ?_
  have HO := HO.later (Ext.tr x_4 (Ext.tr x_10 x_14))
  have HO := HO.mod m_20 (fun q hq h => by have hb := List.mem_singleton.1 h; exfalso; (have := u_1 q hq; omega))
  refine fW rfl rfl rfl rfl rfl rfl (fun hc _ => iA d.who.toNat Try.underlying22 GooP_sz_int (gt hc rfl) (gt hc rfl) (HO.S.has.adr (Nat.zero_lt_of_lt (show d.who.toNat < _ from (by (try simp only [Bool.or_eq_true, Bool.or_eq_false_iff, Bool.and_eq_true, Bool.and_eq_false_iff, decide_eq_true_eq, decide_eq_false_iff_not, beq_iff_eq, bne_iff_ne, beq_eq_false_iff_ne, bne_eq_false_iff_eq, Bool.not_eq_true', Bool.not_eq_false', Bool.not_eq_true, Bool.not_eq_false, Int.not_lt, Int.not_le, Nat.not_lt, Nat.not_le, ne_eq, Classical.not_not] at hc); omega)))) (by (try simp only [Bool.or_eq_true, Bool.or_eq_false_iff, Bool.and_eq_true, Bool.and_eq_false_iff, decide_eq_true_eq, decide_eq_false_iff_not, beq_iff_eq, bne_iff_ne, beq_eq_false_iff_ne, bne_eq_false_iff_eq, Bool.not_eq_true', Bool.not_eq_false', Bool.not_eq_true, Bool.not_eq_false, Int.not_lt, Int.not_le, Nat.not_lt, Nat.not_le, ne_eq, Classical.not_not] at hc); omega) (by (try simp only [Bool.or_eq_true, Bool.or_eq_false_iff, Bool.and_eq_true, Bool.and_eq_false_iff, decide_eq_true_eq, decide_eq_false_iff_not, beq_iff_eq, bne_iff_ne, beq_eq_false_iff_ne, bne_eq_false_iff_eq, Bool.not_eq_true', Bool.not_eq_false', Bool.not_eq_true, Bool.not_eq_false, Int.not_lt, Int.not_le, Nat.not_lt, Nat.not_le, ne_eq, Classical.not_not] at hc); omega)) rfl <| fQ rfl rfl rfl rfl rfl rfl (fun hc _ x => ld (gt hc rfl) (Rep.SHas.one' hcI (by rw [← (HO.later x).S.has.adr (Nat.zero_lt_of_lt (show d.who.toNat < _ from (by (try simp only [Bool.or_eq_true, Bool.or_eq_false_iff, Bool.and_eq_true, Bool.and_eq_false_iff, decide_eq_true_eq, decide_eq_false_iff_not, beq_iff_eq, bne_iff_ne, beq_eq_false_iff_ne, bne_eq_false_iff_eq, Bool.not_eq_true', Bool.not_eq_false', Bool.not_eq_true, Bool.not_eq_false, Int.not_lt, Int.not_le, Nat.not_lt, Nat.not_le, ne_eq, Classical.not_not] at hc); omega)))]; exact (HO.later x).S.has) (get_d (l := W.stocks) (u := 0) (by (try simp only [Bool.or_eq_true, Bool.or_eq_false_iff, Bool.and_eq_true, Bool.and_eq_false_iff, decide_eq_true_eq, decide_eq_false_iff_not, beq_iff_eq, bne_iff_ne, beq_eq_false_iff_ne, bne_eq_false_iff_eq, Bool.not_eq_true', Bool.not_eq_false', Bool.not_eq_true, Bool.not_eq_false, Int.not_lt, Int.not_le, Nat.not_lt, Nat.not_le, ne_eq, Classical.not_not] at hc); omega)) rfl GooP_ag_int)) rfl <| fW rfl rfl rfl rfl rfl rfl (fun hc _ => fa GooP_fd_api_Kind_3 rfl) rfl <| fQ rfl rfl rfl rfl rfl rfl (fun hc _ x => ld (gt hc rfl) ((B_16.later x).one GooP_ag_int rfl)) rfl <| fW rfl rfl rfl rfl rfl rfl (fun hc _ => blt (gt hc rfl) (gt hc rfl)) rfl <| fw rfl rfl (fun _ => pO rfl rfl rfl rfl) rfl <| fw rfl rfl (fun _ => mv rfl) rfl <| fW rfl rfl rfl rfl rfl rfl (fun hc _ => mv rfl) rfl <| fW rfl rfl rfl rfl rfl rfl (fun hc _ => nc (gt hc rfl)) rfl <| fW rfl rfl rfl rfl rfl rfl (fun hc _ => fa GooP_fd_goods_shop_0 (gt hc rfl)) rfl <| fW rfl rfl rfl rfl rfl rfl (fun hc _ => fa GooP_fd_api_World_4 (gt hc rfl)) rfl <| fQ rfl rfl rfl rfl rfl rfl (fun hc _ x => ld (gt hc rfl) ((BS.later x).one GooP_ag_S_api_Troop rfl)) rfl <| fW rfl rfl rfl rfl rfl rfl (fun hc _ => ln Try.underlying26 (gt hc rfl)) rfl <| fW rfl rfl rfl rfl rfl rfl (fun hc _ => bge (gt hc rfl) rfl) rfl <| fw rfl rfl (fun _ => pO rfl rfl rfl rfl) rfl <| fw rfl rfl (fun _ => mv rfl) rfl <| fW rfl rfl rfl rfl rfl rfl (fun hc _ => mv rfl) rfl <| fW rfl rfl rfl rfl rfl rfl (fun hc _ => nc (gt hc rfl)) rfl <| fW rfl rfl rfl rfl rfl rfl (fun hc _ => fa GooP_fd_goods_shop_0 (gt hc rfl)) rfl <| fW rfl rfl rfl rfl rfl rfl (fun hc _ => fa GooP_fd_api_World_5 (gt hc rfl)) rfl <| fQ rfl rfl rfl rfl rfl rfl (fun hc _ x => ld (gt hc rfl) ((BS.later x).one GooP_ag_int rfl)) rfl <| fW rfl rfl rfl rfl rfl rfl (fun hc _ => bge (gt hc rfl) rfl) rfl <| fw rfl rfl (fun _ => pO rfl rfl rfl rfl) rfl <| fn fun w_23 x_24 => ?_
  have q_25 := x_24.size
  have z_23 := z_19.trans (Mod.of_ext x_24)
  refine nT <| ?_
  refine cb rfl (fun h_26 => ?_) (fun h_26 => ?_)
  · refine sq <| rg <| vl (as_ rfl) rfl <| nl <| nT <| rt <| tT <| tR (.tmp rfl .nil) <| ?_
    have BS := BS.later x_24
    have HO := HO.later x_24
    exact ⟨a, by rw [hire_no hG h_26]; rfl, by rw [hire_no hG h_26]; exact ⟨BS, HO, hfar, hlow⟩, fun q hq => .inl hq, z_23⟩
  · obtain ⟨h1, h2, h3, h4, h5, h6⟩ := hire_guard hG h_26
    obtain ⟨hbase, hlt⟩ := hire_base hG h1 h2
    have hst := hG.stocks _ _ (get_d (u := 0) (l := W.stocks) (j := d.who.toNat) (by omega))
    obtain ⟨c, hc⟩ : ∃ c, (W.free (W.bases.getD d.who.toNat default)).getD ⟨0, 0⟩ = c := ⟨_, rfl⟩
    have hpr := price_le d.what
    have hwh := inB_true h3
    have hnx := hG.next
    have hlen := hG.nt
    have hbl := hG.nb
    have hcb := free_cell hbase hc
    refine sk <| nT <| sq <| ?_
    refine rd [(5, 0), (7, 0), (9, 0), (10, 0), (14, 2), (15, 3)] [0, 1, 2, 3, 4, 5, 6, 7, 8, 9, 10, 11, 12, 13, 14, 15, 16] (by kernel_rfl) (by kernel_rfl) ?_
    refine fw rfl rfl (fun _ => mv rfl) rfl <| fw rfl rfl (fun _ => mv rfl) rfl <| fw rfl rfl (fun _ => nc rfl) rfl <| fw rfl rfl (fun _ => fa GooP_fd_goods_shop_0 rfl) rfl <| fw rfl rfl (fun _ => fa GooP_fd_api_World_1 rfl) rfl <| ?_
    have BS := BS.later x_24
    refine fq rfl rfl (fun _ x => ld rfl ((BS.later x).one GooP_ag_S_api_Cell rfl)) rfl <| fw rfl rfl (fun _ => fa GooP_fd_api_Deed_1 rfl) rfl <| ?_
    have B_6 := B_6.later x_24
    refine fq rfl rfl (fun _ x => ld rfl ((B_6.later x).one GooP_ag_int rfl)) rfl <| ?_
    have HO := HO.later x_24
    refine fw rfl rfl (fun _ => iA d.who.toNat Try.underlying25 GooP_sz_api_Cell rfl rfl (HO.B.has.adr (Nat.zero_lt_of_lt (show d.who.toNat < _ from (by omega)))) (by omega) (by omega)) rfl <| fq rfl rfl (fun _ x => ld rfl (Rep.SHas.elt hcC (by rw [← (HO.later x).B.has.adr (Nat.zero_lt_of_lt (show d.who.toNat < _ from (by omega)))]; exact (HO.later x).B.has) (get_d (l := W.bases) (u := default) (by omega)) GooP_ag_api_Cell GooP_sz_api_Cell)) rfl <| fc rfl rfl GooP_en__P_goods_shop__free rfl (fun _ x => free_any (W.bases.getD d.who.toNat default) _ Z S a W (⟨(BS.later x), (HO.later x), hfar, hlow⟩) hG hbase) rfl <| fw rfl rfl (fun _ => mv rfl) rfl <| fw rfl rfl (fun _ => ex rfl rfl) rfl <| fw rfl rfl (fun _ => ex rfl rfl) rfl <| fx rfl rfl rfl fun w_27 x_28 Q hK => al rfl GooP_zv_api_Cell rfl rfl fun w_29 b_30 x_31 l_32 B_33 => hK _ _ ⟨Ext.tr x_28 x_31, ?_⟩
    have q_34 := x_28.size
    have z_27 := z_23.trans (Mod.of_ext x_28)
    have q_35 := x_31.size
    have z_29 := z_27.trans (Mod.of_ext x_31)
    have q_36 := B_33.lt
    refine fb rfl rfl rfl fun w_37 x_38 Q hK => st rfl rfl (B_33.later x_38) rfl GooP_sz_api_Cell rfl rfl rfl fun w_39 m_40 B_33 => hK _ _ ?_
    have q_42 := x_38.size
    have z_37 := z_29.trans (Mod.of_ext x_38)
    have q_43 := m_40.size
    have z_39 := z_37.md m_40 (fun q hq => .inr (by have := List.mem_singleton.1 hq; omega))
    have q_41 := m_40.size
    refine fw rfl rfl (fun _ => as_ rfl) rfl <| fn fun w_44 x_45 => ?_
    have q_46 := x_45.size
    have z_44 := z_39.trans (Mod.of_ext x_45)
    refine nT <| sq <| sq <| rg <| vl (mv rfl) rfl <| vl (nt rfl) rfl <| nl <| nT <| ?_
    refine cb rfl (fun h_47 => ?_) (fun h_47 => ?_)
    · refine sq <| rg <| vl (as_ rfl) rfl <| nl <| nT <| rt <| tT <| tR (.tmp rfl .nil) <| ?_
      have BS := BS.later (Ext.tr x_28 (Ext.tr x_31 x_38))
      have BS := BS.mod m_40 (by simp only [List.mem_singleton]; omega)
      have BS := BS.later x_45
      have HO := HO.later (Ext.tr x_28 (Ext.tr x_31 x_38))
      have HO := HO.mod m_40 (fun q hq h => by have hb := List.mem_singleton.1 h; exfalso; (have := u_1 q hq; omega))
      have HO := HO.later x_45
      exact ⟨a, by rw [hire_none h1 h2 h3 h4 h5 h6 h_47]; rfl, by rw [hire_none h1 h2 h3 h4 h5 h6 h_47]; exact ⟨BS, HO, hfar, hlow⟩, fun q hq => .inl hq, z_44⟩
    · refine sk <| nT <| sq <| ?_
      refine rd [(5, 0), (10, 0), (12, 0), (14, 0), (15, 0), (17, 0), (19, 2), (20, 3), (24, 3)] [0, 1, 2, 3, 4, 5, 6, 7, 8, 9, 10, 11, 12, 13, 14, 15, 16, 17, 18, 19, 20, 21, 22, 23, 24] (by kernel_rfl) (by kernel_rfl) ?_
      refine fw rfl rfl (fun _ => mv rfl) rfl <| fw rfl rfl (fun _ => mv rfl) rfl <| fw rfl rfl (fun _ => nc rfl) rfl <| fw rfl rfl (fun _ => fa GooP_fd_goods_shop_0 rfl) rfl <| fw rfl rfl (fun _ => fa GooP_fd_api_World_4 rfl) rfl <| ?_
      have BS := BS.later (Ext.tr x_28 (Ext.tr x_31 x_38))
      have BS := BS.mod m_40 (by simp only [List.mem_singleton]; omega)
      have BS := BS.later x_45
      refine fq rfl rfl (fun _ x => ld rfl ((BS.later x).one GooP_ag_S_api_Troop rfl)) rfl <| fw rfl rfl (fun _ => mv rfl) rfl <| fw rfl rfl (fun _ => nc rfl) rfl <| fw rfl rfl (fun _ => fa GooP_fd_goods_shop_0 rfl) rfl <| fw rfl rfl (fun _ => fa GooP_fd_api_World_5 rfl) rfl <| fq rfl rfl (fun _ x => ld rfl ((BS.later x).one GooP_ag_int rfl)) rfl <| fw rfl rfl (fun _ => fa GooP_fd_api_Deed_1 rfl) rfl <| ?_
      have B_6 := B_6.later (Ext.tr x_28 (Ext.tr x_31 x_38))
      have B_6 := B_6.mod m_40 (by simp only [List.mem_singleton]; omega)
      have B_6 := B_6.later x_45
      refine fq rfl rfl (fun _ x => ld rfl ((B_6.later x).one GooP_ag_int rfl)) rfl <| fw rfl rfl (fun _ => fa GooP_fd_api_Deed_3 rfl) rfl <| fq rfl rfl (fun _ x => ld rfl ((B_6.later x).one GooP_ag_int rfl)) rfl <| ?_
      have B_33 := B_33.later x_45
      refine fq rfl rfl (fun _ x => ld rfl ((B_33.later x).all GooP_ag_api_Cell GooP_sz_api_Cell)) rfl <| fw rfl rfl (fun _ => fa GooP_fd_api_Kind_0 rfl) rfl <| ?_
      have B_16 := B_16.later (Ext.tr x_24 (Ext.tr x_28 (Ext.tr x_31 x_38)))
      have B_16 := B_16.mod m_40 (by simp only [List.mem_singleton]; omega)
      have B_16 := B_16.later x_45
      refine fq rfl rfl (fun _ x => ld rfl ((B_16.later x).one GooP_ag_int rfl)) rfl <| fw (v := .agg #[.int .i64 W.next, .int .i64 d.who, .int .i64 d.what, .int .i64 ((((W.free (W.bases.getD d.who.toNat default)).getD ⟨0, 0⟩)).x), .int .i64 ((((W.free (W.bases.getD d.who.toNat default)).getD ⟨0, 0⟩)).y), .int .i64 (Wd.lifeOf d.what), .int .i64 0]) rfl rfl (fun _ => bd rfl (by kernel_rfl)) rfl <| fx rfl rfl rfl fun w_48 x_49 Q hK => bs (e := 39) (cs := [.int .i64 W.next, .int .i64 d.who, .int .i64 d.what, .int .i64 ((((W.free (W.bases.getD d.who.toNat default)).getD ⟨0, 0⟩)).x), .int .i64 ((((W.free (W.bases.getD d.who.toNat default)).getD ⟨0, 0⟩)).y), .int .i64 (Wd.lifeOf d.what), .int .i64 0]) rfl (fun _ => by kernel_rfl) rfl fun w_50 b_51 x_52 l_53 B_54 => hK _ _ ⟨Ext.tr x_49 x_52, ?_⟩
      have q_55 := x_49.size
      have z_48 := z_44.trans (Mod.of_ext x_49)
      have q_56 := x_52.size
      have z_50 := z_48.trans (Mod.of_ext x_52)
      have q_57 := B_54.lt
      have HO := HO.later (Ext.tr x_28 (Ext.tr x_31 x_38))
      have HO := HO.mod m_40 (fun q hq h => by have hb := List.mem_singleton.1 h; exfalso; (have := u_1 q hq; omega))
      have HO := HO.later (Ext.tr x_45 (Ext.tr x_49 x_52))
      refine fb rfl rfl rfl fun w_58 x_59 Q hK => ap GooP_el_S_api_Troop Rep.flat_bare (HO.later x_59).T ((Blk.has1 (R := Trp.rep) (by_ := 56) (q := (⟨W.next, d.who, d.what, c, Wd.lifeOf d.what, 0⟩ : Trp)) B_54 ⟨(by rw [← hc]; rfl), okI_iff.2 (by dsimp only; omega), okI_iff.2 (by dsimp only; omega), okI_iff.2 (by dsimp only; omega), okI_iff.2 (by dsimp only; omega), okI_iff.2 (by dsimp only; omega), okI_iff.2 (by dsimp only; have := life_le d.what; omega), okI_iff.2 (by dsimp only; omega)⟩ (by decide)).keep x_59) rfl rfl (by simp; omega) (by simp; omega) (by have := x_59.size; omega) rfl fun w_60 A_61 c_62 m_63 O_64 g_65 n_66 => hK _ _ ?_
      have q_67 := x_59.size
      have z_58 := z_50.trans (Mod.of_ext x_59)
      have q_68 := x_59.size
      have HO := HO.later x_59
      have BS := BS.later (Ext.tr x_49 (Ext.tr x_52 x_59))
      have q_69 := m_63.size
      have z_60 := z_58.md m_63 (fun q hq => .inl (List.mem_cons_of_mem _ (foot_T hq)))
      have q_70 := m_63.size
      have HO2 := HO.swapT m_63 O_64 g_65
      have dS2 : ∀ q ∈ WOwn.foot { a with T := A_61, t := c_62 }, q = S → False := fun q hq hb => (foot_swapT (Z := Z) (w := w) (W := W) hq).elim (fun h => dS q h hb) (fun h => (g_65 q h).elim (fun h2 => dS q (foot_T h2) hb) (fun h2 => by omega))
      have d_71 : ∀ q ∈ Rep.blkOf a.T, q = S → False := fun q hq hb => by (exact dS q (foot_T hq) hb)
      have BS := BS.mod m_63 (fun hq => d_71 _ hq rfl)
      have u_72 := fun q hq => (HO2.lt q hq).2
      refine fw rfl rfl (fun _ => nc rfl) rfl <| fw rfl rfl (fun _ => fa GooP_fd_goods_shop_0 rfl) rfl <| fw rfl rfl (fun _ => fa GooP_fd_api_World_4 rfl) rfl <| fb rfl rfl rfl fun w_73 x_74 Q hK => st (new := [.int .i64 W.field.wide, .int .i64 W.field.high, .slice a.P W.field.places.length a.p, .slice a.B W.bases.length a.b, .slice a.S W.stocks.length a.s, .slice a.M W.mines.length a.m, .slice A_61 ((W.troops ++ [(⟨W.next, d.who, d.what, c, Wd.lifeOf d.what, 0⟩ : Trp)]).length) c_62, .int .i64 W.next, .int .i64 W.now]) rfl rfl (BS.later x_74) rfl GooP_sz_S_api_Troop rfl rfl rfl fun w_75 m_76 BS => hK _ _ ?_
      have q_78 := x_74.size
      have z_73 := z_60.trans (Mod.of_ext x_74)
      have q_79 := m_76.size
      have z_75 := z_73.md m_76 (fun q hq => .inl (by rw [List.mem_singleton.1 hq]; exact List.mem_cons_self))
      have q_77 := m_76.size
      refine fn fun w_80 x_81 => ?_
      have q_82 := x_81.size
      have z_80 := z_75.trans (Mod.of_ext x_81)
      refine nT <| sq <| rg <| vl (mv rfl) rfl <| vl (nc rfl) rfl <| vl (fa GooP_fd_goods_shop_0 rfl) rfl <| vl (fa GooP_fd_api_World_5 rfl) rfl <| ?_
      have BS := BS.later x_81
      refine vl (ld rfl (BS.one GooP_ag_int rfl)) rfl <| vl (bad rfl rfl (inI (by omega))) rfl <| vl (nc rfl) rfl <| vl (fa GooP_fd_goods_shop_0 rfl) rfl <| vl (fa GooP_fd_api_World_5 rfl) rfl <| st (new := [.int .i64 W.field.wide, .int .i64 W.field.high, .slice a.P W.field.places.length a.p, .slice a.B W.bases.length a.b, .slice a.S W.stocks.length a.s, .slice a.M W.mines.length a.m, .slice A_61 ((W.troops ++ [(⟨W.next, d.who, d.what, c, Wd.lifeOf d.what, 0⟩ : Trp)]).length) c_62, .int .i64 (W.next + 1), .int .i64 W.now]) rfl rfl BS rfl GooP_sz_int rfl rfl rfl fun w_83 m_84 BS => ?_
      have q_86 := m_84.size
      have z_83 := z_80.md m_84 (fun q hq => .inl (by rw [List.mem_singleton.1 hq]; exact List.mem_cons_self))
      have q_85 := m_84.size
      refine nl <| nT <| sq <| ?_
      refine rd [(4, 0), (6, 0), (8, 0), (10, 0), (13, 3)] [0, 1, 2, 3, 4, 5, 6, 7, 8, 9, 10, 11, 12, 13] (by kernel_rfl) (by kernel_rfl) ?_
      refine fw rfl rfl (fun _ => mv rfl) rfl <| fw rfl rfl (fun _ => nc rfl) rfl <| fw rfl rfl (fun _ => fa GooP_fd_goods_shop_0 rfl) rfl <| fw rfl rfl (fun _ => fa GooP_fd_api_World_2 rfl) rfl <| fq rfl rfl (fun _ x => ld rfl ((BS.later x).one GooP_ag_S_int rfl)) rfl <| fw rfl rfl (fun _ => fa GooP_fd_api_Deed_1 rfl) rfl <| ?_
      have B_6 := B_6.later (Ext.tr x_49 (Ext.tr x_52 x_59))
      have d_87 : ∀ q ∈ Rep.blkOf a.T, q = b_3 → False := fun q hq hb => by (have := u_1 q (foot_T hq); omega)
      have B_6 := B_6.mod m_63 (fun hq => d_87 _ hq rfl)
      have B_6 := B_6.later x_74
      have B_6 := B_6.mod m_76 (by simp only [List.mem_singleton]; omega)
      have B_6 := B_6.later x_81
      have B_6 := B_6.mod m_84 (by simp only [List.mem_singleton]; omega)
      refine fq rfl rfl (fun _ x => ld rfl ((B_6.later x).one GooP_ag_int rfl)) rfl <| ?_
      have HO2 := HO2.later x_74
      have HO2 := HO2.mod m_76 (fun q hq h => by have hb := List.mem_singleton.1 h; exfalso; (exact dS2 q hq hb))
      have HO2 := HO2.later x_81
      have HO2 := HO2.mod m_84 (fun q hq h => by have hb := List.mem_singleton.1 h; exfalso; (exact dS2 q hq hb))
      refine fw rfl rfl (fun _ => iA d.who.toNat Try.underlying22 GooP_sz_int rfl rfl (HO2.S.has.adr (Nat.zero_lt_of_lt (show d.who.toNat < _ from (by show d.who.toNat < W.stocks.length; omega)))) (by omega) (by show d.who.toNat < W.stocks.length; omega)) rfl <| fq rfl rfl (fun _ x => ld rfl (Rep.SHas.one' hcI (by rw [← (HO2.later x).S.has.adr (Nat.zero_lt_of_lt (show d.who.toNat < _ from (by show d.who.toNat < W.stocks.length; omega)))]; exact (HO2.later x).S.has) (get_d (l := W.stocks) (u := 0) (by show d.who.toNat < W.stocks.length; omega)) rfl GooP_ag_int)) rfl <| fw rfl rfl (fun _ => fa GooP_fd_api_Kind_3 rfl) rfl <| ?_
      have B_16 := B_16.later (Ext.tr x_49 (Ext.tr x_52 x_59))
      have d_88 : ∀ q ∈ Rep.blkOf a.T, q = b_13 → False := fun q hq hb => by (have := u_1 q (foot_T hq); omega)
      have B_16 := B_16.mod m_63 (fun hq => d_88 _ hq rfl)
      have B_16 := B_16.later x_74
      have B_16 := B_16.mod m_76 (by simp only [List.mem_singleton]; omega)
      have B_16 := B_16.later x_81
      have B_16 := B_16.mod m_84 (by simp only [List.mem_singleton]; omega)
      refine fq rfl rfl (fun _ x => ld rfl ((B_16.later x).one GooP_ag_int rfl)) rfl <| fw rfl rfl (fun _ => bsu rfl rfl (inI (by omega))) rfl <| fw rfl rfl (fun _ => iA d.who.toNat Try.underlying22 GooP_sz_int rfl rfl (HO2.S.has.adr (Nat.zero_lt_of_lt (show d.who.toNat < _ from (by show d.who.toNat < W.stocks.length; omega)))) (by omega) (by show d.who.toNat < W.stocks.length; omega)) rfl <| fb rfl rfl rfl fun w_89 x_90 Q hK => so (q' := W.stocks.getD d.who.toNat 0 - Wd.priceOf d.what) (j := 0) (i := d.who.toNat) (HO2.later x_90).S Rep.flat_bare (get_d (u := 0) (l := W.stocks) (by omega)) rfl rfl rfl rfl (fun _ cs h => by obtain rfl := hcI h; exact ⟨rfl, okI_iff.2 (by omega)⟩) rfl rfl GooP_sz_int fun w_91 m_92 O_93 => hK _ _ ?_
      have q_94 := x_90.size
      have z_89 := z_83.trans (Mod.of_ext x_90)
      have q_95 := x_90.size
      have HO2 := HO2.later x_90
      have BS := BS.later x_90
      have q_96 := m_92.size
      have z_91 := z_89.md m_92 (fun q hq => .inl (List.mem_cons_of_mem _ (foot_S (a := a) hq)))
      have HO3 := HO2.setS m_92 O_93
      have d_97 : ∀ q ∈ Rep.blkOf a.S, q = S → False := fun q hq hb => by (exact dS2 q (foot_S hq) hb)
      have BS := BS.mod m_92 (fun hq => d_97 _ hq rfl)
      have u_98 := fun q hq => (HO3.lt q hq).2
      refine fn fun w_99 x_100 => ?_
      have q_101 := x_100.size
      have z_99 := z_91.trans (Mod.of_ext x_100)
      refine nT <| sq <| rg <| vl (as_ rfl) rfl <| nl <| nT <| rt <| tR (.tmp rfl .nil) <| ?_
      have BS := BS.later x_100
      have HO3 := HO3.later x_100
      rw [hire_done h1 h2 h3 h4 h5 h6 hc h_47]
      exact ⟨{ a with T := A_61, t := c_62 }, rfl, ⟨by simpa [Wd.cells] using BS, HO3.setN rfl rfl rfl rfl rfl ⟨HO3.nums.1, HO3.nums.2.1, okI_iff.2 (by show -9223372036854775808 ≤ W.next + 1 ∧ W.next + 1 ≤ 9223372036854775807; omega), HO3.nums.2.2.2⟩, fun hq => dS2 _ hq rfl, hlow⟩, fun q hq => (foot_swapT (Z := Z) (w := w) (W := W) hq).elim .inl (fun h => (g_65 q h).elim (fun h => .inl (foot_T h)) (fun h => .inr (by omega))), z_99⟩
end Go.Proofs.Yticfnngppcmidaa
