/-
  OrderOwn. (Printed by bin/ownorders.py.)
-/
import Derived.Test.YtfabhinehfhndaaSpx
import Derived.Test.YtfabhinehfhndaaClo4
import Derived.Test.YtfabhinehfhndaaOrB
import Derived.Test.YtfabhinehfhndaaFnc
set_option linter.unusedVariables false
set_option linter.unusedSimpArgs false
namespace Go.Proofs.Ytfabhinehfhndaa
open Go.RowKit

theorem OrO_sz_api_Order : Sz Try.prog 92 6 := fun _ => by kernel_rfl
theorem OrO_ag_api_Order : Ag Try.prog 92 true := fun _ => by kernel_rfl
theorem OrO_en_slices_IndexFunc_S_api_Order_api_Order_ : Enters Try.prog 66 := en Try.func66 (by kernel_rfl) (by kernel_rfl)
theorem OrO_zv_api_Order : Zv Try.prog 92 (.agg #[.int .i64 0, .int .i64 0, .int .i64 0, .int .i64 0, .int .i64 0, .int .i64 0]) := fun _ => by kernel_rfl
theorem OrO_zv_api_Troop : Zv Try.prog 109 (.agg #[.int .i64 0, .int .i64 0, .int .i64 0, .int .i64 0, .int .i64 0, .int .i64 0, .int .i64 0]) := fun _ => by kernel_rfl
theorem OrO_fd_api_World_4 : Fd Try.prog 82 4 6 := fun _ _ _ => by kernel_rfl
theorem OrO_ag_S_api_Troop : Ag Try.prog 80 false := fun _ => by kernel_rfl
theorem OrO_sz_api_Troop : Sz Try.prog 109 7 := fun _ => by kernel_rfl
theorem OrO_ag_api_Troop : Ag Try.prog 109 true := fun _ => by kernel_rfl
theorem OrO_fd_api_Troop_0 : Fd Try.prog 109 0 0 := fun _ _ _ => by kernel_rfl
theorem OrO_ag_int : Ag Try.prog 3 false := fun _ => by kernel_rfl
theorem OrO_fd_api_Order_0 : Fd Try.prog 92 0 0 := fun _ _ _ => by kernel_rfl
theorem OrO_ag_api_World : Ag Try.prog 82 true := fun _ => by kernel_rfl
theorem OrO_sz_api_World : Sz Try.prog 82 9 := fun _ => by kernel_rfl
theorem OrO_en_mustref_TroopOf : Enters Try.prog 49 := en Try.func49 (by kernel_rfl) (by kernel_rfl)
theorem OrO_fd_api_Troop_1 : Fd Try.prog 109 1 1 := fun _ _ _ => by kernel_rfl
theorem OrO_en_slices_Clone_S_api_Order_api_Order_ : Enters Try.prog 39 := en Try.func39 (by kernel_rfl) (by kernel_rfl)
theorem OrO_en_mustkeep_OrderOwn_1 : Enters Try.prog 47 := en Try.func47 (by kernel_rfl) (by kernel_rfl)
theorem OrO_en_slices_DeleteFunc_S_api_Order_api_Order_ : Enters Try.prog 46 := en Try.func46 (by kernel_rfl) (by kernel_rfl)
theorem OrO_en_order_Split : Enters Try.prog 37 := en Try.func37 (by kernel_rfl) (by kernel_rfl)
theorem OrO_en_mustkeep_orderLives : Enters Try.prog 38 := en Try.func38 (by kernel_rfl) (by kernel_rfl)
theorem OrO_sz_api_Blow : Sz Try.prog 95 2 := fun _ => by kernel_rfl
theorem OrO_ag_api_Blow : Ag Try.prog 95 true := fun _ => by kernel_rfl
theorem OrO_zv_api_Blow : Zv Try.prog 95 (.agg #[.int .i64 0, .int .i64 0]) := fun _ => by kernel_rfl
theorem OrO_fd_api_Blow_0 : Fd Try.prog 95 0 0 := fun _ _ _ => by kernel_rfl
theorem OrO_en_mustkeep_OrderOwn_2 : Enters Try.prog 48 := en Try.func48 (by kernel_rfl) (by kernel_rfl)
theorem OrO_sz_api_Go : Sz Try.prog 99 3 := fun _ => by kernel_rfl
theorem OrO_ag_api_Go : Ag Try.prog 99 true := fun _ => by kernel_rfl
theorem OrO_zv_api_Go : Zv Try.prog 99 (.agg #[.int .i64 0, .int .i64 0, .int .i64 0]) := fun _ => by kernel_rfl
theorem OrO_fd_api_Go_0 : Fd Try.prog 99 0 0 := fun _ _ _ => by kernel_rfl
theorem OrO_sz_api_Deed : Sz Try.prog 103 5 := fun _ => by kernel_rfl
theorem OrO_ag_api_Deed : Ag Try.prog 103 true := fun _ => by kernel_rfl
theorem OrO_zv_api_Deed : Zv Try.prog 103 (.agg #[.int .i64 0, .int .i64 0, .int .i64 0, .int .i64 0, .int .i64 0]) := fun _ => by kernel_rfl
theorem OrO_fd_api_Deed_0 : Fd Try.prog 103 0 0 := fun _ _ _ => by kernel_rfl
theorem OrO_fd_api_Deed_1 : Fd Try.prog 103 1 1 := fun _ _ _ => by kernel_rfl
def mineL (l : List Odr) (by_ : Int) : List Odr := l.filter fun x => !(x.by_ != by_)
theorem mine_len (l : List Odr) (by_ : Int) : (mineL l by_).length ≤ l.length := List.length_filter_le _ _
theorem mine_by {l : List Odr} {by_ : Int} {o : Odr} (h : o ∈ mineL l by_) : o.by_ = by_ := by have := (List.mem_filter.1 h).2; simpa using this
def ownedB (W : Wd) (by_ id : Int) : Bool := (W.troops.find? (fun t => t.id == id)).isSome && (((W.troops.find? (fun t => t.id == id)).getD default).owner == by_)
theorem find_at {l : List Trp} {p : Trp → Bool} {k : Nat} (hk : k < l.length) (h : p (l.getD k default) = true) (hg : ∀ i, i < k → p (l.getD i default) = false) : l.find? p = some (l.getD k default) := by
  rw [List.find?_eq_some_iff_getElem]
  refine ⟨h, k, hk, (getD_dd hk).symm, fun j hj => ?_⟩
  have := hg j hj
  rw [getD_dd (by omega)] at this; rw [this]; rfl
theorem find_no {l : List Trp} {p : Trp → Bool} (hg : ∀ i, i < l.length → p (l.getD i default) = false) : l.find? p = none := List.find?_eq_none.2 fun x hx => by
  obtain ⟨i, hi, rfl⟩ := List.mem_iff_getElem.1 hx
  have := hg i hi
  rw [getD_dd hi] at this; rw [this]; decide
theorem get_own (W : Wd) (id : Int) : getI (ownK W W.troops.length) id = (W.troops.find? (fun t => t.id == id)).map (·.owner) := by
  unfold getI ownK
  rw [List.take_length, List.find?_map, Option.map_map]
  have e : (fun p : Int × Int => p.1 == id) ∘ (fun t : Trp => (t.id, t.owner)) = fun t => t.id == id := rfl
  rw [e]
  cases W.troops.find? (fun t => t.id == id) <;> rfl
theorem may_own {W : Wd} {o : Odr} (h : may W o = true) (hk : o.kind ≠ 5) : ownedB W o.by_ o.who = true := by
  unfold may at h
  rw [if_neg hk, get_own] at h
  unfold ownedB
  cases hf : W.troops.find? (fun t => t.id == o.who) with
  | none => rw [hf] at h; exact nomatch h
  | some t => rw [hf] at h; simpa using h
theorem ownB {W : Wd} {l : List Odr} {by_ : Int} {x : Blw} (hG : Good W) (h : x ∈ splB W (mineL l by_) (mineL l by_).length) : ownedB W by_ x.who = true := by
  unfold splB at h
  rw [List.take_length] at h
  obtain ⟨o, ho, hx⟩ := List.mem_flatMap.1 h
  split at hx
  · rename_i hm
    unfold spB at hx
    split at hx
    · rename_i hk
      rw [List.mem_singleton.1 hx]
      have := may_own hm (by omega)
      rwa [mine_by ho] at this
    · simp at hx
  · simp at hx
theorem ownG {W : Wd} {l : List Odr} {by_ : Int} {x : Gox} (hG : Good W) (h : x ∈ splG W (mineL l by_) (mineL l by_).length) : ownedB W by_ x.id = true := by
  unfold splG at h
  rw [List.take_length] at h
  obtain ⟨o, ho, hx⟩ := List.mem_flatMap.1 h
  split at hx
  · rename_i hm
    unfold spG at hx
    split at hx
    · rename_i hk
      rw [List.mem_singleton.1 hx]
      have := may_own hm (by omega)
      rwa [mine_by ho] at this
    · simp at hx
  · simp at hx
theorem ownD0 {W : Wd} {l : List Odr} {by_ : Int} {x : Ded} (h : x ∈ splD W (mineL l by_) (mineL l by_).length) : (x.kind = 3 → x.who = by_) ∧ (x.kind ≠ 3 → ownedB W by_ x.who = true) := by
  unfold splD at h
  rw [List.take_length] at h
  obtain ⟨o, ho, hx⟩ := List.mem_flatMap.1 h
  have hb := mine_by ho
  split at hx
  · rename_i hm
    unfold spD at hx
    split at hx
    · rename_i hk
      rw [List.mem_singleton.1 hx]
      have := may_own hm (by omega)
      rw [hb] at this
      exact ⟨fun h => by simp at h, fun _ => this⟩
    · split at hx
      · rename_i hk
        rw [List.mem_singleton.1 hx]
        have := may_own hm (by omega)
        rw [hb] at this
        exact ⟨fun h => by simp at h, fun _ => this⟩
      · split at hx
        · rw [List.mem_singleton.1 hx]
          exact ⟨fun _ => hb, fun h => absurd rfl h⟩
        · simp at hx
  · simp at hx
theorem ownD {W : Wd} {l : List Odr} {by_ : Int} {x : Ded} (hG : Good W) (h : x ∈ splD W (mineL l by_) (mineL l by_).length) (hk : (x.kind == 3) = false) : ownedB W by_ x.who = true := (ownD0 h).2 (by simpa using hk)
theorem ownD3 {W : Wd} {l : List Odr} {by_ : Int} {x : Ded} (h : x ∈ splD W (mineL l by_) (mineL l by_).length) (hk : (x.kind == 3) = true) : (x.who != by_) = false := by rw [(ownD0 h).1 (by simpa using hk)]; simp
theorem spl_sum (W : Wd) (l : List Odr) : ∀ k, (splB W l k).length + (splG W l k).length + (splD W l k).length ≤ k
  | 0 => by simp [splB, splG, splD]
  | k + 1 => by
    have ih := spl_sum W l k
    by_cases h : k < l.length
    · cases hm : may W (l.getD k default) with
      | true =>
        rw [splB_yes h hm, splG_yes h hm, splD_yes h hm, List.length_append, List.length_append, List.length_append]
        have : (spB (l.getD k default)).length + (spG (l.getD k default)).length + (spD (l.getD k default)).length ≤ 1 := by
          generalize l.getD k default = o
          unfold spB spG spD
          by_cases h1 : o.kind = 1
          · simp [h1]
          · by_cases h2 : o.kind = 2
            · simp [h2]
            · rw [if_neg h1, if_neg h2]; (repeat' split) <;> simp
        omega
      | false => rw [splB_no h hm, splG_no h hm, splD_no h hm]; omega
    · have e1 : splB W l (k + 1) = splB W l k := by unfold splB; rw [List.take_of_length_le (by omega), List.take_of_length_le (by omega)]
      have e2 : splG W l (k + 1) = splG W l k := by unfold splG; rw [List.take_of_length_le (by omega), List.take_of_length_le (by omega)]
      have e3 : splD W l (k + 1) = splD W l k := by unfold splD; rw [List.take_of_length_le (by omega), List.take_of_length_le (by omega)]
      rw [e1, e2, e3]; omega
set_option maxRecDepth 100000 in
set_option maxHeartbeats 400000 in
theorem idxF_O (fC : FuncId) (cs : List Value) (p : Odr → Bool) (A : Option Addr) (c : Nat) (l : List Odr) (w : World) (hl : Odr.rep.SHas 48 w A c l) (hE : Enters Try.prog fC) (hC : ∀ x ∈ l, ∀ w', Ext w w' → Calls Try.prog fC (([.agg #[.int .i64 x.by_, .int .i64 x.kind, .int .i64 x.who, .int .i64 x.spot.x, .int .i64 x.spot.y, .int .i64 x.what]] : List Value) ++ cs).toArray w' fun e w'' => e = .returned (.bool (p x)) ∧ Ext w' w'') :
    Calls Try.prog 66 #[.slice A l.length c, .func (.func fC) #[] cs.toArray] w (fun e w' => e = .returned (.int .i64 (idxI p l)) ∧ Ext w w') := by
  have hll := hl.len_le
  refine calls_W (n := 19) Try.func66 rfl rfl rfl ?_
  refine sq <| rg <| vl (as_ rfl) rfl <| nl <| nT <| sq <| sq <| rg <| vl (mv rfl) rfl <| vl (ln Try.underlying76 rfl) rfl <| vl (mv rfl) rfl <| nl <| nT <| bk <| ?_
  refine lp (fun mI EI wI => ∃ k : Nat, EI = [(0, .slice A l.length c), (1, .func (.func fC) #[] cs.toArray), (7, .int .i64 (l.length : Int)), (8, .int .i64 (k : Int))] ∧ mI = l.length - k ∧ Ext w wI ∧ (k ≤ l.length) ∧ (∀ i, i < k → p (l.getD i default) = false)) _ _ ⟨0, rfl, rfl, (Ext.rf w), by omega, fun i hi => by omega⟩ (.cons rfl (.cons rfl (.cons rfl (.cons (loI rfl (by first | omega | rfl | (simp <;> omega))) .nil)))) ?_
  rintro m_2 E_3 w_1 ⟨k, rfl, rfl, z_1, hk, hg⟩
  have q_4 := z_1.size
  refine sq <| rg <| vl (blt rfl rfl) rfl <| nl <| nT <| sq <| ?_
  refine clt rfl (fun h_5 => ?_) (fun h_5 => ?_)
  · refine sk <| nT <| sq <| bk <| sq <| rg <| vl (mv rfl) rfl <| vl (as_ rfl) rfl <| nl <| nT <| sq <| rg <| vl (mv rfl) rfl <| vl (mv rfl) rfl <| vl (mv rfl) rfl <| vl (iA k Try.underlying76 OrO_sz_api_Order rfl rfl ((hl.keep z_1).adr (Nat.zero_lt_of_lt (show k < _ from (by omega)))) rfl (by omega)) rfl <| vl (ld rfl (Rep.SHas.elt hcO ((hl.keep z_1).adh (Nat.zero_lt_of_lt (show k < _ from (by omega)))) (get_d (l := l) (u := default) (by omega)) OrO_ag_api_Order OrO_sz_api_Order)) rfl <| cv hE rfl rfl rfl ((hC (l.getD k default) (mem_dd (by omega)) _ z_1).mono ?_)
    rintro e w_6 ⟨rfl, x_7⟩
    refine ⟨_, rfl, ?_⟩
    have q_8 := x_7.size
    have z_6 := Ext.tr z_1 x_7
    refine nl <| nT <| ?_
    refine cb rfl (fun h_9 => ?_) (fun h_9 => ?_)
    · refine sq <| rg <| vl (mv rfl) rfl <| vl (as_ rfl) rfl <| nl <| nT <| rt <| tB <| tT <| tK <| tB <| tT <| tR (.tmp rfl .nil) <| ?_
      exact ⟨by have e := idx_some_dd (p := p) (l := l) (d := default) (k := k) (by omega) h_9 hg; rw [e]; rfl, z_6⟩
    · refine sk <| nB <| nT <| rg <| vl (bad rfl rfl (inI (by omega))) rfl <| vl (mv rfl) rfl <| nl <| ?_
      exact nI _ _ ⟨k + 1, rfl, rfl, z_6, by omega, lt_succ_all hg h_9⟩ (by omega) (.cons rfl (.cons rfl (.cons rfl (.cons (loI rfl (by first | omega | rfl | (simp <;> omega))) .nil))))
  · refine xt <| xT <| xK <| xB <| nT <| sq <| rg <| vl (as_ rfl) rfl <| nl <| nT <| rt <| tR (.tmp rfl .nil) <| ?_
    exact ⟨by have e := idx_none_dd (p := p) (l := l) (d := default) (fun i hi => hg i (by omega)); rw [e]; rfl, z_1⟩
set_option maxRecDepth 100000 in
set_option maxHeartbeats 400000 in
theorem delF_O (w0 : World) (fC : FuncId) (cs : List Value) (p : Odr → Bool) (A : Option Addr) (c : Nat) (l : List Odr) (w : World) (hx0 : Ext w0 w) (hO : Odr.rep.SOwn 92 48 w w0.heap.size (Rep.blkOf A) A c l) (hE : Enters Try.prog fC) (hC : ∀ x ∈ l, ∀ w', Ext w0 w' → Calls Try.prog fC (([.agg #[.int .i64 x.by_, .int .i64 x.kind, .int .i64 x.who, .int .i64 x.spot.x, .int .i64 x.spot.y, .int .i64 x.what]] : List Value) ++ cs).toArray w' fun e w'' => e = .returned (.bool (p x)) ∧ Ext w' w'') :
    Calls Try.prog 46 #[.slice A l.length c, .func (.func fC) #[] cs.toArray] w (fun e w' => e = .returned (.slice A (l.filter fun x => !p x).length c) ∧ Odr.rep.SOwn 92 48 w' w0.heap.size (Rep.blkOf A) A c (l.filter fun x => !p x) ∧ Mod (Rep.blkOf A) w w') := by
  have hl0 := hO.has
  have hll := hl0.len_le
  have hlc := hl0.1
  have uA := fun q hq => (hO.lt q hq).2
  have lA := fun q hq => (hO.lt q hq).1
  have lA2 : ∀ q ∈ Rep.blkOf A, w0.heap.size ≤ q := lA
  have hx0s := hx0.size
  refine calls_W (n := 42) Try.func46 rfl rfl rfl ?_
  refine sq <| rg <| vl (as_ rfl) rfl <| nl <| nT <| sq <| rg <| vl (mv rfl) rfl <| vl (mv rfl) rfl <| ca OrO_en_slices_IndexFunc_S_api_Order_api_Order_ rfl rfl ((idxF_O fC cs p _ _ l _ hO.has hE (fun x hx w' h => hC x hx w' (Ext.tr (Ext.mod hx0 (Mod.rf (Rep.blkOf A) w) lA) h))).mono ?_)
  rintro e w_1 ⟨rfl, x_2⟩
  refine ⟨_, rfl, ?_⟩
  have q_3 := x_2.size
  have z_1 := (Mod.rf (Rep.blkOf A) w).trans (Mod.of_ext x_2)
  refine vl (as_ rfl) rfl <| nl <| nT <| sq <| sq <| rg <| vl (mv rfl) rfl <| vl (beq rfl rfl) rfl <| nl <| nT <| ?_
  refine ceq rfl (fun h_4 => ?_) (fun h_4 => ?_)
  · refine sq <| rg <| vl (mv rfl) rfl <| vl (as_ rfl) rfl <| nl <| nT <| rt <| tT <| tR (.tmp rfl .nil) <| ?_
    have hO := hO.later x_2
    have e1 := idx_nofilter (by simpa using h_4)
    exact ⟨by rw [e1]; rfl, by rw [e1]; exact hO, z_1⟩
  · obtain ⟨k0, hk0, e0, hm0⟩ := idx_first h_4
    refine sk <| nT <| sq <| sq <| rg <| vl (mv rfl) rfl <| vl (bad rfl rfl (inI (by omega))) rfl <| vl (as_ rfl) rfl <| nl <| nT <| bk <| ?_
    have hO := hO.later x_2
    refine lp (fun mI EI wI => ∃ L : List Odr, ∃ i : Nat, ∃ j : Nat, EI = [(0, .slice A l.length c), (1, .func (.func fC) #[] cs.toArray), (4, .slice none 0 0), (5, .int .i64 (i : Int)), (6, .int .i64 (j : Int))] ∧ mI = l.length - j ∧ Mod (Rep.blkOf A) w wI ∧ Odr.rep.SOwn 92 48 wI w0.heap.size (Rep.blkOf A) A c (L) ∧ (L.length = l.length) ∧ (i < j) ∧ (j ≤ l.length) ∧ (L.take i = (l.take j).filter fun x => !p x) ∧ (L.drop j = l.drop j)) _ _ ⟨l, k0, k0 + 1, rfl, rfl, z_1, hO, rfl, by omega, by omega, hm0, rfl⟩ (.cons rfl (.cons rfl (.cons rfl (.cons (loI rfl (by first | omega | rfl | (simp <;> omega))) (.cons (loI rfl (by first | omega | rfl | (simp <;> omega))) .nil))))) ?_
    rintro m_6 E_7 w_5 ⟨L, i, j, rfl, rfl, z_5, O1, hL, hi, hj, hpre, hsuf⟩
    have q_8 := z_5.size
    have u_9 := fun q hq => (O1.lt q hq).2
    refine sq <| sq <| rg <| vl (mv rfl) rfl <| vl (mv rfl) rfl <| vl (ln Try.underlying76 rfl) rfl <| vl (blt rfl rfl) rfl <| nl <| nT <| ?_
    refine clt rfl (fun h_10 => ?_) (fun h_10 => ?_)
    · refine sk <| nT <| sq <| bk <| sq <| rg <| vl (mv rfl) rfl <| vl (mv rfl) rfl <| vl (iA j Try.underlying76 OrO_sz_api_Order rfl rfl (O1.has.adr (Nat.zero_lt_of_lt (show j < _ from (by omega)))) rfl (by omega)) rfl <| vl (ld rfl (Rep.SHas.elt hcO (O1.has.adh (Nat.zero_lt_of_lt (show j < _ from (by omega)))) (suf_get (d := default) (by omega) (by omega) hsuf) OrO_ag_api_Order OrO_sz_api_Order)) rfl <| al rfl OrO_zv_api_Order rfl rfl fun w_11 b_12 x_13 l_14 B_15 => ?_
      have q_16 := x_13.size
      have z_11 := z_5.trans (Mod.of_ext x_13)
      have q_17 := B_15.lt
      refine st (new := [.int .i64 ((l.getD j default).by_), .int .i64 ((l.getD j default).kind), .int .i64 ((l.getD j default).who), .int .i64 ((l.getD j default).spot.x), .int .i64 ((l.getD j default).spot.y), .int .i64 ((l.getD j default).what)]) rfl rfl B_15 rfl OrO_sz_api_Order rfl rfl rfl fun w_18 m_19 B_15 => ?_
      have q_21 := m_19.size
      have z_18 := z_11.md m_19 (fun q hq => .inr (by have := List.mem_singleton.1 hq; omega))
      have q_20 := m_19.size
      refine nl <| nT <| sq <| rg <| vl (mv rfl) rfl <| vl (ld rfl (B_15.all OrO_ag_api_Order OrO_sz_api_Order)) rfl <| cv hE rfl rfl rfl ((hC (l.getD j default) (mem_dd (by omega)) _ (Ext.mod hx0 z_18 lA)).mono ?_)
      rintro e w_22 ⟨rfl, x_23⟩
      refine ⟨_, rfl, ?_⟩
      have q_24 := x_23.size
      have z_22 := z_18.trans (Mod.of_ext x_23)
      refine vl (nt rfl) rfl <| nl <| nT <| ?_
      refine cb rfl (fun h_25 => ?_) (fun h_25 => ?_)
      · refine sq <| rg <| vl (mv rfl) rfl <| vl (mv rfl) rfl <| ?_
        have B_15 := B_15.later x_23
        refine vl (ld rfl (B_15.all OrO_ag_api_Order OrO_sz_api_Order)) rfl <| ?_
        have O1 := O1.later x_13
        have O1 := O1.mod m_19 (fun q hq h => by have hb := List.mem_singleton.1 h; exfalso; (have := u_9 q hq; omega))
        have O1 := O1.later x_23
        refine vl (iA i Try.underlying76 OrO_sz_api_Order rfl rfl (O1.has.adr (Nat.zero_lt_of_lt (show i < _ from (by omega)))) rfl (by omega)) rfl <| soE (q' := l.getD j default) (i := i) (es := [.int .i64 ((l.getD j default).by_), .int .i64 ((l.getD j default).kind), .int .i64 ((l.getD j default).who), .int .i64 ((l.getD j default).spot.x), .int .i64 ((l.getD j default).spot.y), .int .i64 ((l.getD j default).what)]) O1 Rep.flat_bare (by omega) rfl rfl rfl rfl (fun _ => ⟨rfl, (Odr.all_ok hl0 _ (mem_dd (by omega)))⟩) OrO_sz_api_Order fun w_26 m_27 O_28 => ?_
        have q_29 := m_27.size
        have z_26 := z_22.md m_27 (fun q hq => .inl hq)
        have q_30 := m_27.size
        refine nl <| nT <| rg <| vl (mv rfl) rfl <| vl (bad rfl rfl (inI (by omega))) rfl <| vl (as_ rfl) rfl <| nl <| nB <| nT <| rg <| vl (mv rfl) rfl <| vl (bad rfl rfl (inI (by omega))) rfl <| vl (as_ rfl) rfl <| nl <| ?_
        exact nI _ _ ⟨(L).set i (l.getD j default), i + 1, j + 1, rfl, rfl, z_26, O_28, by rw [List.length_set]; exact hL, by omega, by omega, del_keep hL (by omega) (by omega) hpre h_25, del_suf (by omega) hsuf⟩ (by omega) (.cons rfl (.cons rfl (.cons rfl (.cons (loI rfl (by first | omega | rfl | (simp <;> omega))) (.cons (loI rfl (by first | omega | rfl | (simp <;> omega))) .nil)))))
      · refine sk <| nB <| nT <| rg <| vl (mv rfl) rfl <| vl (bad rfl rfl (inI (by omega))) rfl <| vl (as_ rfl) rfl <| nl <| ?_
        have O1 := O1.later x_13
        have O1 := O1.mod m_19 (fun q hq h => by have hb := List.mem_singleton.1 h; exfalso; (have := u_9 q hq; omega))
        have O1 := O1.later x_23
        exact nI _ _ ⟨L, i, j + 1, rfl, rfl, z_22, O1, hL, by omega, by omega, del_drop (by omega) hpre h_25, drop_succ hsuf⟩ (by omega) (.cons rfl (.cons rfl (.cons rfl (.cons rfl (.cons (loI rfl (by first | omega | rfl | (simp <;> omega))) .nil)))))
    · refine xt <| xT <| xK <| xB <| nT <| sq <| rg <| vl (mv rfl) rfl <| vl (mv rfl) rfl <| vl (sT i Try.underlying76 OrO_sz_api_Order rfl rfl rfl (by omega)) rfl <| cl (k := i) (q := l.length - i) (z := Odr.zero) (m := 6) Try.underlying76 Odr.info rfl (by decide) rfl (by decide) Odr.zero_raw (show Odr.rep.SOwn _ _ _ _ _ _ _ L from O1) Rep.flat_bare (by omega) (by omega) (by omega) (hO.block (by omega)) rfl fun w_31 m_32 O_33 => ?_
      have q_34 := m_32.size
      have z_31 := z_5.md m_32 (fun q hq => .inl hq)
      refine nl <| nT <| sq <| rg <| vl (mv rfl) rfl <| vl (mv rfl) rfl <| vl (sP i i Try.underlying76 OrO_sz_api_Order rfl rfl rfl (by omega) rfl) rfl <| vl (as_ rfl) rfl <| nl <| nT <| rt <| tR (.tmp rfl .nil) <| ?_
      obtain rfl : j = l.length := by omega
      rw [List.take_length] at hpre
      have hli : (l.filter fun x => !p x).length = i := by rw [← hpre, List.length_take]; omega
      exact ⟨by rw [hli]; rfl, by rw [← hpre]; exact O_33, z_31⟩
set_option maxRecDepth 100000 in
set_option maxHeartbeats 400000 in
theorem trOf_any (x : Int) (a : Wd.At) (W : Wd) (w : World) (hW : Wd.Has w a W) :
    Calls Try.prog 49 #[.agg ((Wd.cells a W).toArray), .int .i64 x] w (fun e w' => e = .returned (.tuple #[.agg ((W.troops.find? (fun t => t.id == x)).getD default).cells.toArray, .bool (W.troops.find? (fun t => t.id == x)).isSome]) ∧ Ext w w') := by
  have hll := hW.T.len_le
  refine calls_W (n := 22) Try.func49 rfl rfl rfl ?_
  refine sq <| rg <| bx rfl rfl rfl rfl fun w_1 b_2 x_3 l_4 B_5 => ?_
  have q_6 := x_3.size
  have z_1 := Ext.tr (Ext.rf w) x_3
  have q_7 := B_5.lt
  refine al rfl OrO_zv_api_Troop rfl rfl fun w_8 b_9 x_10 l_11 B_12 => ?_
  have q_13 := x_10.size
  have z_8 := Ext.tr z_1 x_10
  have q_14 := B_12.lt
  refine vl (as_ rfl) rfl <| nl <| nT <| sq <| sq <| rg <| vl (fa OrO_fd_api_World_4 rfl) rfl <| ?_
  have B_5 := B_5.later x_10
  refine vl (ld rfl (B_5.one OrO_ag_S_api_Troop rfl)) rfl <| vl (ln Try.underlying80 rfl) rfl <| vl (mv rfl) rfl <| nl <| nT <| bk <| ?_
  refine lp (fun mI EI wI => ∃ k : Nat, EI = [(1, .int .i64 x), (4, .pointer (some ⟨b_9, 0, none⟩)), (9, .slice a.T W.troops.length a.t), (10, .int .i64 (W.troops.length : Int)), (11, .int .i64 (k : Int))] ∧ mI = W.troops.length - k ∧ Ext w wI ∧ Blk wI b_9 [.int .i64 0, .int .i64 0, .int .i64 0, .int .i64 0, .int .i64 0, .int .i64 0, .int .i64 0] 109 (0, 0) ∧ (k ≤ W.troops.length) ∧ (∀ i, i < k → ((fun t => t.id == x) : Trp → Bool) (W.troops.getD i default) = false)) _ _ ⟨0, rfl, rfl, z_8, B_12, by omega, fun i hi => by omega⟩ (.cons rfl (.cons rfl (.cons rfl (.cons rfl (.cons (loI rfl (by first | omega | rfl | (simp <;> omega))) .nil))))) ?_
  rintro m_16 E_17 w_15 ⟨k, rfl, rfl, z_15, B_12, hk, hg⟩
  have q_18 := z_15.size
  have q_19 := B_12.lt
  refine sq <| rg <| vl (blt rfl rfl) rfl <| nl <| nT <| sq <| ?_
  refine clt rfl (fun h_20 => ?_) (fun h_20 => ?_)
  · refine sk <| nT <| sq <| bk <| sq <| rg <| vl (iA k Try.underlying80 OrO_sz_api_Troop rfl rfl ((hW.T.keep z_15).adr (Nat.zero_lt_of_lt (show k < _ from (by omega)))) rfl (by omega)) rfl <| vl (ld rfl (Rep.SHas.elt hcT ((hW.T.keep z_15).adh (Nat.zero_lt_of_lt (show k < _ from (by omega)))) (get_d (l := W.troops) (u := default) (by omega)) OrO_ag_api_Troop OrO_sz_api_Troop)) rfl <| al rfl OrO_zv_api_Troop rfl rfl fun w_21 b_22 x_23 l_24 B_25 => ?_
    have q_26 := x_23.size
    have z_21 := Ext.tr z_15 x_23
    have q_27 := B_25.lt
    refine st (new := [.int .i64 ((W.troops.getD k default).id), .int .i64 ((W.troops.getD k default).owner), .int .i64 ((W.troops.getD k default).kind), .int .i64 ((W.troops.getD k default).spot.x), .int .i64 ((W.troops.getD k default).spot.y), .int .i64 ((W.troops.getD k default).life), .int .i64 ((W.troops.getD k default).load)]) rfl rfl B_25 rfl OrO_sz_api_Troop rfl rfl rfl fun w_28 m_29 B_25 => ?_
    have q_31 := m_29.size
    have z_28 := Ext.mod z_21 m_29 (by simp only [List.mem_singleton, forall_eq]; omega)
    have q_30 := m_29.size
    refine nl <| nT <| sq <| rg <| vl (fa OrO_fd_api_Troop_0 rfl) rfl <| vl (ld rfl (B_25.one OrO_ag_int rfl)) rfl <| vl (mv rfl) rfl <| vl (beq rfl rfl) rfl <| nl <| nT <| ?_
    refine ceq rfl (fun h_32 => ?_) (fun h_32 => ?_)
    · refine sq <| rg <| vl (ld rfl (B_25.all OrO_ag_api_Troop OrO_sz_api_Troop)) rfl <| ?_
      have B_12 := B_12.later x_23
      have B_12 := B_12.mod m_29 (by simp only [List.mem_singleton]; omega)
      refine st (new := [.int .i64 ((W.troops.getD k default).id), .int .i64 ((W.troops.getD k default).owner), .int .i64 ((W.troops.getD k default).kind), .int .i64 ((W.troops.getD k default).spot.x), .int .i64 ((W.troops.getD k default).spot.y), .int .i64 ((W.troops.getD k default).life), .int .i64 ((W.troops.getD k default).load)]) rfl rfl B_12 rfl OrO_sz_api_Troop rfl rfl rfl fun w_33 m_34 B_12 => ?_
      have q_36 := m_34.size
      have z_33 := Ext.mod z_28 m_34 (by simp only [List.mem_singleton, forall_eq]; omega)
      have q_35 := m_34.size
      refine vl (as_ rfl) rfl <| nl <| nT <| rt <| tB <| tT <| tK <| tB <| tT <| tR (.cell rfl (B_12.all OrO_ag_api_Troop OrO_sz_api_Troop) (.tmp rfl .nil)) <| ?_
      exact ⟨by rw [find_at (k := k) (by omega) (by simpa using h_32) hg]; rfl, z_33⟩
    · refine sk <| nB <| nT <| rg <| vl (bad rfl rfl (inI (by omega))) rfl <| vl (mv rfl) rfl <| nl <| ?_
      have B_12 := B_12.later x_23
      have B_12 := B_12.mod m_29 (by simp only [List.mem_singleton]; omega)
      exact nI _ _ ⟨k + 1, rfl, rfl, z_28, B_12, by omega, lt_succ_all hg (by simpa using h_32)⟩ (by omega) (.cons rfl (.cons rfl (.cons rfl (.cons rfl (.cons (loI rfl (by first | omega | rfl | (simp <;> omega))) .nil)))))
  · refine xt <| xT <| xK <| xB <| nT <| sq <| rg <| vl (v := .agg #[.int .i64 0, .int .i64 0, .int .i64 0, .int .i64 0, .int .i64 0, .int .i64 0, .int .i64 0]) (bd rfl (by kernel_rfl)) rfl <| st (new := [.int .i64 0, .int .i64 0, .int .i64 0, .int .i64 0, .int .i64 0, .int .i64 0, .int .i64 0]) rfl rfl B_12 rfl OrO_sz_api_Troop rfl rfl rfl fun w_37 m_38 B_12 => ?_
    have q_40 := m_38.size
    have z_37 := Ext.mod z_15 m_38 (by simp only [List.mem_singleton, forall_eq]; omega)
    have q_39 := m_38.size
    refine vl (as_ rfl) rfl <| nl <| nT <| rt <| tR (.cell rfl (B_12.all OrO_ag_api_Troop OrO_sz_api_Troop) (.tmp rfl .nil)) <| ?_
    exact ⟨by rw [find_no (fun i hi => hg i (by omega))]; rfl, z_37⟩
set_option maxRecDepth 100000 in
set_option maxHeartbeats 400000 in
theorem ownDel (x : Odr) (by_ : Int) (b5 : Nat) (w : World) (H5 : Blk w b5 [.int .i64 by_] 3 (0, 0)) :
    Calls Try.prog 47 #[.agg #[.int .i64 x.by_, .int .i64 x.kind, .int .i64 x.who, .int .i64 x.spot.x, .int .i64 x.spot.y, .int .i64 x.what], .pointer (some ⟨b5, 0, none⟩)] w (fun e w' => e = .returned (.bool (x.by_ != by_)) ∧ Ext w w') := by
  refine calls_W (n := 8) Try.func47 rfl rfl rfl ?_
  refine sq <| rg <| bx rfl rfl rfl rfl fun w_1 b_2 x_3 l_4 B_5 => ?_
  have q_6 := x_3.size
  have z_1 := Ext.tr (Ext.rf w) x_3
  have q_7 := B_5.lt
  refine vl (as_ rfl) rfl <| nl <| nT <| sq <| rg <| vl (fa OrO_fd_api_Order_0 rfl) rfl <| vl (ld rfl (B_5.one OrO_ag_int rfl)) rfl <| ?_
  have H5 := H5.later x_3
  refine vl (ld rfl (H5.one OrO_ag_int rfl)) rfl <| vl (bne rfl rfl) rfl <| vl (as_ rfl) rfl <| nl <| nT <| rt <| tR (.tmp rfl .nil) <| ?_
  exact ⟨rfl, z_1⟩
set_option maxRecDepth 100000 in
set_option maxHeartbeats 400000 in
theorem ownHas (x : Int) (a : Wd.At) (W : Wd) (by_ : Int) (b4 b5 : Nat) (w : World) (hW : Wd.Has w a W) (H4 : Blk w b4 (Wd.cells a W) 82 (0, 0)) (H5 : Blk w b5 [.int .i64 by_] 3 (0, 0)) :
    Calls Try.prog 48 #[.int .i64 x, .pointer (some ⟨b4, 0, none⟩), .pointer (some ⟨b5, 0, none⟩)] w (fun e w' => e = .returned (.bool (ownedB W by_ x)) ∧ Ext w w') := by
  have q4 := H4.lt
  have q5 := H5.lt
  refine calls_W (n := 20) Try.func48 rfl rfl rfl ?_
  refine sq <| rg <| vl (as_ rfl) rfl <| nl <| nT <| sq <| rg <| vl (ld rfl (H4.all OrO_ag_api_World OrO_sz_api_World)) rfl <| vl (mv rfl) rfl <| ca OrO_en_mustref_TroopOf rfl rfl ((trOf_any x a W _ (hW.keep (Ext.rf w))).mono ?_)
  rintro e w_1 ⟨rfl, x_2⟩
  refine ⟨_, rfl, ?_⟩
  have q_3 := x_2.size
  have z_1 := Ext.tr (Ext.rf w) x_2
  refine vl (mv rfl) rfl <| vl (ex rfl rfl) rfl <| vl (ex rfl rfl) rfl <| al rfl OrO_zv_api_Troop rfl rfl fun w_4 b_5 x_6 l_7 B_8 => ?_
  have q_9 := x_6.size
  have z_4 := Ext.tr z_1 x_6
  have q_10 := B_8.lt
  refine st (new := [.int .i64 ((((W.troops.find? (fun t => t.id == x)).getD default)).id), .int .i64 ((((W.troops.find? (fun t => t.id == x)).getD default)).owner), .int .i64 ((((W.troops.find? (fun t => t.id == x)).getD default)).kind), .int .i64 ((((W.troops.find? (fun t => t.id == x)).getD default)).spot.x), .int .i64 ((((W.troops.find? (fun t => t.id == x)).getD default)).spot.y), .int .i64 ((((W.troops.find? (fun t => t.id == x)).getD default)).life), .int .i64 ((((W.troops.find? (fun t => t.id == x)).getD default)).load)]) rfl rfl B_8 rfl OrO_sz_api_Troop rfl rfl rfl fun w_11 m_12 B_8 => ?_
  have q_14 := m_12.size
  have z_11 := Ext.mod z_4 m_12 (by simp only [List.mem_singleton, forall_eq]; omega)
  have q_13 := m_12.size
  refine vl (as_ rfl) rfl <| nl <| nT <| sq <| rg <| vl (mv rfl) rfl <| vl (mv rfl) rfl <| vQ rfl rfl rfl rfl (fun hc => fa OrO_fd_api_Troop_1 rfl) rfl <| vQ rfl rfl rfl rfl (fun hc => ld (gt hc rfl) (B_8.one OrO_ag_int rfl)) rfl <| ?_
  have H5 := H5.later (Ext.tr x_2 x_6)
  have H5 := H5.mod m_12 (by simp only [List.mem_singleton]; omega)
  refine vQ rfl rfl rfl rfl (fun hc => ld rfl (H5.one OrO_ag_int rfl)) rfl <| vQ rfl rfl rfl rfl (fun hc => beq (gt hc rfl) (gt hc rfl)) rfl <| vl (pA rfl rfl rfl rfl) rfl <| vl (as_ rfl) rfl <| nl <| nT <| rt <| tR (.tmp rfl .nil) <| ?_
  exact ⟨rfl, z_11⟩
set_option maxRecDepth 100000 in
set_option maxHeartbeats 1000000 in
theorem orderOwn_false (A : Option Addr) (c : Nat) (l : List Odr) (aw : Wd.At) (W : Wd) (by_ : Int) (w : World) (hl : Odr.rep.SHas 48 w A c l) (hW : Wd.Has w aw W) (hok1 : splE W (mineL l by_) ≠ 0) :
    Calls Try.prog 14 #[.slice A l.length c, .agg ((Wd.cells aw W).toArray), .int .i64 by_] w (fun e w' => e = .returned (.bool true) ∧ Ext w w') := by
  have hll := hl.len_le
  have hml := mine_len l by_
  refine calls_W (n := 102) Try.func14 rfl rfl rfl ?_
  refine sq <| rg <| bx rfl rfl rfl rfl fun w_1 b_2 x_3 l_4 B_5 => ?_
  have q_6 := x_3.size
  have z_1 := Ext.tr (Ext.rf w) x_3
  have q_7 := B_5.lt
  refine bx rfl rfl rfl rfl fun w_8 b_9 x_10 l_11 B_12 => ?_
  have q_13 := x_10.size
  have z_8 := Ext.tr z_1 x_10
  have q_14 := B_12.lt
  refine vl (as_ rfl) rfl <| nl <| nT <| sq <| rg <| vl (mv rfl) rfl <| ?_
  have V5 := B_12
  refine ca OrO_en_slices_Clone_S_api_Order_api_Order_ rfl rfl ((clone_O _ _ l _ (hl.keep z_8)).mono ?_)
  rintro e w_18 ⟨A_15, c_15, rfl, OC_15, hn_15, x_19⟩
  refine ⟨_, rfl, ?_⟩
  have q_20 := x_19.size
  have z_18 := Ext.tr z_8 x_19
  have u_16 := fun q hq => (OC_15.lt q hq).2
  have lo_17 := fun q hq => (OC_15.lt q hq).1
  refine vl (mf rfl rfl) rfl <| ca OrO_en_slices_DeleteFunc_S_api_Order_api_Order_ rfl rfl ((delF_O w_8 47 [.pointer (some ⟨b_9, 0, none⟩)] (fun x => x.by_ != by_) _ _ _ _ (by first | exact Ext.rf _ | assumption) OC_15 OrO_en_mustkeep_OrderOwn_1 (fun x hx w' h => ownDel x by_ b_9 w' (V5.later h))).mono ?_)
  rintro e w_23 ⟨rfl, OD_21, m_22⟩
  refine ⟨_, rfl, ?_⟩
  have q_24 := m_22.size
  have z_23 := Ext.mod z_18 m_22 (fun q hq => by have := (OC_15.lt q hq).1; omega)
  have OD_21 : Odr.rep.SOwn 92 48 w_23 w_8.heap.size (Rep.blkOf A_15) A_15 c_15 (mineL l by_) := OD_21
  refine vl (as_ rfl) rfl <| nl <| nT <| sq <| rg <| vl (mv rfl) rfl <| ?_
  have B_5 := B_5.later (Ext.tr x_10 x_19)
  have d_25 : ∀ q ∈ Rep.blkOf A_15, q = b_2 → False := fun q hq hb => by (have := lo_17 q hq; omega)
  have B_5 := B_5.mod m_22 (fun hq => d_25 _ hq rfl)
  refine vl (ld rfl (B_5.all OrO_ag_api_World OrO_sz_api_World)) rfl <| ca OrO_en_order_Split rfl rfl ((split_bad _ _ (mineL l by_) aw W _ OD_21.has (hW.keep z_23) hok1).mono ?_)
  rintro e w_26 ⟨rfl, x_27⟩
  refine ⟨_, rfl, ?_⟩
  have q_28 := x_27.size
  have z_26 := Ext.tr z_23 x_27
  refine vl (mv rfl) rfl <| vl (ex rfl rfl) rfl <| vl (ex rfl rfl) rfl <| vl (ex rfl rfl) rfl <| vl (ex rfl rfl) rfl <| vl (as_ rfl) rfl <| vl (as_ rfl) rfl <| vl (as_ rfl) rfl <| vl (as_ rfl) rfl <| nl <| nT <| sq <| sq <| rg <| ca OrO_en_mustkeep_orderLives rfl rfl ((orderLives_any _).mono ?_)
  rintro e w_29 ⟨rfl, x_30⟩
  refine ⟨_, rfl, ?_⟩
  have q_31 := x_30.size
  have z_29 := Ext.tr z_26 x_30
  refine vl (nt rfl) rfl <| vl (mv rfl) rfl <| ug rfl rfl rfl <| vl (mv rfl) rfl <| ug rfl rfl rfl <| vl (bne rfl rfl) rfl <| vl (pkF rfl rfl) rfl <| nl <| nT <| ?_
  have h_32 : ((splE W (mineL l by_)) != 0) = true := by simp [hok1]
  refine cT (by rw [← h_32]; rfl) <| sq <| rg <| ca OrO_en_mustkeep_orderLives rfl rfl ((orderLives_any _).mono ?_)
  rintro e w_33 ⟨rfl, x_34⟩
  refine ⟨_, rfl, ?_⟩
  have q_35 := x_34.size
  have z_33 := Ext.tr z_29 x_34
  refine vl (as_ rfl) rfl <| nl <| nT <| rt <| tT <| tR (.tmp rfl .nil) <| ?_
  exact ⟨rfl, z_33⟩
set_option maxRecDepth 100000 in
set_option maxHeartbeats 1000000 in
theorem orderOwn_true (A : Option Addr) (c : Nat) (l : List Odr) (aw : Wd.At) (W : Wd) (by_ : Int) (w : World) (hl : Odr.rep.SHas 48 w A c l) (hW : Wd.Has w aw W) (hok1 : splE W (mineL l by_) = 0) :
    Calls Try.prog 14 #[.slice A l.length c, .agg ((Wd.cells aw W).toArray), .int .i64 by_] w (fun e w' => e = .returned (.bool true) ∧ Ext w w') := by
  have hll := hl.len_le
  have hml := mine_len l by_
  have hm100 := splE_len hok1
  have hW0 := Good.of_chk (splE_zero hok1).2
  have hsl := spl_len W (mineL l by_) (mineL l by_).length
  refine calls_W (n := 102) Try.func14 rfl rfl rfl ?_
  refine sq <| rg <| bx rfl rfl rfl rfl fun w_1 b_2 x_3 l_4 B_5 => ?_
  have q_6 := x_3.size
  have z_1 := Ext.tr (Ext.rf w) x_3
  have q_7 := B_5.lt
  refine bx rfl rfl rfl rfl fun w_8 b_9 x_10 l_11 B_12 => ?_
  have q_13 := x_10.size
  have z_8 := Ext.tr z_1 x_10
  have q_14 := B_12.lt
  refine vl (as_ rfl) rfl <| nl <| nT <| sq <| rg <| vl (mv rfl) rfl <| ?_
  have V5 := B_12
  refine ca OrO_en_slices_Clone_S_api_Order_api_Order_ rfl rfl ((clone_O _ _ l _ (hl.keep z_8)).mono ?_)
  rintro e w_18 ⟨A_15, c_15, rfl, OC_15, hn_15, x_19⟩
  refine ⟨_, rfl, ?_⟩
  have q_20 := x_19.size
  have z_18 := Ext.tr z_8 x_19
  have u_16 := fun q hq => (OC_15.lt q hq).2
  have lo_17 := fun q hq => (OC_15.lt q hq).1
  refine vl (mf rfl rfl) rfl <| ca OrO_en_slices_DeleteFunc_S_api_Order_api_Order_ rfl rfl ((delF_O w_8 47 [.pointer (some ⟨b_9, 0, none⟩)] (fun x => x.by_ != by_) _ _ _ _ (by first | exact Ext.rf _ | assumption) OC_15 OrO_en_mustkeep_OrderOwn_1 (fun x hx w' h => ownDel x by_ b_9 w' (V5.later h))).mono ?_)
  rintro e w_23 ⟨rfl, OD_21, m_22⟩
  refine ⟨_, rfl, ?_⟩
  have q_24 := m_22.size
  have z_23 := Ext.mod z_18 m_22 (fun q hq => by have := (OC_15.lt q hq).1; omega)
  have OD_21 : Odr.rep.SOwn 92 48 w_23 w_8.heap.size (Rep.blkOf A_15) A_15 c_15 (mineL l by_) := OD_21
  refine vl (as_ rfl) rfl <| nl <| nT <| sq <| rg <| vl (mv rfl) rfl <| ?_
  have B_5 := B_5.later (Ext.tr x_10 x_19)
  have d_25 : ∀ q ∈ Rep.blkOf A_15, q = b_2 → False := fun q hq hb => by (have := lo_17 q hq; omega)
  have B_5 := B_5.mod m_22 (fun hq => d_25 _ hq rfl)
  refine vl (ld rfl (B_5.all OrO_ag_api_World OrO_sz_api_World)) rfl <| ca OrO_en_order_Split rfl rfl ((split_ok _ _ (mineL l by_) aw W _ OD_21.has (hW.keep z_23) hok1).mono ?_)
  rintro e w_33 ⟨A_260, c_260, A_261, c_261, A_262, c_262, rfl, OS_260, OS_261, OS_262, x_34⟩
  refine ⟨_, rfl, ?_⟩
  have q_35 := x_34.size
  have z_33 := Ext.tr z_23 x_34
  have u_27 := fun q hq => (OS_260.lt q hq).2
  have lo_28 := fun q hq => (OS_260.lt q hq).1
  have u_29 := fun q hq => (OS_261.lt q hq).2
  have lo_30 := fun q hq => (OS_261.lt q hq).1
  have u_31 := fun q hq => (OS_262.lt q hq).2
  have lo_32 := fun q hq => (OS_262.lt q hq).1
  refine vl (mv rfl) rfl <| vl (ex rfl rfl) rfl <| vl (ex rfl rfl) rfl <| vl (ex rfl rfl) rfl <| vl (ex rfl rfl) rfl <| vl (as_ rfl) rfl <| vl (as_ rfl) rfl <| vl (as_ rfl) rfl <| vl (as_ rfl) rfl <| nl <| nT <| sq <| sq <| rg <| ca OrO_en_mustkeep_orderLives rfl rfl ((orderLives_any _).mono ?_)
  rintro e w_36 ⟨rfl, x_37⟩
  refine ⟨_, rfl, ?_⟩
  have q_38 := x_37.size
  have z_36 := Ext.tr z_33 x_37
  refine vl (nt rfl) rfl <| vl (mv rfl) rfl <| ug rfl rfl rfl <| vl (mv rfl) rfl <| ug rfl rfl rfl <| vl (bne rfl rfl) rfl <| vl (pkF rfl rfl) rfl <| nl <| nT <| cF rfl <| sk <| nT <| sq <| rg <| vl (mf rfl rfl) rfl <| vl (as_ rfl) rfl <| nl <| nT <| sq <| sq <| rg <| vl (mv rfl) rfl <| vl (ln Try.underlying83 rfl) rfl <| vl (mv rfl) rfl <| ?_
  refine nl <| nT <| bk <| ?_
  have B_5 := B_5.later (Ext.tr x_34 x_37)
  have B_12 := B_12.later x_19
  have d_40 : ∀ q ∈ Rep.blkOf A_15, q = b_9 → False := fun q hq hb => by (have := lo_17 q hq; omega)
  have B_12 := B_12.mod m_22 (fun hq => d_40 _ hq rfl)
  have B_12 := B_12.later (Ext.tr x_34 x_37)
  have OD_21 := OD_21.later (Ext.tr x_34 x_37)
  have OS_260 := OS_260.later x_37
  have OS_261 := OS_261.later x_37
  have OS_262 := OS_262.later x_37
  refine lp (fun mI EI wI => ∃ k0 : Nat, EI = [(5, .pointer (some ⟨b_9, 0, none⟩)), (7, .slice A_15 ((mineL l by_).length) c_15), (8, .slice A_260 ((splB W (mineL l by_) (mineL l by_).length).length) c_260), (9, .slice A_261 ((splG W (mineL l by_) (mineL l by_).length).length) c_261), (10, .slice A_262 ((splD W (mineL l by_) (mineL l by_).length).length) c_262), (12, .func (.func 48) #[] #[.pointer (some ⟨b_2, 0, none⟩), .pointer (some ⟨b_9, 0, none⟩)]), (39, .slice A_260 ((splB W (mineL l by_) (mineL l by_).length).length) c_260), (40, .int .i64 ((((splB W (mineL l by_) (mineL l by_).length).length : Nat) : Int))), (41, .int .i64 (k0 : Int))] ∧ mI = (splB W (mineL l by_) (mineL l by_).length).length - k0 ∧ Ext w wI ∧ Blk wI b_2 (Wd.cells aw W) 82 (0, 0) ∧ Blk wI b_9 [.int .i64 by_] 3 (0, 0) ∧ Odr.rep.SOwn 92 48 wI w_8.heap.size (Rep.blkOf A_15) A_15 c_15 (mineL l by_) ∧ Blw.rep.SOwn 95 16 wI w_23.heap.size (Rep.blkOf A_260) A_260 c_260 (splB W (mineL l by_) (mineL l by_).length) ∧ Gox.rep.SOwn 99 24 wI w_23.heap.size (Rep.blkOf A_261) A_261 c_261 (splG W (mineL l by_) (mineL l by_).length) ∧ Ded.rep.SOwn 103 40 wI w_23.heap.size (Rep.blkOf A_262) A_262 c_262 (splD W (mineL l by_) (mineL l by_).length) ∧ (k0 ≤ (splB W (mineL l by_) (mineL l by_).length).length)) _ _ ⟨0, rfl, rfl, z_36, B_5, B_12, OD_21, OS_260, OS_261, OS_262, by omega⟩ (.cons rfl (.cons rfl (.cons rfl (.cons rfl (.cons rfl (.cons rfl (.cons rfl (.cons rfl (.cons (loI rfl (by first | omega | rfl | (simp <;> omega))) .nil))))))))) ?_
  rintro m_41 E_42 w_39 ⟨k0, rfl, rfl, z_39, B_5, B_12, OD_21, OS_260, OS_261, OS_262, hk0⟩
  have q_43 := z_39.size
  have q_44 := B_5.lt
  have q_45 := B_12.lt
  have u_46 := fun q hq => (OD_21.lt q hq).2
  have u_47 := fun q hq => (OS_260.lt q hq).2
  have u_48 := fun q hq => (OS_261.lt q hq).2
  have u_49 := fun q hq => (OS_262.lt q hq).2
  refine sq <| rg <| vl (blt rfl rfl) rfl <| nl <| nT <| sq <| ?_
  refine clt rfl (fun h_50 => ?_) (fun h_50 => ?_)
  · refine sk <| nT <| sq <| bk <| sq <| rg <| vl (iA k0 Try.underlying83 OrO_sz_api_Blow rfl rfl (OS_260.has.adr (Nat.zero_lt_of_lt (show k0 < _ from (by omega)))) rfl (by omega)) rfl <| vl (ld rfl (Rep.SHas.elt hcW (OS_260.has.adh (Nat.zero_lt_of_lt (show k0 < _ from (by omega)))) (get_d (l := splB W (mineL l by_) (mineL l by_).length) (u := default) (by omega)) OrO_ag_api_Blow OrO_sz_api_Blow)) rfl <| al rfl OrO_zv_api_Blow rfl rfl fun w_51 b_52 x_53 l_54 B_55 => ?_
    have q_56 := x_53.size
    have z_51 := Ext.tr z_39 x_53
    have q_57 := B_55.lt
    refine st (new := [.int .i64 (((splB W (mineL l by_) (mineL l by_).length).getD k0 default).who), .int .i64 (((splB W (mineL l by_) (mineL l by_).length).getD k0 default).whom)]) rfl rfl B_55 rfl OrO_sz_api_Blow rfl rfl rfl fun w_58 m_59 B_55 => ?_
    have q_61 := m_59.size
    have z_58 := Ext.mod z_51 m_59 (by simp only [List.mem_singleton, forall_eq]; omega)
    have q_60 := m_59.size
    refine nl <| nT <| sq <| rg <| vl (mv rfl) rfl <| vl (fa OrO_fd_api_Blow_0 rfl) rfl <| vl (ld rfl (B_55.one OrO_ag_int rfl)) rfl <| ?_
    have B_5 := B_5.later x_53
    have B_5 := B_5.mod m_59 (by simp only [List.mem_singleton]; omega)
    have B_12 := B_12.later x_53
    have B_12 := B_12.mod m_59 (by simp only [List.mem_singleton]; omega)
    have ho_62 : (ownedB W by_ (((splB W (mineL l by_) (mineL l by_).length).getD k0 default).who)) = true := ownB hW0 (mem_dd (d := default) (by omega))
    refine cv OrO_en_mustkeep_OrderOwn_2 rfl rfl rfl ((ownHas (((splB W (mineL l by_) (mineL l by_).length).getD k0 default).who) aw W by_ b_2 b_9 _ (hW.keep z_58) B_5 B_12).mono ?_)
    rintro e w_63 ⟨rfl, x_64⟩
    refine ⟨_, rfl, ?_⟩
    have q_65 := x_64.size
    have z_63 := Ext.tr z_58 x_64
    refine vl (nt (evb rfl ho_62)) rfl <| nl <| nT <| cF rfl <| sk <| nB <| nT <| rg <| vl (bad rfl rfl (inI (by omega))) rfl <| vl (mv rfl) rfl <| nl <| ?_
    have B_5 := B_5.later x_64
    have B_12 := B_12.later x_64
    have OD_21 := OD_21.later x_53
    have OD_21 := OD_21.mod m_59 (fun q hq h => by have hb := List.mem_singleton.1 h; exfalso; (have := u_46 q hq; have := u_16 q hq; omega))
    have OD_21 := OD_21.later x_64
    have OS_260 := OS_260.later x_53
    have OS_260 := OS_260.mod m_59 (fun q hq h => by have hb := List.mem_singleton.1 h; exfalso; (have := u_47 q hq; have := u_27 q hq; omega))
    have OS_260 := OS_260.later x_64
    have OS_261 := OS_261.later x_53
    have OS_261 := OS_261.mod m_59 (fun q hq h => by have hb := List.mem_singleton.1 h; exfalso; (have := u_48 q hq; have := u_29 q hq; omega))
    have OS_261 := OS_261.later x_64
    have OS_262 := OS_262.later x_53
    have OS_262 := OS_262.mod m_59 (fun q hq h => by have hb := List.mem_singleton.1 h; exfalso; (have := u_49 q hq; have := u_31 q hq; omega))
    have OS_262 := OS_262.later x_64
    exact nI _ _ ⟨k0 + 1, rfl, rfl, z_63, B_5, B_12, OD_21, OS_260, OS_261, OS_262, by omega⟩ (by omega) (.cons rfl (.cons rfl (.cons rfl (.cons rfl (.cons rfl (.cons rfl (.cons rfl (.cons rfl (.cons (loI rfl (by first | omega | rfl | (simp <;> omega))) .nil)))))))))
  · refine xt <| xT <| xK <| xB <| nT <| sq <| sq <| rg <| vl (mv rfl) rfl <| vl (ln Try.underlying84 rfl) rfl <| vl (mv rfl) rfl <| nl <| nT <| bk <| ?_
    refine lp (fun mI EI wI => ∃ k1 : Nat, EI = [(5, .pointer (some ⟨b_9, 0, none⟩)), (7, .slice A_15 ((mineL l by_).length) c_15), (8, .slice A_260 ((splB W (mineL l by_) (mineL l by_).length).length) c_260), (9, .slice A_261 ((splG W (mineL l by_) (mineL l by_).length).length) c_261), (10, .slice A_262 ((splD W (mineL l by_) (mineL l by_).length).length) c_262), (12, .func (.func 48) #[] #[.pointer (some ⟨b_2, 0, none⟩), .pointer (some ⟨b_9, 0, none⟩)]), (51, .slice A_261 ((splG W (mineL l by_) (mineL l by_).length).length) c_261), (52, .int .i64 ((((splG W (mineL l by_) (mineL l by_).length).length : Nat) : Int))), (53, .int .i64 (k1 : Int))] ∧ mI = (splG W (mineL l by_) (mineL l by_).length).length - k1 ∧ Ext w wI ∧ Blk wI b_2 (Wd.cells aw W) 82 (0, 0) ∧ Blk wI b_9 [.int .i64 by_] 3 (0, 0) ∧ Odr.rep.SOwn 92 48 wI w_8.heap.size (Rep.blkOf A_15) A_15 c_15 (mineL l by_) ∧ Blw.rep.SOwn 95 16 wI w_23.heap.size (Rep.blkOf A_260) A_260 c_260 (splB W (mineL l by_) (mineL l by_).length) ∧ Gox.rep.SOwn 99 24 wI w_23.heap.size (Rep.blkOf A_261) A_261 c_261 (splG W (mineL l by_) (mineL l by_).length) ∧ Ded.rep.SOwn 103 40 wI w_23.heap.size (Rep.blkOf A_262) A_262 c_262 (splD W (mineL l by_) (mineL l by_).length) ∧ (k1 ≤ (splG W (mineL l by_) (mineL l by_).length).length)) _ _ ⟨0, rfl, rfl, z_39, B_5, B_12, OD_21, OS_260, OS_261, OS_262, by omega⟩ (.cons rfl (.cons rfl (.cons rfl (.cons rfl (.cons rfl (.cons rfl (.cons rfl (.cons rfl (.cons (loI rfl (by first | omega | rfl | (simp <;> omega))) .nil))))))))) ?_
    rintro m_67 E_68 w_66 ⟨k1, rfl, rfl, z_66, B_5, B_12, OD_21, OS_260, OS_261, OS_262, hk1⟩
    have q_69 := z_66.size
    have q_70 := B_5.lt
    have q_71 := B_12.lt
    have u_72 := fun q hq => (OD_21.lt q hq).2
    have u_73 := fun q hq => (OS_260.lt q hq).2
    have u_74 := fun q hq => (OS_261.lt q hq).2
    have u_75 := fun q hq => (OS_262.lt q hq).2
    refine sq <| rg <| vl (blt rfl rfl) rfl <| nl <| nT <| sq <| ?_
    refine clt rfl (fun h_76 => ?_) (fun h_76 => ?_)
    · refine sk <| nT <| sq <| bk <| sq <| rg <| vl (iA k1 Try.underlying84 OrO_sz_api_Go rfl rfl (OS_261.has.adr (Nat.zero_lt_of_lt (show k1 < _ from (by omega)))) rfl (by omega)) rfl <| vl (ld rfl (Rep.SHas.elt hcGo (OS_261.has.adh (Nat.zero_lt_of_lt (show k1 < _ from (by omega)))) (get_d (l := splG W (mineL l by_) (mineL l by_).length) (u := default) (by omega)) OrO_ag_api_Go OrO_sz_api_Go)) rfl <| al rfl OrO_zv_api_Go rfl rfl fun w_77 b_78 x_79 l_80 B_81 => ?_
      have q_82 := x_79.size
      have z_77 := Ext.tr z_66 x_79
      have q_83 := B_81.lt
      refine st (new := [.int .i64 (((splG W (mineL l by_) (mineL l by_).length).getD k1 default).id), .int .i64 (((splG W (mineL l by_) (mineL l by_).length).getD k1 default).to.x), .int .i64 (((splG W (mineL l by_) (mineL l by_).length).getD k1 default).to.y)]) rfl rfl B_81 rfl OrO_sz_api_Go rfl rfl rfl fun w_84 m_85 B_81 => ?_
      have q_87 := m_85.size
      have z_84 := Ext.mod z_77 m_85 (by simp only [List.mem_singleton, forall_eq]; omega)
      have q_86 := m_85.size
      refine nl <| nT <| sq <| rg <| vl (mv rfl) rfl <| vl (fa OrO_fd_api_Go_0 rfl) rfl <| vl (ld rfl (B_81.one OrO_ag_int rfl)) rfl <| ?_
      have B_5 := B_5.later x_79
      have B_5 := B_5.mod m_85 (by simp only [List.mem_singleton]; omega)
      have B_12 := B_12.later x_79
      have B_12 := B_12.mod m_85 (by simp only [List.mem_singleton]; omega)
      have ho_88 : (ownedB W by_ (((splG W (mineL l by_) (mineL l by_).length).getD k1 default).id)) = true := ownG hW0 (mem_dd (d := default) (by omega))
      refine cv OrO_en_mustkeep_OrderOwn_2 rfl rfl rfl ((ownHas (((splG W (mineL l by_) (mineL l by_).length).getD k1 default).id) aw W by_ b_2 b_9 _ (hW.keep z_84) B_5 B_12).mono ?_)
      rintro e w_89 ⟨rfl, x_90⟩
      refine ⟨_, rfl, ?_⟩
      have q_91 := x_90.size
      have z_89 := Ext.tr z_84 x_90
      refine vl (nt (evb rfl ho_88)) rfl <| nl <| nT <| cF rfl <| sk <| nB <| nT <| rg <| vl (bad rfl rfl (inI (by omega))) rfl <| vl (mv rfl) rfl <| nl <| ?_
      have B_5 := B_5.later x_90
      have B_12 := B_12.later x_90
      have OD_21 := OD_21.later x_79
      have OD_21 := OD_21.mod m_85 (fun q hq h => by have hb := List.mem_singleton.1 h; exfalso; (have := u_72 q hq; have := u_16 q hq; have := u_46 q hq; omega))
      have OD_21 := OD_21.later x_90
      have OS_260 := OS_260.later x_79
      have OS_260 := OS_260.mod m_85 (fun q hq h => by have hb := List.mem_singleton.1 h; exfalso; (have := u_73 q hq; have := u_27 q hq; have := u_47 q hq; omega))
      have OS_260 := OS_260.later x_90
      have OS_261 := OS_261.later x_79
      have OS_261 := OS_261.mod m_85 (fun q hq h => by have hb := List.mem_singleton.1 h; exfalso; (have := u_74 q hq; have := u_29 q hq; have := u_48 q hq; omega))
      have OS_261 := OS_261.later x_90
      have OS_262 := OS_262.later x_79
      have OS_262 := OS_262.mod m_85 (fun q hq h => by have hb := List.mem_singleton.1 h; exfalso; (have := u_75 q hq; have := u_31 q hq; have := u_49 q hq; omega))
      have OS_262 := OS_262.later x_90
      exact nI _ _ ⟨k1 + 1, rfl, rfl, z_89, B_5, B_12, OD_21, OS_260, OS_261, OS_262, by omega⟩ (by omega) (.cons rfl (.cons rfl (.cons rfl (.cons rfl (.cons rfl (.cons rfl (.cons rfl (.cons rfl (.cons (loI rfl (by first | omega | rfl | (simp <;> omega))) .nil)))))))))
    · refine xt <| xT <| xK <| xB <| nT <| sq <| sq <| rg <| vl (mv rfl) rfl <| vl (ln Try.underlying85 rfl) rfl <| vl (mv rfl) rfl <| nl <| nT <| bk <| ?_
      refine lp (fun mI EI wI => ∃ k2 : Nat, EI = [(5, .pointer (some ⟨b_9, 0, none⟩)), (7, .slice A_15 ((mineL l by_).length) c_15), (8, .slice A_260 ((splB W (mineL l by_) (mineL l by_).length).length) c_260), (9, .slice A_261 ((splG W (mineL l by_) (mineL l by_).length).length) c_261), (10, .slice A_262 ((splD W (mineL l by_) (mineL l by_).length).length) c_262), (12, .func (.func 48) #[] #[.pointer (some ⟨b_2, 0, none⟩), .pointer (some ⟨b_9, 0, none⟩)]), (63, .slice A_262 ((splD W (mineL l by_) (mineL l by_).length).length) c_262), (64, .int .i64 ((((splD W (mineL l by_) (mineL l by_).length).length : Nat) : Int))), (65, .int .i64 (k2 : Int))] ∧ mI = (splD W (mineL l by_) (mineL l by_).length).length - k2 ∧ Ext w wI ∧ Blk wI b_2 (Wd.cells aw W) 82 (0, 0) ∧ Blk wI b_9 [.int .i64 by_] 3 (0, 0) ∧ Odr.rep.SOwn 92 48 wI w_8.heap.size (Rep.blkOf A_15) A_15 c_15 (mineL l by_) ∧ Blw.rep.SOwn 95 16 wI w_23.heap.size (Rep.blkOf A_260) A_260 c_260 (splB W (mineL l by_) (mineL l by_).length) ∧ Gox.rep.SOwn 99 24 wI w_23.heap.size (Rep.blkOf A_261) A_261 c_261 (splG W (mineL l by_) (mineL l by_).length) ∧ Ded.rep.SOwn 103 40 wI w_23.heap.size (Rep.blkOf A_262) A_262 c_262 (splD W (mineL l by_) (mineL l by_).length) ∧ (k2 ≤ (splD W (mineL l by_) (mineL l by_).length).length)) _ _ ⟨0, rfl, rfl, z_66, B_5, B_12, OD_21, OS_260, OS_261, OS_262, by omega⟩ (.cons rfl (.cons rfl (.cons rfl (.cons rfl (.cons rfl (.cons rfl (.cons rfl (.cons rfl (.cons (loI rfl (by first | omega | rfl | (simp <;> omega))) .nil))))))))) ?_
      rintro m_93 E_94 w_92 ⟨k2, rfl, rfl, z_92, B_5, B_12, OD_21, OS_260, OS_261, OS_262, hk2⟩
      have q_95 := z_92.size
      have q_96 := B_5.lt
      have q_97 := B_12.lt
      have u_98 := fun q hq => (OD_21.lt q hq).2
      have u_99 := fun q hq => (OS_260.lt q hq).2
      have u_100 := fun q hq => (OS_261.lt q hq).2
      have u_101 := fun q hq => (OS_262.lt q hq).2
      refine sq <| rg <| vl (blt rfl rfl) rfl <| nl <| nT <| sq <| ?_
      refine clt rfl (fun h_102 => ?_) (fun h_102 => ?_)
      · refine sk <| nT <| sq <| bk <| sq <| rg <| vl (iA k2 Try.underlying85 OrO_sz_api_Deed rfl rfl (OS_262.has.adr (Nat.zero_lt_of_lt (show k2 < _ from (by omega)))) rfl (by omega)) rfl <| vl (ld rfl (Rep.SHas.elt hcD (OS_262.has.adh (Nat.zero_lt_of_lt (show k2 < _ from (by omega)))) (get_d (l := splD W (mineL l by_) (mineL l by_).length) (u := default) (by omega)) OrO_ag_api_Deed OrO_sz_api_Deed)) rfl <| al rfl OrO_zv_api_Deed rfl rfl fun w_103 b_104 x_105 l_106 B_107 => ?_
        have q_108 := x_105.size
        have z_103 := Ext.tr z_92 x_105
        have q_109 := B_107.lt
        refine st (new := [.int .i64 (((splD W (mineL l by_) (mineL l by_).length).getD k2 default).kind), .int .i64 (((splD W (mineL l by_) (mineL l by_).length).getD k2 default).who), .int .i64 (((splD W (mineL l by_) (mineL l by_).length).getD k2 default).spot.x), .int .i64 (((splD W (mineL l by_) (mineL l by_).length).getD k2 default).spot.y), .int .i64 (((splD W (mineL l by_) (mineL l by_).length).getD k2 default).what)]) rfl rfl B_107 rfl OrO_sz_api_Deed rfl rfl rfl fun w_110 m_111 B_107 => ?_
        have q_113 := m_111.size
        have z_110 := Ext.mod z_103 m_111 (by simp only [List.mem_singleton, forall_eq]; omega)
        have q_112 := m_111.size
        refine nl <| nT <| sq <| ?_
        rcases Bool.eq_false_or_eq_true ((((splD W (mineL l by_) (mineL l by_).length).getD k2 default).kind) == 3) with hk3 | hk3
        · have hk4 : ((((splD W (mineL l by_) (mineL l by_).length).getD k2 default).kind) != 3) = false := by simpa using hk3
          have hk5 : ((((splD W (mineL l by_) (mineL l by_).length).getD k2 default).who) != by_) = false := ownD3 (mem_dd (d := default) (by omega)) hk3
          refine rg <| vl (fa OrO_fd_api_Deed_0 rfl) rfl <| vl (ld rfl (B_107.one OrO_ag_int rfl)) rfl <| vl (beq rfl rfl) rfl <| vl (mv (evb rfl hk3)) rfl <| ug rfl rfl rfl <| vl (fa OrO_fd_api_Deed_1 rfl) rfl <| ug rfl rfl rfl <| vl (ld rfl (B_107.one OrO_ag_int rfl)) rfl <| ug rfl rfl rfl <| ?_
          have B_12 := B_12.later x_105
          have B_12 := B_12.mod m_111 (by simp only [List.mem_singleton]; omega)
          refine vl (ld rfl (B_12.one OrO_ag_int rfl)) rfl <| ug rfl rfl rfl <| vl (bne rfl rfl) rfl <| vl (pkT rfl (evb rfl hk5)) rfl <| vl (mv rfl) rfl <| ug rfl rfl rfl <| vl (fa OrO_fd_api_Deed_0 rfl) rfl <| ug rfl rfl rfl <| vl (ld rfl (B_107.one OrO_ag_int rfl)) rfl <| ug rfl rfl rfl <| vl (bne rfl rfl) rfl <| ug rfl rfl rfl <| vl (mv (evb rfl hk4)) rfl <| vQ (v := undef) rfl rfl rfl rfl (fun hc => nomatch hc) rfl <| vQ (v := undef) rfl rfl rfl rfl (fun hc => nomatch hc) rfl <| vQ (v := undef) rfl rfl rfl rfl (fun hc => nomatch hc) rfl <| vQ (v := undef) rfl rfl rfl rfl (fun hc => nomatch hc) rfl <| vQ (v := undef) rfl rfl rfl rfl (fun hc => nomatch hc) rfl <| ug rfl rfl rfl <| vl (pkF rfl rfl) rfl <| vl (pkF rfl rfl) rfl <| nl <| nT <| cF rfl <| ?_
          refine sk <| nB <| nT <| rg <| vl (bad rfl rfl (inI (by omega))) rfl <| vl (mv rfl) rfl <| nl <| ?_
          have B_5 := B_5.later x_105
          have B_5 := B_5.mod m_111 (by simp only [List.mem_singleton]; omega)
          have OD_21 := OD_21.later x_105
          have OD_21 := OD_21.mod m_111 (fun q hq h => by have hb := List.mem_singleton.1 h; exfalso; (have := u_98 q hq; have := u_16 q hq; have := u_46 q hq; have := u_72 q hq; omega))
          have OS_260 := OS_260.later x_105
          have OS_260 := OS_260.mod m_111 (fun q hq h => by have hb := List.mem_singleton.1 h; exfalso; (have := u_99 q hq; have := u_27 q hq; have := u_47 q hq; have := u_73 q hq; omega))
          have OS_261 := OS_261.later x_105
          have OS_261 := OS_261.mod m_111 (fun q hq h => by have hb := List.mem_singleton.1 h; exfalso; (have := u_100 q hq; have := u_29 q hq; have := u_48 q hq; have := u_74 q hq; omega))
          have OS_262 := OS_262.later x_105
          have OS_262 := OS_262.mod m_111 (fun q hq h => by have hb := List.mem_singleton.1 h; exfalso; (have := u_101 q hq; have := u_31 q hq; have := u_49 q hq; have := u_75 q hq; omega))
          exact nI _ _ ⟨k2 + 1, rfl, rfl, z_110, B_5, B_12, OD_21, OS_260, OS_261, OS_262, by omega⟩ (by omega) (.cons rfl (.cons rfl (.cons rfl (.cons rfl (.cons rfl (.cons rfl (.cons rfl (.cons rfl (.cons (loI rfl (by first | omega | rfl | (simp <;> omega))) .nil)))))))))
        · have hk4 : ((((splD W (mineL l by_) (mineL l by_).length).getD k2 default).kind) != 3) = true := by simpa using hk3
          refine rg <| vl (fa OrO_fd_api_Deed_0 rfl) rfl <| vl (ld rfl (B_107.one OrO_ag_int rfl)) rfl <| vl (beq rfl rfl) rfl <| vl (mv (evb rfl hk3)) rfl <| vQ (v := undef) rfl rfl rfl rfl (fun hc => nomatch hc) rfl <| vQ (v := undef) rfl rfl rfl rfl (fun hc => nomatch hc) rfl <| vQ (v := undef) rfl rfl rfl rfl (fun hc => nomatch hc) rfl <| vQ (v := undef) rfl rfl rfl rfl (fun hc => nomatch hc) rfl <| vl (pkF rfl rfl) rfl <| vl (mv rfl) rfl <| ug rfl rfl rfl <| vl (fa OrO_fd_api_Deed_0 rfl) rfl <| ug rfl rfl rfl <| vl (ld rfl (B_107.one OrO_ag_int rfl)) rfl <| ug rfl rfl rfl <| vl (bne rfl rfl) rfl <| ug rfl rfl rfl <| vl (mv (evb rfl hk4)) rfl <| ug rfl rfl rfl <| vl (mv rfl) rfl <| ug rfl rfl rfl <| vl (fa OrO_fd_api_Deed_1 rfl) rfl <| ug rfl rfl rfl <| ?_
          refine vl (ld rfl (B_107.one OrO_ag_int rfl)) rfl <| ug rfl rfl rfl <| ?_
          have B_5 := B_5.later x_105
          have B_5 := B_5.mod m_111 (by simp only [List.mem_singleton]; omega)
          have B_12 := B_12.later x_105
          have B_12 := B_12.mod m_111 (by simp only [List.mem_singleton]; omega)
          have ho_114 : (ownedB W by_ (((splD W (mineL l by_) (mineL l by_).length).getD k2 default).who)) = true := ownD hW0 (mem_dd (d := default) (by omega)) hk3
          refine cv OrO_en_mustkeep_OrderOwn_2 rfl rfl rfl ((ownHas (((splD W (mineL l by_) (mineL l by_).length).getD k2 default).who) aw W by_ b_2 b_9 _ (hW.keep z_110) B_5 B_12).mono ?_)
          rintro e w_115 ⟨rfl, x_116⟩
          refine ⟨_, rfl, ?_⟩
          have q_117 := x_116.size
          have z_115 := Ext.tr z_110 x_116
          refine ug rfl rfl rfl <| vl (nt (evb rfl ho_114)) rfl <| ug rfl rfl rfl <| vl (pkT rfl rfl) rfl <| vl (pkF rfl rfl) rfl <| nl <| nT <| cF rfl <| sk <| nB <| nT <| rg <| vl (bad rfl rfl (inI (by omega))) rfl <| vl (mv rfl) rfl <| nl <| ?_
          have B_5 := B_5.later x_116
          have B_12 := B_12.later x_116
          have OD_21 := OD_21.later x_105
          have OD_21 := OD_21.mod m_111 (fun q hq h => by have hb := List.mem_singleton.1 h; exfalso; (have := u_98 q hq; have := u_16 q hq; have := u_46 q hq; have := u_72 q hq; omega))
          have OD_21 := OD_21.later x_116
          have OS_260 := OS_260.later x_105
          have OS_260 := OS_260.mod m_111 (fun q hq h => by have hb := List.mem_singleton.1 h; exfalso; (have := u_99 q hq; have := u_27 q hq; have := u_47 q hq; have := u_73 q hq; omega))
          have OS_260 := OS_260.later x_116
          have OS_261 := OS_261.later x_105
          have OS_261 := OS_261.mod m_111 (fun q hq h => by have hb := List.mem_singleton.1 h; exfalso; (have := u_100 q hq; have := u_29 q hq; have := u_48 q hq; have := u_74 q hq; omega))
          have OS_261 := OS_261.later x_116
          have OS_262 := OS_262.later x_105
          have OS_262 := OS_262.mod m_111 (fun q hq h => by have hb := List.mem_singleton.1 h; exfalso; (have := u_101 q hq; have := u_31 q hq; have := u_49 q hq; have := u_75 q hq; omega))
          have OS_262 := OS_262.later x_116
          exact nI _ _ ⟨k2 + 1, rfl, rfl, z_115, B_5, B_12, OD_21, OS_260, OS_261, OS_262, by omega⟩ (by omega) (.cons rfl (.cons rfl (.cons rfl (.cons rfl (.cons rfl (.cons rfl (.cons rfl (.cons rfl (.cons (loI rfl (by first | omega | rfl | (simp <;> omega))) .nil)))))))))
      · refine xt <| xT <| xK <| xB <| nT <| sq <| rg <| vl (mv rfl) rfl <| vl (ln Try.underlying83 rfl) rfl <| vl (mv rfl) rfl <| vl (ln Try.underlying84 rfl) rfl <| vl (bad rfl rfl (inI (by omega))) rfl <| vl (mv rfl) rfl <| vl (ln Try.underlying85 rfl) rfl <| vl (bad rfl rfl (inI (by omega))) rfl <| vl (mv rfl) rfl <| vl (ln Try.underlying76 rfl) rfl <| vl (ble rfl rfl) rfl <| vl (as_ rfl) rfl <| nl <| nT <| rt <| tR (.tmp rfl .nil) <| ?_
        exact ⟨ret_true (by have := spl_sum W (mineL l by_) (mineL l by_).length; simp only [decide_eq_true_eq]; omega), z_92⟩
theorem orderOwn_any (a0 : Option Addr) (len0 cap0 : Nat) (c1 : Array Value) (a2 : Int) (w : World) (h0 : (.slice (.cons (.int .i64) (.cons (.int .i64) (.cons (.int .i64) (.cons (.cons (.int .i64) (.cons (.int .i64) .nil)) (.cons (.int .i64) .nil))))) 48 : Sh).Ok w [.slice a0 len0 cap0]) (h1 : (.cons (.cons (.int .i64) (.cons (.int .i64) (.cons (.slice (.int .i64) 8) .nil))) (.cons (.slice (.cons (.int .i64) (.cons (.int .i64) .nil)) 16) (.cons (.slice (.int .i64) 8) (.cons (.slice (.int .i64) 8) (.cons (.slice (.cons (.int .i64) (.cons (.int .i64) (.cons (.int .i64) (.cons (.cons (.int .i64) (.cons (.int .i64) .nil)) (.cons (.int .i64) (.cons (.int .i64) .nil)))))) 56) (.cons (.int .i64) (.cons (.int .i64) .nil)))))) : Sh).Ok w c1.toList) (w2 : (Lit.int .i64 a2).wf = true) :
    Calls Try.prog 14 #[.slice a0 len0 cap0, .agg c1, .int .i64 a2] w fun e w' => e = .returned (.bool true) ∧ Below w.heap.size w w' := by
  obtain ⟨A, c, l, e2, hl⟩ := Rep.opens_slice (R := Odr.rep) (by_ := 48) Odr.opens rfl (by decide) h0
  simp only [List.cons.injEq, Value.slice.injEq, and_true] at e2
  obtain ⟨rfl, rfl, rfl⟩ := e2
  obtain ⟨aw, W, e, hW⟩ := Wd.opens w _ (show Wd.sh.Ok w c1.toList from h1)
  have hc : c1 = (Wd.cells aw W).toArray := by rw [← e]
  subst hc
  by_cases h2 : splE W (mineL l a2) = 0
  · exact orderOwn_true _ _ l aw W a2 w hl hW h2
  · exact orderOwn_false _ _ l aw W a2 w hl hW h2
end Go.Proofs.Ytfabhinehfhndaa
