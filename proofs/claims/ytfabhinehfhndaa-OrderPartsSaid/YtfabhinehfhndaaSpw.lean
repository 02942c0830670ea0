/-
  order.Split. (Printed by bin/splitw.py.)
-/
import Derived.Test.YtfabhinehfhndaaSpl
import Derived.Test.YtfabhinehfhndaaTroH
import Derived.Test.YtfabhinehfhndaaGooM
import Derived.Test.YtfabhinehfhndaaGoodP
import Derived.Test.YtfabhinehfhndaaOrwZ
set_option linter.unusedVariables false
set_option linter.unusedSimpArgs false
namespace Go.Proofs.Ytfabhinehfhndaa
open Go.RowKit

theorem Spw_en_order_all : Enters Try.prog 60 := en Try.func60 (by kernel_rfl) (by kernel_rfl)
theorem Spw_ag_api_World : Ag Try.prog 82 true := fun _ => by kernel_rfl
theorem Spw_sz_api_World : Sz Try.prog 82 9 := fun _ => by kernel_rfl
theorem Spw_en_troop_Check : Enters Try.prog 61 := en Try.func61 (by kernel_rfl) (by kernel_rfl)
theorem Spw_fd_api_World_4 : Fd Try.prog 82 4 6 := fun _ _ _ => by kernel_rfl
theorem Spw_ag_S_api_Troop : Ag Try.prog 80 false := fun _ => by kernel_rfl
theorem Spw_sz_api_Troop : Sz Try.prog 109 7 := fun _ => by kernel_rfl
theorem Spw_ag_api_Troop : Ag Try.prog 109 true := fun _ => by kernel_rfl
theorem Spw_zv_api_Troop : Zv Try.prog 109 (.agg #[.int .i64 0, .int .i64 0, .int .i64 0, .int .i64 0, .int .i64 0, .int .i64 0, .int .i64 0]) := fun _ => by kernel_rfl
theorem Spw_fd_api_Troop_0 : Fd Try.prog 109 0 0 := fun _ _ _ => by kernel_rfl
theorem Spw_ag_int : Ag Try.prog 3 false := fun _ => by kernel_rfl
theorem Spw_fd_api_Troop_1 : Fd Try.prog 109 1 1 := fun _ _ _ => by kernel_rfl
theorem Spw_zv_order_split : Zv Try.prog 129 (.agg #[.slice none 0 0, .slice none 0 0, .slice none 0 0]) := fun _ => by kernel_rfl
theorem Spw_sz_api_Order : Sz Try.prog 92 6 := fun _ => by kernel_rfl
theorem Spw_ag_api_Order : Ag Try.prog 92 true := fun _ => by kernel_rfl
theorem Spw_zv_api_Order : Zv Try.prog 92 (.agg #[.int .i64 0, .int .i64 0, .int .i64 0, .int .i64 0, .int .i64 0, .int .i64 0]) := fun _ => by kernel_rfl
theorem Spw_fd_api_Order_2 : Fd Try.prog 92 2 2 := fun _ _ _ => by kernel_rfl
theorem Spw_zv_int : Zv Try.prog 3 (.int .i64 0) := fun _ => by kernel_rfl
theorem Spw_fd_api_Order_1 : Fd Try.prog 92 1 1 := fun _ _ _ => by kernel_rfl
theorem Spw_fd_api_Order_0 : Fd Try.prog 92 0 0 := fun _ _ _ => by kernel_rfl
theorem Spw_fd_api_World_1 : Fd Try.prog 82 1 3 := fun _ _ _ => by kernel_rfl
theorem Spw_ag_S_api_Cell : Ag Try.prog 79 false := fun _ => by kernel_rfl
theorem Spw_en__P_order_split__add : Enters Try.prog 62 := en Try.func62 (by kernel_rfl) (by kernel_rfl)
theorem Spw_fd_order_split_0 : Fd Try.prog 129 0 0 := fun _ _ _ => by kernel_rfl
theorem Spw_ag_S_api_Blow : Ag Try.prog 83 false := fun _ => by kernel_rfl
theorem Spw_fd_order_split_1 : Fd Try.prog 129 1 1 := fun _ _ _ => by kernel_rfl
theorem Spw_ag_S_api_Go : Ag Try.prog 84 false := fun _ => by kernel_rfl
theorem Spw_fd_order_split_2 : Fd Try.prog 129 2 2 := fun _ _ _ => by kernel_rfl
theorem Spw_ag_S_api_Deed : Ag Try.prog 85 false := fun _ => by kernel_rfl
def ownK (W : Wd) (k : Nat) : List (Int × Int) := (W.troops.take k).map fun t => (t.id, t.owner)
theorem ownK_succ {W : Wd} {k : Nat} (h : k < W.troops.length) : ownK W (k + 1) = ownK W k ++ [((W.troops.getD k default).id, (W.troops.getD k default).owner)] := by
  unfold ownK; rw [take_succ_dd (d := default) h, List.map_append]; rfl
theorem own_new {W : Wd} (hG : Good W) {k : Nat} (h : k < W.troops.length) : getI (ownK W k) (W.troops.getD k default).id = none := by
  unfold getI ownK
  rw [List.find?_map, Option.map_eq_none_iff, Option.map_eq_none_iff, List.find?_eq_none]
  intro x hx
  obtain ⟨i, hi, e⟩ := List.mem_iff_getElem.1 hx
  rw [List.length_take] at hi
  rw [List.getElem_take] at e
  have := (List.pairwise_iff_getElem.1 hG.pw) i k (by omega) h (by omega)
  rw [← e, getD_dd h]
  have h1 := this.1
  simp only [Function.comp_apply, beq_iff_eq]; omega
def may (W : Wd) (o : Odr) : Bool := if o.kind = 5 then decide (o.by_ < (W.bases.length : Int)) && (o.by_ == o.by_) else (getI (ownK W W.troops.length) o.who).isSome && ((getI (ownK W W.troops.length) o.who).getD 0 == o.by_)
def splB (W : Wd) (l : List Odr) (k : Nat) : List Blw := (l.take k).flatMap fun o => if may W o = true then spB o else []
theorem splB_yes {W : Wd} {l : List Odr} {k : Nat} (h : k < l.length) (hm : may W (l.getD k default) = true) : splB W l (k + 1) = splB W l k ++ spB (l.getD k default) := by
  unfold splB; rw [take_succ_dd (d := default) h, List.flatMap_append, List.flatMap_cons, List.flatMap_nil, List.append_nil, if_pos hm]
theorem splB_no {W : Wd} {l : List Odr} {k : Nat} (h : k < l.length) (hm : may W (l.getD k default) = false) : splB W l (k + 1) = splB W l k := by
  unfold splB; rw [take_succ_dd (d := default) h, List.flatMap_append, List.flatMap_cons, List.flatMap_nil, List.append_nil, if_neg (by rw [hm]; decide), List.append_nil]
theorem splB_len (W : Wd) (l : List Odr) : ∀ k, (splB W l k).length ≤ k
  | 0 => by simp [splB]
  | k + 1 => by
    have ih := splB_len W l k
    by_cases h : k < l.length
    · cases hm : may W (l.getD k default) with
      | true => rw [splB_yes h hm, List.length_append]; have : (spB (l.getD k default)).length ≤ 1 := by unfold spB; (repeat' split) <;> simp
                omega
      | false => rw [splB_no h hm]; omega
    · have : splB W l (k + 1) = splB W l k := by unfold splB; rw [List.take_of_length_le (by omega), List.take_of_length_le (by omega)]
      rw [this]; omega
def splG (W : Wd) (l : List Odr) (k : Nat) : List Gox := (l.take k).flatMap fun o => if may W o = true then spG o else []
theorem splG_yes {W : Wd} {l : List Odr} {k : Nat} (h : k < l.length) (hm : may W (l.getD k default) = true) : splG W l (k + 1) = splG W l k ++ spG (l.getD k default) := by
  unfold splG; rw [take_succ_dd (d := default) h, List.flatMap_append, List.flatMap_cons, List.flatMap_nil, List.append_nil, if_pos hm]
theorem splG_no {W : Wd} {l : List Odr} {k : Nat} (h : k < l.length) (hm : may W (l.getD k default) = false) : splG W l (k + 1) = splG W l k := by
  unfold splG; rw [take_succ_dd (d := default) h, List.flatMap_append, List.flatMap_cons, List.flatMap_nil, List.append_nil, if_neg (by rw [hm]; decide), List.append_nil]
theorem splG_len (W : Wd) (l : List Odr) : ∀ k, (splG W l k).length ≤ k
  | 0 => by simp [splG]
  | k + 1 => by
    have ih := splG_len W l k
    by_cases h : k < l.length
    · cases hm : may W (l.getD k default) with
      | true => rw [splG_yes h hm, List.length_append]; have : (spG (l.getD k default)).length ≤ 1 := by unfold spG; (repeat' split) <;> simp
                omega
      | false => rw [splG_no h hm]; omega
    · have : splG W l (k + 1) = splG W l k := by unfold splG; rw [List.take_of_length_le (by omega), List.take_of_length_le (by omega)]
      rw [this]; omega
def splD (W : Wd) (l : List Odr) (k : Nat) : List Ded := (l.take k).flatMap fun o => if may W o = true then spD o else []
theorem splD_yes {W : Wd} {l : List Odr} {k : Nat} (h : k < l.length) (hm : may W (l.getD k default) = true) : splD W l (k + 1) = splD W l k ++ spD (l.getD k default) := by
  unfold splD; rw [take_succ_dd (d := default) h, List.flatMap_append, List.flatMap_cons, List.flatMap_nil, List.append_nil, if_pos hm]
theorem splD_no {W : Wd} {l : List Odr} {k : Nat} (h : k < l.length) (hm : may W (l.getD k default) = false) : splD W l (k + 1) = splD W l k := by
  unfold splD; rw [take_succ_dd (d := default) h, List.flatMap_append, List.flatMap_cons, List.flatMap_nil, List.append_nil, if_neg (by rw [hm]; decide), List.append_nil]
theorem splD_len (W : Wd) (l : List Odr) : ∀ k, (splD W l k).length ≤ k
  | 0 => by simp [splD]
  | k + 1 => by
    have ih := splD_len W l k
    by_cases h : k < l.length
    · cases hm : may W (l.getD k default) with
      | true => rw [splD_yes h hm, List.length_append]; have : (spD (l.getD k default)).length ≤ 1 := by unfold spD; (repeat' split) <;> simp
                omega
      | false => rw [splD_no h hm]; omega
    · have : splD W l (k + 1) = splD W l k := by unfold splD; rw [List.take_of_length_le (by omega), List.take_of_length_le (by omega)]
      rw [this]; omega
theorem spl_len (W : Wd) (l : List Odr) (k : Nat) : (splB W l k).length ≤ k ∧ (splG W l k).length ≤ k ∧ (splD W l k).length ≤ k := ⟨splB_len W l k, splG_len W l k, splD_len W l k⟩
set_option maxRecDepth 100000 in
set_option maxHeartbeats 2000000 in
theorem split_any (A : Option Addr) (c : Nat) (l : List Odr) (aw : Wd.At) (W : Wd) (w : World) (hl : Odr.rep.SHas 48 w A c l) (hW : Wd.Has w aw W) :
    Calls Try.prog 37 #[.slice A l.length c, .agg ((Wd.cells aw W).toArray)] w (fun e w' => ∃ A0 c0 A1 c1 A2 c2, ((ordsE l ≠ 0 ∧ e = .returned (.tuple #[.slice none 0 0, .slice none 0 0, .slice none 0 0, .int .i64 (ordsE l)])) ∨ (ordsE l = 0 ∧ W.chk ≠ 0 ∧ e = .returned (.tuple #[.slice none 0 0, .slice none 0 0, .slice none 0 0, .int .i64 W.chk])) ∨ (ordsE l = 0 ∧ W.chk = 0 ∧ e = .returned (.tuple #[.slice A0 (splB W l l.length).length c0, .slice A1 (splG W l l.length).length c1, .slice A2 (splD W l l.length).length c2, .int .i64 0]) ∧ Blw.rep.SOwn 95 16 w' w.heap.size (Rep.blkOf A0) A0 c0 (splB W l l.length) ∧ Gox.rep.SOwn 99 24 w' w.heap.size (Rep.blkOf A1) A1 c1 (splG W l l.length) ∧ Ded.rep.SOwn 103 40 w' w.heap.size (Rep.blkOf A2) A2 c2 (splD W l l.length))) ∧ Ext w w') := by
  have hll := hl.len_le
  refine calls_W (n := 82) Try.func37 rfl rfl rfl ?_
  refine sq <| rg <| bx rfl rfl rfl rfl fun w_1 b_2 x_3 l_4 B_5 => ?_
  have q_6 := x_3.size
  have z_1 := Ext.tr (Ext.rf w) x_3
  have q_7 := B_5.lt
  refine vl (as_ rfl) rfl <| vl (as_ rfl) rfl <| vl (as_ rfl) rfl <| vl (as_ rfl) rfl <| nl <| nT <| sq <| sq <| rg <| vl (mv rfl) rfl <| ca Spw_en_order_all rfl rfl ((oall_any _ _ l _ (hl.keep z_1)).mono ?_)
  rintro e w_8 ⟨rfl, x_9⟩
  refine ⟨_, rfl, ?_⟩
  have q_10 := x_9.size
  have z_8 := Ext.tr z_1 x_9
  refine vl (as_ rfl) rfl <| nl <| nT <| sq <| rg <| vl (mv rfl) rfl <| vl (bne rfl rfl) rfl <| nl <| nT <| ?_
  refine cne rfl (fun h_11 => ?_) (fun h_11 => ?_)
  · refine sq <| rg <| vl (mv rfl) rfl <| vl (as_ rfl) rfl <| vl (as_ rfl) rfl <| vl (as_ rfl) rfl <| vl (as_ rfl) rfl <| nl <| nT <| rt <| tT <| tR (.tmp rfl (.tmp rfl (.tmp rfl (.tmp rfl .nil)))) <| ?_
    exact ⟨none, 0, none, 0, none, 0, .inl ⟨h_11, rfl⟩, z_8⟩
  · obtain ⟨hl100, _⟩ := ordsE_zero (by simpa using h_11)
    refine sk <| nT <| sq <| sq <| rg <| ?_
    have B_5 := B_5.later x_9
    refine vl (ld rfl (B_5.all Spw_ag_api_World Spw_sz_api_World)) rfl <| ca Spw_en_troop_Check rfl rfl ((check_any aw W _ (hW.keep z_8)).mono ?_)
    rintro e w_12 ⟨rfl, x_13⟩
    refine ⟨_, rfl, ?_⟩
    have q_14 := x_13.size
    have z_12 := Ext.tr z_8 x_13
    refine vl (as_ rfl) rfl <| nl <| nT <| sq <| rg <| vl (mv rfl) rfl <| vl (bne rfl rfl) rfl <| nl <| nT <| ?_
    refine cne rfl (fun h_15 => ?_) (fun h_15 => ?_)
    · refine sq <| rg <| vl (mv rfl) rfl <| vl (as_ rfl) rfl <| vl (as_ rfl) rfl <| vl (as_ rfl) rfl <| vl (as_ rfl) rfl <| nl <| nT <| rt <| tT <| tR (.tmp rfl (.tmp rfl (.tmp rfl (.tmp rfl .nil)))) <| ?_
      exact ⟨none, 0, none, 0, none, 0, .inr (.inl ⟨by simpa using h_11, h_15, rfl⟩), z_12⟩
    · have hG := Good.of_chk (by simpa using h_15)
      have hnt := hG.nt
      have hnb := hG.nb
      refine sk <| nT <| sq <| rg <| mm rfl fun w_16 r_17 x_18 l_19 M_20 => ?_
      have q_21 := x_18.size
      have z_16 := Ext.tr z_12 x_18
      have q_22 := M_20.lt
      refine vl (as_ rfl) rfl <| nl <| nT <| sq <| sq <| rg <| vl (fa Spw_fd_api_World_4 rfl) rfl <| ?_
      have B_5 := B_5.later (Ext.tr x_13 x_18)
      refine vl (ld rfl (B_5.one Spw_ag_S_api_Troop rfl)) rfl <| vl (ln Try.underlying80 rfl) rfl <| vl (mv rfl) rfl <| nl <| nT <| bk <| ?_
      refine lp (fun mI EI wI => ∃ k : Nat, EI = [(0, .slice A l.length c), (3, .pointer (some ⟨b_2, 0, none⟩)), (4, .slice none 0 0), (5, .slice none 0 0), (6, .slice none 0 0), (7, .int .i64 0), (10, .map (some r_17)), (30, .slice aw.T W.troops.length aw.t), (31, .int .i64 (W.troops.length : Int)), (32, .int .i64 (k : Int))] ∧ mI = W.troops.length - k ∧ Ext w wI ∧ Blk wI b_2 (Wd.cells aw W) 82 (0, 0) ∧ MapI wI r_17 (ownK W k) ∧ (k ≤ W.troops.length)) _ _ ⟨0, rfl, rfl, z_16, B_5, M_20, by omega⟩ (.cons rfl (.cons rfl (.cons rfl (.cons rfl (.cons rfl (.cons rfl (.cons rfl (.cons rfl (.cons rfl (.cons (loI rfl (by first | omega | rfl | (simp <;> omega))) .nil)))))))))) ?_
      rintro m_24 E_25 w_23 ⟨k, rfl, rfl, z_23, B_5, M1, hk⟩
      have q_26 := z_23.size
      have q_27 := B_5.lt
      have q_28 := M1.lt
      refine sq <| rg <| vl (blt rfl rfl) rfl <| nl <| nT <| sq <| ?_
      refine clt rfl (fun h_29 => ?_) (fun h_29 => ?_)
      · refine sk <| nT <| sq <| bk <| sq <| rg <| vl (iA k Try.underlying80 Spw_sz_api_Troop rfl rfl ((hW.T.keep z_23).adr (Nat.zero_lt_of_lt (show k < _ from (by omega)))) rfl (by omega)) rfl <| vl (ld rfl (Rep.SHas.elt hcT ((hW.T.keep z_23).adh (Nat.zero_lt_of_lt (show k < _ from (by omega)))) (get_d (l := W.troops) (u := default) (by omega)) Spw_ag_api_Troop Spw_sz_api_Troop)) rfl <| al rfl Spw_zv_api_Troop rfl rfl fun w_30 b_31 x_32 l_33 B_34 => ?_
        have q_35 := x_32.size
        have z_30 := Ext.tr z_23 x_32
        have q_36 := B_34.lt
        refine st (new := [.int .i64 ((W.troops.getD k default).id), .int .i64 ((W.troops.getD k default).owner), .int .i64 ((W.troops.getD k default).kind), .int .i64 ((W.troops.getD k default).spot.x), .int .i64 ((W.troops.getD k default).spot.y), .int .i64 ((W.troops.getD k default).life), .int .i64 ((W.troops.getD k default).load)]) rfl rfl B_34 rfl Spw_sz_api_Troop rfl rfl rfl fun w_37 m_38 B_34 => ?_
        have q_40 := m_38.size
        have z_37 := Ext.mod z_30 m_38 (by simp only [List.mem_singleton, forall_eq]; omega)
        have q_39 := m_38.size
        refine nl <| nT <| rg <| vl (mv rfl) rfl <| vl (fa Spw_fd_api_Troop_0 rfl) rfl <| vl (ld rfl (B_34.one Spw_ag_int rfl)) rfl <| vl (fa Spw_fd_api_Troop_1 rfl) rfl <| vl (ld rfl (B_34.one Spw_ag_int rfl)) rfl <| ?_
        have M1 := M1.later x_32
        have M1 := M1.mod m_38 (by simp only [List.mem_singleton]; omega)
        refine mu Try.underlying127 Try.underlying3 M1 (own_new hG (by omega)) rfl rfl rfl fun w_41 m_42 M1 => ?_
        have q_43 := m_42.size
        have z_41 := Ext.mod z_37 m_42 (by simp only [List.mem_singleton, forall_eq]; omega)
        have q_44 := m_42.size
        refine nl <| nB <| nT <| rg <| vl (bad rfl rfl (inI (by omega))) rfl <| vl (mv rfl) rfl <| nl <| ?_
        have e1 : ownK W (k + 1) = ownK W k ++ [((W.troops.getD k default).id, (W.troops.getD k default).owner)] := ownK_succ (by omega)
        have B_5 := B_5.later x_32
        have B_5 := B_5.mod m_38 (by simp only [List.mem_singleton]; omega)
        have B_5 := B_5.mod m_42 (by simp only [List.mem_singleton]; omega)
        exact nI _ _ ⟨k + 1, rfl, rfl, z_41, B_5, (by rw [e1]; exact M1), by omega⟩ (by omega) (.cons rfl (.cons rfl (.cons rfl (.cons rfl (.cons rfl (.cons rfl (.cons rfl (.cons rfl (.cons rfl (.cons (loI rfl (by first | omega | rfl | (simp <;> omega))) .nil))))))))))
      · refine xt <| xT <| xK <| xB <| nT <| sq <| rg <| al rfl Spw_zv_order_split rfl rfl fun w_45 b_46 x_47 l_48 B_49 => ?_
        have q_50 := x_47.size
        have z_45 := Ext.tr z_23 x_47
        have q_51 := B_49.lt
        refine nl <| nT <| sq <| sq <| rg <| vl (mv rfl) rfl <| vl (ln Try.underlying76 rfl) rfl <| vl (mv rfl) rfl <| nl <| nT <| bk <| ?_
        have ek : k = W.troops.length := by omega
        subst ek
        have B_5 := B_5.later x_47
        have M1 := M1.later x_47
        refine lp (fun mI EI wI => ∃ j : Nat, ∃ A0 : Option Addr, ∃ c0 : Nat, ∃ A1 : Option Addr, ∃ c1 : Nat, ∃ A2 : Option Addr, ∃ c2 : Nat, EI = [(3, .pointer (some ⟨b_2, 0, none⟩)), (4, .slice none 0 0), (5, .slice none 0 0), (6, .slice none 0 0), (7, .int .i64 0), (10, .map (some r_17)), (13, .pointer (some ⟨b_46, 0, none⟩)), (42, .slice A l.length c), (43, .int .i64 (l.length : Int)), (44, .int .i64 (j : Int))] ∧ mI = l.length - j ∧ Ext w wI ∧ Blk wI b_2 (Wd.cells aw W) 82 (0, 0) ∧ MapI wI r_17 (ownK W W.troops.length) ∧ Blk wI b_46 [.slice A0 ((splB W l j).length) c0, .slice A1 ((splG W l j).length) c1, .slice A2 ((splD W l j).length) c2] 129 (0, 0) ∧ Blw.rep.SOwn 95 16 wI w.heap.size (Rep.blkOf A0) A0 c0 (splB W l j) ∧ Gox.rep.SOwn 99 24 wI w.heap.size (Rep.blkOf A1) A1 c1 (splG W l j) ∧ Ded.rep.SOwn 103 40 wI w.heap.size (Rep.blkOf A2) A2 c2 (splD W l j) ∧ (j ≤ l.length) ∧ (∀ q ∈ Rep.blkOf A0, q = b_2 → False) ∧ (∀ q ∈ Rep.blkOf A0, q = r_17 → False) ∧ (∀ q ∈ Rep.blkOf A0, q = b_46 → False) ∧ (∀ q ∈ Rep.blkOf A1, q = b_2 → False) ∧ (∀ q ∈ Rep.blkOf A1, q = r_17 → False) ∧ (∀ q ∈ Rep.blkOf A1, q = b_46 → False) ∧ (∀ q ∈ Rep.blkOf A1, q ∈ Rep.blkOf A0 → False) ∧ (∀ q ∈ Rep.blkOf A2, q = b_2 → False) ∧ (∀ q ∈ Rep.blkOf A2, q = r_17 → False) ∧ (∀ q ∈ Rep.blkOf A2, q = b_46 → False) ∧ (∀ q ∈ Rep.blkOf A2, q ∈ Rep.blkOf A0 → False) ∧ (∀ q ∈ Rep.blkOf A2, q ∈ Rep.blkOf A1 → False)) _ _ ⟨0, none, 0, none, 0, none, 0, rfl, rfl, z_45, B_5, M1, B_49, (Rep.SOwn.nil _), (Rep.SOwn.nil _), (Rep.SOwn.nil _), by omega, (fun q hq hb => by (simp [Rep.blkOf] at hq)), (fun q hq hb => by (simp [Rep.blkOf] at hq)), (fun q hq hb => by (simp [Rep.blkOf] at hq)), (fun q hq hb => by (simp [Rep.blkOf] at hq)), (fun q hq hb => by (simp [Rep.blkOf] at hq)), (fun q hq hb => by (simp [Rep.blkOf] at hq)), (fun q hq hb => by (simp [Rep.blkOf] at hq)), (fun q hq hb => by (simp [Rep.blkOf] at hq)), (fun q hq hb => by (simp [Rep.blkOf] at hq)), (fun q hq hb => by (simp [Rep.blkOf] at hq)), (fun q hq hb => by (simp [Rep.blkOf] at hq)), (fun q hq hb => by (simp [Rep.blkOf] at hq))⟩ (.cons rfl (.cons rfl (.cons rfl (.cons rfl (.cons rfl (.cons rfl (.cons rfl (.cons rfl (.cons rfl (.cons (loI rfl (by first | omega | rfl | (simp <;> omega))) .nil)))))))))) ?_
        rintro m_65 E_66 w_64 ⟨j, A0, c0, A1, c1, A2, c2, rfl, rfl, z_64, B_5, M1, BS, OS0, OS1, OS2, hj, d_52, d_53, d_54, d_55, d_56, d_57, d_58, d_59, d_60, d_61, d_62, d_63⟩
        have q_67 := z_64.size
        have q_68 := B_5.lt
        have q_69 := M1.lt
        have q_70 := BS.lt
        have u_71 := fun q hq => (OS0.lt q hq).2
        have u_72 := fun q hq => (OS1.lt q hq).2
        have u_73 := fun q hq => (OS2.lt q hq).2
        have hsl := spl_len W l j
        refine sq <| rg <| vl (blt rfl rfl) rfl <| nl <| nT <| sq <| ?_
        refine clt rfl (fun h_74 => ?_) (fun h_74 => ?_)
        · have hox := Odr.all_ok hl _ (mem_dd (d := default) (show j < l.length by omega))
          refine sk <| nT <| sq <| bk <| sq <| rg <| vl (iA j Try.underlying76 Spw_sz_api_Order rfl rfl ((hl.keep z_64).adr (Nat.zero_lt_of_lt (show j < _ from (by omega)))) rfl (by omega)) rfl <| vl (ld rfl (Rep.SHas.elt hcO ((hl.keep z_64).adh (Nat.zero_lt_of_lt (show j < _ from (by omega)))) (get_d (l := l) (u := default) (by omega)) Spw_ag_api_Order Spw_sz_api_Order)) rfl <| al rfl Spw_zv_api_Order rfl rfl fun w_75 b_76 x_77 l_78 B_79 => ?_
          have q_80 := x_77.size
          have z_75 := Ext.tr z_64 x_77
          have q_81 := B_79.lt
          refine st (new := [.int .i64 ((l.getD j default).by_), .int .i64 ((l.getD j default).kind), .int .i64 ((l.getD j default).who), .int .i64 ((l.getD j default).spot.x), .int .i64 ((l.getD j default).spot.y), .int .i64 ((l.getD j default).what)]) rfl rfl B_79 rfl Spw_sz_api_Order rfl rfl rfl fun w_82 m_83 B_79 => ?_
          have q_85 := m_83.size
          have z_82 := Ext.mod z_75 m_83 (by simp only [List.mem_singleton, forall_eq]; omega)
          have q_84 := m_83.size
          refine nl <| nT <| sq <| rg <| vl (mv rfl) rfl <| vl (fa Spw_fd_api_Order_2 rfl) rfl <| vl (ld rfl (B_79.one Spw_ag_int rfl)) rfl <| ?_
          have M1 := M1.later x_77
          have M1 := M1.mod m_83 (by simp only [List.mem_singleton]; omega)
          refine vl (lk Try.underlying127 Try.underlying3 Spw_zv_int M1 rfl rfl) rfl <| vl (mv rfl) rfl <| vl (ex rfl rfl) rfl <| vl (ex rfl rfl) rfl <| vl (as_ rfl) rfl <| vl (as_ rfl) rfl <| nl <| nT <| sq <| sq <| rg <| vl (fa Spw_fd_api_Order_1 rfl) rfl <| vl (ld rfl (B_79.one Spw_ag_int rfl)) rfl <| vl (beq rfl rfl) rfl <| nl <| nT <| ?_
          refine ceq rfl (fun h_86 => ?_) (fun h_86 => ?_)
          · refine rd [(1, 0), (3, 0), (5, 0)] [0, 1, 2, 3, 4, 5, 6, 7, 8, 9] (by kernel_rfl) (by kernel_rfl) ?_
            refine fw rfl rfl (fun _ => fa Spw_fd_api_Order_0 rfl) rfl <| fq rfl rfl (fun _ x => ld rfl ((B_79.later x).one Spw_ag_int rfl)) rfl <| fw rfl rfl (fun _ => fa Spw_fd_api_Order_0 rfl) rfl <| fq rfl rfl (fun _ x => ld rfl ((B_79.later x).one Spw_ag_int rfl)) rfl <| fw rfl rfl (fun _ => fa Spw_fd_api_World_1 rfl) rfl <| ?_
            have B_5 := B_5.later x_77
            have B_5 := B_5.mod m_83 (by simp only [List.mem_singleton]; omega)
            refine fq rfl rfl (fun _ x => ld rfl ((B_5.later x).one Spw_ag_S_api_Cell rfl)) rfl <| fw rfl rfl (fun _ => ln Try.underlying79 rfl) rfl <| fw rfl rfl (fun _ => blt rfl rfl) rfl <| fw rfl rfl (fun _ => as_ rfl) rfl <| fw rfl rfl (fun _ => as_ rfl) rfl <| fn fun w_87 x_88 => ?_
            have q_89 := x_88.size
            have z_87 := Ext.tr z_82 x_88
            refine nT <| sq <| rg <| vl (mv rfl) rfl <| vl (mv rfl) rfl <| vQ rfl rfl rfl rfl (fun hc => mv rfl) rfl <| vQ rfl rfl rfl rfl (fun hc => fa Spw_fd_api_Order_0 rfl) rfl <| ?_
            have B_79 := B_79.later x_88
            refine vQ rfl rfl rfl rfl (fun hc => ld (gt hc rfl) (B_79.one Spw_ag_int rfl)) rfl <| vQ rfl rfl rfl rfl (fun hc => beq (gt hc rfl) (gt hc rfl)) rfl <| vl (pA rfl rfl rfl rfl) rfl <| nl <| nT <| ?_
            refine cb rfl (fun h_90 => ?_) (fun h_90 => ?_)
            · have hmay : may W (l.getD j default) = true := by unfold may; rw [if_pos h_86]; rw [← h_90]
              refine rg <| vl (ld rfl (B_79.all Spw_ag_api_Order Spw_sz_api_Order)) rfl <| ?_
              have BS := BS.later x_77
              have BS := BS.mod m_83 (by simp only [List.mem_singleton]; omega)
              have BS := BS.later x_88
              have OS0 := OS0.later x_77
              have OS0 := OS0.mod m_83 (fun q hq h => by have hb := List.mem_singleton.1 h; exfalso; (have := u_71 q hq; omega))
              have OS0 := OS0.later x_88
              have OS1 := OS1.later x_77
              have OS1 := OS1.mod m_83 (fun q hq h => by have hb := List.mem_singleton.1 h; exfalso; (have := u_72 q hq; omega))
              have OS1 := OS1.later x_88
              have OS2 := OS2.later x_77
              have OS2 := OS2.mod m_83 (fun q hq h => by have hb := List.mem_singleton.1 h; exfalso; (have := u_73 q hq; omega))
              have OS2 := OS2.later x_88
              have gq_91 : ∀ q ∈ (b_46 :: (Rep.blkOf A0 ++ (Rep.blkOf A1 ++ Rep.blkOf A2))), w.heap.size ≤ q := by
                intro q hq
                simp only [List.mem_cons, List.mem_append] at hq
                rcases hq with hq | hq | hq | hq
                · omega
                · exact (OS0.lt q hq).1
                · exact (OS1.lt q hq).1
                · exact (OS2.lt q hq).1
              refine ca Spw_en__P_order_split__add rfl rfl ((add_any (l.getD j default) w b_46 _ _ _ _ _ _ _ _ _ _ z_87 hox BS OS0 OS1 OS2 (fun q hq hb => by (exact d_54 q hq hb)) (fun q hq hb => by (exact d_57 q hq hb)) (fun q hq hb => by (exact d_61 q hq hb)) (fun q hq hb => by (exact d_58 q hq hb)) (fun q hq hb => by (exact d_62 q hq hb)) (fun q hq hb => by (exact d_63 q hq hb)) (by omega) (by omega) (by omega)).mono ?_)
              rintro e w_93 ⟨A_910, c_910, A_911, c_911, A_912, c_912, rfl, B_91, O_910, O_911, O_912, ds_910, ds_911, ds_912, dp_9110, dp_9120, dp_9121, g_910, g_911, g_912, m_92⟩
              refine ⟨_, rfl, ?_⟩
              have q_94 := m_92.size
              have z_93 := Ext.mod z_87 m_92 gq_91
              have u_95 := fun q hq => (O_910.lt q hq).2
              have u_96 := fun q hq => (O_911.lt q hq).2
              have u_97 := fun q hq => (O_912.lt q hq).2
              refine nl <| nB <| nT <| rg <| vl (bad rfl rfl (inI (by omega))) rfl <| vl (mv rfl) rfl <| nl <| ?_
              have e2 : splB W l (j + 1) = splB W l j ++ spB (l.getD j default) := splB_yes (by omega) hmay
              have e3 : splG W l (j + 1) = splG W l j ++ spG (l.getD j default) := splG_yes (by omega) hmay
              have e4 : splD W l (j + 1) = splD W l j ++ spD (l.getD j default) := splD_yes (by omega) hmay
              have B_5 := B_5.later x_88
              have np_98 : b_2 ∉ (b_46 :: (Rep.blkOf A0 ++ (Rep.blkOf A1 ++ Rep.blkOf A2))) := by
                intro hq
                simp only [List.mem_cons, List.mem_append] at hq
                rcases hq with hq | hq | hq | hq
                · omega
                · exact (fun q (h1 : q ∈ Rep.blkOf A0) (h2 : q = b_2) => show False by (exact d_52 q h1 h2)) _ hq rfl
                · exact (fun q (h1 : q ∈ Rep.blkOf A1) (h2 : q = b_2) => show False by (exact d_55 q h1 h2)) _ hq rfl
                · exact (fun q (h1 : q ∈ Rep.blkOf A2) (h2 : q = b_2) => show False by (exact d_59 q h1 h2)) _ hq rfl
              have B_5 := B_5.mod m_92 np_98
              have M1 := M1.later x_88
              have np_99 : r_17 ∉ (b_46 :: (Rep.blkOf A0 ++ (Rep.blkOf A1 ++ Rep.blkOf A2))) := by
                intro hq
                simp only [List.mem_cons, List.mem_append] at hq
                rcases hq with hq | hq | hq | hq
                · omega
                · exact (fun q (h1 : q ∈ Rep.blkOf A0) (h2 : q = r_17) => show False by (exact d_53 q h1 h2)) _ hq rfl
                · exact (fun q (h1 : q ∈ Rep.blkOf A1) (h2 : q = r_17) => show False by (exact d_56 q h1 h2)) _ hq rfl
                · exact (fun q (h1 : q ∈ Rep.blkOf A2) (h2 : q = r_17) => show False by (exact d_60 q h1 h2)) _ hq rfl
              have M1 := M1.mod m_92 np_99
              exact nI _ _ ⟨j + 1, A_910, c_910, A_911, c_911, A_912, c_912, rfl, rfl, z_93, B_5, M1, (by rw [e2, e3, e4]; exact B_91), (by rw [e2]; exact O_910), (by rw [e3]; exact O_911), (by rw [e4]; exact O_912), by omega, (fun q hq hb => by (exact Or.elim (g_910 q hq) (fun k_100 => by (exact d_52 q k_100 hb)) (fun k_100 => by omega))), (fun q hq hb => by (exact Or.elim (g_910 q hq) (fun k_101 => by (exact d_53 q k_101 hb)) (fun k_101 => by omega))), (fun q hq hb => by (exact ds_910 q hq hb)), (fun q hq hb => by (exact Or.elim (g_911 q hq) (fun k_102 => by (exact d_55 q k_102 hb)) (fun k_102 => by omega))), (fun q hq hb => by (exact Or.elim (g_911 q hq) (fun k_103 => by (exact d_56 q k_103 hb)) (fun k_103 => by omega))), (fun q hq hb => by (exact ds_911 q hq hb)), (fun q hq hb => by (exact dp_9110 q hq hb)), (fun q hq hb => by (exact Or.elim (g_912 q hq) (fun k_104 => by (exact d_59 q k_104 hb)) (fun k_104 => by omega))), (fun q hq hb => by (exact Or.elim (g_912 q hq) (fun k_105 => by (exact d_60 q k_105 hb)) (fun k_105 => by omega))), (fun q hq hb => by (exact ds_912 q hq hb)), (fun q hq hb => by (exact dp_9120 q hq hb)), (fun q hq hb => by (exact dp_9121 q hq hb))⟩ (by omega) (.cons rfl (.cons rfl (.cons rfl (.cons rfl (.cons rfl (.cons rfl (.cons rfl (.cons rfl (.cons rfl (.cons (loI rfl (by first | omega | rfl | (simp <;> omega))) .nil))))))))))
            · have hmay : may W (l.getD j default) = false := by unfold may; rw [if_pos h_86]; rw [← h_90]
              refine sk <| nB <| nT <| rg <| vl (bad rfl rfl (inI (by omega))) rfl <| vl (mv rfl) rfl <| nl <| ?_
              have e2 : splB W l (j + 1) = splB W l j := splB_no (by omega) hmay
              have e3 : splG W l (j + 1) = splG W l j := splG_no (by omega) hmay
              have e4 : splD W l (j + 1) = splD W l j := splD_no (by omega) hmay
              have B_5 := B_5.later x_88
              have M1 := M1.later x_88
              have BS := BS.later x_77
              have BS := BS.mod m_83 (by simp only [List.mem_singleton]; omega)
              have BS := BS.later x_88
              have OS0 := OS0.later x_77
              have OS0 := OS0.mod m_83 (fun q hq h => by have hb := List.mem_singleton.1 h; exfalso; (have := u_71 q hq; omega))
              have OS0 := OS0.later x_88
              have OS1 := OS1.later x_77
              have OS1 := OS1.mod m_83 (fun q hq h => by have hb := List.mem_singleton.1 h; exfalso; (have := u_72 q hq; omega))
              have OS1 := OS1.later x_88
              have OS2 := OS2.later x_77
              have OS2 := OS2.mod m_83 (fun q hq h => by have hb := List.mem_singleton.1 h; exfalso; (have := u_73 q hq; omega))
              have OS2 := OS2.later x_88
              exact nI _ _ ⟨j + 1, A0, c0, A1, c1, A2, c2, rfl, rfl, z_87, B_5, M1, (by rw [e2, e3, e4]; exact BS), (by rw [e2]; exact OS0), (by rw [e3]; exact OS1), (by rw [e4]; exact OS2), by omega, (fun q hq hb => by (exact d_52 q hq hb)), (fun q hq hb => by (exact d_53 q hq hb)), (fun q hq hb => by (exact d_54 q hq hb)), (fun q hq hb => by (exact d_55 q hq hb)), (fun q hq hb => by (exact d_56 q hq hb)), (fun q hq hb => by (exact d_57 q hq hb)), (fun q hq hb => by (exact d_58 q hq hb)), (fun q hq hb => by (exact d_59 q hq hb)), (fun q hq hb => by (exact d_60 q hq hb)), (fun q hq hb => by (exact d_61 q hq hb)), (fun q hq hb => by (exact d_62 q hq hb)), (fun q hq hb => by (exact d_63 q hq hb))⟩ (by omega) (.cons rfl (.cons rfl (.cons rfl (.cons rfl (.cons rfl (.cons rfl (.cons rfl (.cons rfl (.cons rfl (.cons (loI rfl (by first | omega | rfl | (simp <;> omega))) .nil))))))))))
          · refine sk <| nT <| sq <| rg <| vl (mv rfl) rfl <| vl (mv rfl) rfl <| vQ rfl rfl rfl rfl (fun hc => mv rfl) rfl <| vQ rfl rfl rfl rfl (fun hc => fa Spw_fd_api_Order_0 rfl) rfl <| vQ rfl rfl rfl rfl (fun hc => ld (gt hc rfl) (B_79.one Spw_ag_int rfl)) rfl <| vQ rfl rfl rfl rfl (fun hc => beq (gt hc rfl) (gt hc rfl)) rfl <| vl (pA rfl rfl rfl rfl) rfl <| nl <| nT <| ?_
            refine cb rfl (fun h_106 => ?_) (fun h_106 => ?_)
            · have hmay : may W (l.getD j default) = true := by unfold may; rw [if_neg h_86]; rw [← h_106]
              refine rg <| vl (ld rfl (B_79.all Spw_ag_api_Order Spw_sz_api_Order)) rfl <| ?_
              have BS := BS.later x_77
              have BS := BS.mod m_83 (by simp only [List.mem_singleton]; omega)
              have OS0 := OS0.later x_77
              have OS0 := OS0.mod m_83 (fun q hq h => by have hb := List.mem_singleton.1 h; exfalso; (have := u_71 q hq; omega))
              have OS1 := OS1.later x_77
              have OS1 := OS1.mod m_83 (fun q hq h => by have hb := List.mem_singleton.1 h; exfalso; (have := u_72 q hq; omega))
              have OS2 := OS2.later x_77
              have OS2 := OS2.mod m_83 (fun q hq h => by have hb := List.mem_singleton.1 h; exfalso; (have := u_73 q hq; omega))
              have gq_107 : ∀ q ∈ (b_46 :: (Rep.blkOf A0 ++ (Rep.blkOf A1 ++ Rep.blkOf A2))), w.heap.size ≤ q := by
                intro q hq
                simp only [List.mem_cons, List.mem_append] at hq
                rcases hq with hq | hq | hq | hq
                · omega
                · exact (OS0.lt q hq).1
                · exact (OS1.lt q hq).1
                · exact (OS2.lt q hq).1
              refine ca Spw_en__P_order_split__add rfl rfl ((add_any (l.getD j default) w b_46 _ _ _ _ _ _ _ _ _ _ z_82 hox BS OS0 OS1 OS2 (fun q hq hb => by (exact d_54 q hq hb)) (fun q hq hb => by (exact d_57 q hq hb)) (fun q hq hb => by (exact d_61 q hq hb)) (fun q hq hb => by (exact d_58 q hq hb)) (fun q hq hb => by (exact d_62 q hq hb)) (fun q hq hb => by (exact d_63 q hq hb)) (by omega) (by omega) (by omega)).mono ?_)
              rintro e w_109 ⟨A_1070, c_1070, A_1071, c_1071, A_1072, c_1072, rfl, B_107, O_1070, O_1071, O_1072, ds_1070, ds_1071, ds_1072, dp_10710, dp_10720, dp_10721, g_1070, g_1071, g_1072, m_108⟩
              refine ⟨_, rfl, ?_⟩
              have q_110 := m_108.size
              have z_109 := Ext.mod z_82 m_108 gq_107
              have u_111 := fun q hq => (O_1070.lt q hq).2
              have u_112 := fun q hq => (O_1071.lt q hq).2
              have u_113 := fun q hq => (O_1072.lt q hq).2
              refine nl <| nB <| nT <| rg <| vl (bad rfl rfl (inI (by omega))) rfl <| vl (mv rfl) rfl <| nl <| ?_
              have e2 : splB W l (j + 1) = splB W l j ++ spB (l.getD j default) := splB_yes (by omega) hmay
              have e3 : splG W l (j + 1) = splG W l j ++ spG (l.getD j default) := splG_yes (by omega) hmay
              have e4 : splD W l (j + 1) = splD W l j ++ spD (l.getD j default) := splD_yes (by omega) hmay
              have B_5 := B_5.later x_77
              have B_5 := B_5.mod m_83 (by simp only [List.mem_singleton]; omega)
              have np_114 : b_2 ∉ (b_46 :: (Rep.blkOf A0 ++ (Rep.blkOf A1 ++ Rep.blkOf A2))) := by
                intro hq
                simp only [List.mem_cons, List.mem_append] at hq
                rcases hq with hq | hq | hq | hq
                · omega
                · exact (fun q (h1 : q ∈ Rep.blkOf A0) (h2 : q = b_2) => show False by (exact d_52 q h1 h2)) _ hq rfl
                · exact (fun q (h1 : q ∈ Rep.blkOf A1) (h2 : q = b_2) => show False by (exact d_55 q h1 h2)) _ hq rfl
                · exact (fun q (h1 : q ∈ Rep.blkOf A2) (h2 : q = b_2) => show False by (exact d_59 q h1 h2)) _ hq rfl
              have B_5 := B_5.mod m_108 np_114
              have np_115 : r_17 ∉ (b_46 :: (Rep.blkOf A0 ++ (Rep.blkOf A1 ++ Rep.blkOf A2))) := by
                intro hq
                simp only [List.mem_cons, List.mem_append] at hq
                rcases hq with hq | hq | hq | hq
                · omega
                · exact (fun q (h1 : q ∈ Rep.blkOf A0) (h2 : q = r_17) => show False by (exact d_53 q h1 h2)) _ hq rfl
                · exact (fun q (h1 : q ∈ Rep.blkOf A1) (h2 : q = r_17) => show False by (exact d_56 q h1 h2)) _ hq rfl
                · exact (fun q (h1 : q ∈ Rep.blkOf A2) (h2 : q = r_17) => show False by (exact d_60 q h1 h2)) _ hq rfl
              have M1 := M1.mod m_108 np_115
              exact nI _ _ ⟨j + 1, A_1070, c_1070, A_1071, c_1071, A_1072, c_1072, rfl, rfl, z_109, B_5, M1, (by rw [e2, e3, e4]; exact B_107), (by rw [e2]; exact O_1070), (by rw [e3]; exact O_1071), (by rw [e4]; exact O_1072), by omega, (fun q hq hb => by (exact Or.elim (g_1070 q hq) (fun k_116 => by (exact d_52 q k_116 hb)) (fun k_116 => by omega))), (fun q hq hb => by (exact Or.elim (g_1070 q hq) (fun k_117 => by (exact d_53 q k_117 hb)) (fun k_117 => by omega))), (fun q hq hb => by (exact ds_1070 q hq hb)), (fun q hq hb => by (exact Or.elim (g_1071 q hq) (fun k_118 => by (exact d_55 q k_118 hb)) (fun k_118 => by omega))), (fun q hq hb => by (exact Or.elim (g_1071 q hq) (fun k_119 => by (exact d_56 q k_119 hb)) (fun k_119 => by omega))), (fun q hq hb => by (exact ds_1071 q hq hb)), (fun q hq hb => by (exact dp_10710 q hq hb)), (fun q hq hb => by (exact Or.elim (g_1072 q hq) (fun k_120 => by (exact d_59 q k_120 hb)) (fun k_120 => by omega))), (fun q hq hb => by (exact Or.elim (g_1072 q hq) (fun k_121 => by (exact d_60 q k_121 hb)) (fun k_121 => by omega))), (fun q hq hb => by (exact ds_1072 q hq hb)), (fun q hq hb => by (exact dp_10720 q hq hb)), (fun q hq hb => by (exact dp_10721 q hq hb))⟩ (by omega) (.cons rfl (.cons rfl (.cons rfl (.cons rfl (.cons rfl (.cons rfl (.cons rfl (.cons rfl (.cons rfl (.cons (loI rfl (by first | omega | rfl | (simp <;> omega))) .nil))))))))))
            · have hmay : may W (l.getD j default) = false := by unfold may; rw [if_neg h_86]; rw [← h_106]
              refine sk <| nB <| nT <| rg <| vl (bad rfl rfl (inI (by omega))) rfl <| vl (mv rfl) rfl <| nl <| ?_
              have e2 : splB W l (j + 1) = splB W l j := splB_no (by omega) hmay
              have e3 : splG W l (j + 1) = splG W l j := splG_no (by omega) hmay
              have e4 : splD W l (j + 1) = splD W l j := splD_no (by omega) hmay
              have B_5 := B_5.later x_77
              have B_5 := B_5.mod m_83 (by simp only [List.mem_singleton]; omega)
              have BS := BS.later x_77
              have BS := BS.mod m_83 (by simp only [List.mem_singleton]; omega)
              have OS0 := OS0.later x_77
              have OS0 := OS0.mod m_83 (fun q hq h => by have hb := List.mem_singleton.1 h; exfalso; (have := u_71 q hq; omega))
              have OS1 := OS1.later x_77
              have OS1 := OS1.mod m_83 (fun q hq h => by have hb := List.mem_singleton.1 h; exfalso; (have := u_72 q hq; omega))
              have OS2 := OS2.later x_77
              have OS2 := OS2.mod m_83 (fun q hq h => by have hb := List.mem_singleton.1 h; exfalso; (have := u_73 q hq; omega))
              exact nI _ _ ⟨j + 1, A0, c0, A1, c1, A2, c2, rfl, rfl, z_82, B_5, M1, (by rw [e2, e3, e4]; exact BS), (by rw [e2]; exact OS0), (by rw [e3]; exact OS1), (by rw [e4]; exact OS2), by omega, (fun q hq hb => by (exact d_52 q hq hb)), (fun q hq hb => by (exact d_53 q hq hb)), (fun q hq hb => by (exact d_54 q hq hb)), (fun q hq hb => by (exact d_55 q hq hb)), (fun q hq hb => by (exact d_56 q hq hb)), (fun q hq hb => by (exact d_57 q hq hb)), (fun q hq hb => by (exact d_58 q hq hb)), (fun q hq hb => by (exact d_59 q hq hb)), (fun q hq hb => by (exact d_60 q hq hb)), (fun q hq hb => by (exact d_61 q hq hb)), (fun q hq hb => by (exact d_62 q hq hb)), (fun q hq hb => by (exact d_63 q hq hb))⟩ (by omega) (.cons rfl (.cons rfl (.cons rfl (.cons rfl (.cons rfl (.cons rfl (.cons rfl (.cons rfl (.cons rfl (.cons (loI rfl (by first | omega | rfl | (simp <;> omega))) .nil))))))))))
        · refine xt <| xT <| xK <| xB <| nT <| sq <| ?_
          refine rd [(1, 0), (3, 0), (5, 0)] [0, 1, 2, 3, 4, 5, 6, 7, 8, 9] (by kernel_rfl) (by kernel_rfl) ?_
          refine fw rfl rfl (fun _ => fa Spw_fd_order_split_0 rfl) rfl <| fq rfl rfl (fun _ x => ld rfl ((BS.later x).one Spw_ag_S_api_Blow rfl)) rfl <| fw rfl rfl (fun _ => fa Spw_fd_order_split_1 rfl) rfl <| fq rfl rfl (fun _ x => ld rfl ((BS.later x).one Spw_ag_S_api_Go rfl)) rfl <| fw rfl rfl (fun _ => fa Spw_fd_order_split_2 rfl) rfl <| fq rfl rfl (fun _ x => ld rfl ((BS.later x).one Spw_ag_S_api_Deed rfl)) rfl <| fw rfl rfl (fun _ => as_ rfl) rfl <| fw rfl rfl (fun _ => as_ rfl) rfl <| fw rfl rfl (fun _ => as_ rfl) rfl <| fw rfl rfl (fun _ => as_ rfl) rfl <| fn fun w_122 x_123 => ?_
          have q_124 := x_123.size
          have z_122 := Ext.tr z_64 x_123
          refine nT <| rt <| tR (.tmp rfl (.tmp rfl (.tmp rfl (.tmp rfl .nil)))) <| ?_
          have OS0 := OS0.later x_123
          have OS1 := OS1.later x_123
          have OS2 := OS2.later x_123
          have ej : j = l.length := by omega
          subst ej
          exact ⟨A0, c0, A1, c1, A2, c2, .inr (.inr ⟨by simpa using h_11, by simpa using h_15, rfl, OS0, OS1, OS2⟩), z_122⟩
end Go.Proofs.Ytfabhinehfhndaa
