/-
  mist.Cells, View. (Printed by bin/mistv.py.)
-/
import Derived.Test.YtkijhejjnlmbmaaMis
set_option linter.unusedVariables false
set_option linter.unusedSimpArgs false
namespace Go.Proofs.Ytkijhejjnlmbmaa
open Go.RowKit

theorem MiV_ag_api_World : Ag Try.prog 46 true := fun _ => by kernel_rfl
theorem MiV_sz_api_World : Sz Try.prog 46 9 := fun _ => by kernel_rfl
theorem MiV_en_mist_seen : Enters Try.prog 64 := en Try.func64 (by kernel_rfl) (by kernel_rfl)
theorem MiV_sz_bool : Sz Try.prog 4 1 := fun _ => by kernel_rfl
theorem MiV_ag_bool : Ag Try.prog 4 false := fun _ => by kernel_rfl
theorem MiV_fd_api_World_0 : Fd Try.prog 46 0 0 := fun _ _ _ => by kernel_rfl
theorem MiV_fd_api_Field_0 : Fd Try.prog 24 0 0 := fun _ _ _ => by kernel_rfl
theorem MiV_ag_int : Ag Try.prog 3 false := fun _ => by kernel_rfl
theorem MiV_el_S_api_Cell : ElT Try.prog Cel.rep 43 42 16 := ElT.mk_ (z := Cel.zero) (k := 2) Try.underlying43 Cel.info rfl rfl (by decide) Cel.zero_raw
theorem MiV_fd_api_Troop_1 : Fd Try.prog 51 1 1 := fun _ _ _ => by kernel_rfl
theorem MiV_ag_S_bool : Ag Try.prog 102 false := fun _ => by kernel_rfl
theorem MiV_fd_api_Troop_3 : Fd Try.prog 51 3 3 := fun _ _ _ => by kernel_rfl
theorem MiV_fd_api_Cell_1 : Fd Try.prog 42 1 1 := fun _ _ _ => by kernel_rfl
theorem MiV_fd_api_Cell_0 : Fd Try.prog 42 0 0 := fun _ _ _ => by kernel_rfl
theorem MiV_zv_api_World : Zv Try.prog 46 (.agg #[.int .i64 0, .int .i64 0, .slice none 0 0, .slice none 0 0, .slice none 0 0, .slice none 0 0, .slice none 0 0, .int .i64 0, .int .i64 0]) := fun _ => by kernel_rfl
theorem MiV_zv_S_bool : Zv Try.prog 102 (.slice none 0 0) := fun _ => by kernel_rfl
theorem MiV_sz_S_bool : Sz Try.prog 102 1 := fun _ => by kernel_rfl
theorem MiV_fd_api_Field_2 : Fd Try.prog 24 2 2 := fun _ _ _ => by kernel_rfl
theorem MiV_ag_S_int : Ag Try.prog 22 false := fun _ => by kernel_rfl
theorem MiV_fd_api_World_1 : Fd Try.prog 46 1 3 := fun _ _ _ => by kernel_rfl
theorem MiV_ag_S_api_Cell : Ag Try.prog 43 false := fun _ => by kernel_rfl
theorem MiV_en_slices_Clone_S_int_int_ : Enters Try.prog 19 := en Try.func19 (by kernel_rfl) (by kernel_rfl)
theorem MiV_en_slices_Clone_S_api_Cell_api_Cell_ : Enters Try.prog 33 := en Try.func33 (by kernel_rfl) (by kernel_rfl)
theorem MiV_sz_S_int : Sz Try.prog 22 1 := fun _ => by kernel_rfl
theorem MiV_sz_S_api_Cell : Sz Try.prog 43 1 := fun _ => by kernel_rfl
theorem MiV_fd_api_World_2 : Fd Try.prog 46 2 4 := fun _ _ _ => by kernel_rfl
theorem MiV_sz_int : Sz Try.prog 3 1 := fun _ => by kernel_rfl
theorem MiV_fd_api_World_3 : Fd Try.prog 46 3 5 := fun _ _ _ => by kernel_rfl
theorem MiV_fd_api_World_4 : Fd Try.prog 46 4 6 := fun _ _ _ => by kernel_rfl
theorem MiV_ag_S_api_Troop : Ag Try.prog 44 false := fun _ => by kernel_rfl
theorem MiV_en_slices_Clone_S_api_Troop_api_Troop_ : Enters Try.prog 32 := en Try.func32 (by kernel_rfl) (by kernel_rfl)
theorem MiV_en_mist_View_1 : Enters Try.prog 66 := en Try.func66 (by kernel_rfl) (by kernel_rfl)
theorem MiV_en_slices_DeleteFunc_S_api_Troop_api_Troop_ : Enters Try.prog 65 := en Try.func65 (by kernel_rfl) (by kernel_rfl)
theorem MiV_sz_S_api_Troop : Sz Try.prog 44 1 := fun _ => by kernel_rfl
theorem MiV_fd_api_World_5 : Fd Try.prog 46 5 7 := fun _ _ _ => by kernel_rfl
theorem MiV_sz_api_Troop : Sz Try.prog 51 7 := fun _ => by kernel_rfl
theorem MiV_fd_api_Troop_0 : Fd Try.prog 51 0 0 := fun _ _ _ => by kernel_rfl
def cellAt (f : Fld) (i : Nat) : Cel := ⟨(i : Int) % f.wide, (i : Int) / f.wide⟩
def cellsK (f : Fld) (b : List Bool) (k : Nat) : List Cel := ((List.range k).filter fun i => b.getD i false).map (cellAt f)
def cellsL (W : Wd) (p : Int) : List Cel := cellsK W.field (mistB W p) (mistB W p).length
theorem cellsK_len (f : Fld) (b : List Bool) (k : Nat) : (cellsK f b k).length ≤ k := by unfold cellsK; rw [List.length_map]; exact Nat.le_trans (List.length_filter_le _ _) (by simp)
theorem cellsK_yes {f : Fld} {b : List Bool} {k : Nat} (h : b.getD k false = true) : cellsK f b (k + 1) = cellsK f b k ++ [⟨(k : Int) % f.wide, (k : Int) / f.wide⟩] := by
  unfold cellsK; rw [List.range_succ, List.filter_append, List.map_append, List.filter_cons, if_pos h]; rfl
theorem cellsK_no {f : Fld} {b : List Bool} {k : Nat} (h : b.getD k false = false) : cellsK f b (k + 1) = cellsK f b k := by
  unfold cellsK; rw [List.range_succ, List.filter_append, List.map_append, List.filter_cons, if_neg (by rw [h]; decide)]; simp
theorem cell_ok {k : Nat} {n : Int} (h : k ≤ 1600) (hn : 1 ≤ n ∧ n ≤ 40) : okI ((k : Int) % n) ∧ okI ((k : Int) / n) := by
  have e1 : 0 ≤ (k : Int) / n := Int.ediv_nonneg (by omega) (by omega)
  have e2 : (k : Int) / n ≤ (k : Int) := Int.ediv_le_self _ (by omega)
  have e3 : 0 ≤ (k : Int) % n := Int.emod_nonneg _ (by omega)
  have e4 : (k : Int) % n < n := Int.emod_lt_of_pos _ (by omega)
  exact ⟨okI_iff.2 (by omega), okI_iff.2 (by omega)⟩
theorem mistE_ok {W : Wd} {p : Int} (h : mistE W p = 0) : W.chk = 0 ∧ 0 ≤ p ∧ p < (W.bases.length : Int) := by
  unfold mistE at h
  split at h
  · rename_i h1; exact absurd h h1
  · rename_i h1
    split at h
    · cases h
    · rename_i h2; exact ⟨by simpa using h1, by omega, by omega⟩
theorem mistB_no {W : Wd} {p : Int} (h : ¬ mistE W p = 0) : mistB W p = [] := by unfold mistB; rw [if_pos h]
theorem mistB_len {W : Wd} {p : Int} (h : mistE W p = 0) : (mistB W p).length = W.field.places.length := by unfold mistB; rw [if_neg (by simpa using h), seenK_len]
def vdel (W : Wd) (p : Int) (x : Trp) : Bool := (x.owner != p) && (!(mistB W p).getD (x.spot.y * W.field.wide + x.spot.x).toNat false)
def vtroops (W : Wd) (p : Int) : List Trp := W.troops.filter fun x => !vdel W p x
theorem vtroops_len (W : Wd) (p : Int) : (vtroops W p).length ≤ W.troops.length := List.length_filter_le _ _
def hideK (b : List Bool) (l : List Int) (k : Nat) : List Int := (List.range k).foldl (fun l i => if b.getD i false then l else l.set i 0) l
theorem hideK_yes {b : List Bool} {l : List Int} {k : Nat} (h : (!b.getD k false) = true) : hideK b l (k + 1) = (hideK b l k).set k 0 := by
  unfold hideK; rw [List.range_succ, List.foldl_append]; simp only [List.foldl_cons, List.foldl_nil]; rw [if_neg (by simpa using h)]
theorem hideK_no {b : List Bool} {l : List Int} {k : Nat} (h : (!b.getD k false) = false) : hideK b l (k + 1) = hideK b l k := by
  unfold hideK; rw [List.range_succ, List.foldl_append]; simp only [List.foldl_cons, List.foldl_nil]; rw [if_pos (by simpa using h)]
theorem hideK_len (b : List Bool) (l : List Int) : ∀ k, (hideK b l k).length = l.length
  | 0 => rfl
  | k + 1 => by
    cases h : (!b.getD k false) with
    | true => rw [hideK_yes h, List.length_set, hideK_len b l k]
    | false => rw [hideK_no h, hideK_len b l k]
def vnext (T : List Trp) : Int := if 0 < T.length then (T.getD (T.length - 1) default).id + 1 else 1
theorem vnext_none {T : List Trp} (h : (T.length : Int) ≤ 0) : vnext T = 1 := by unfold vnext; rw [if_neg (by omega)]
theorem vnext_some {T : List Trp} (h : 0 < (T.length : Int)) : vnext T = (T.getD ((T.length : Int) - 1).toNat default).id + 1 := by
  unfold vnext; rw [if_pos (by omega), show ((T.length : Int) - 1).toNat = T.length - 1 by omega]
def viewW (W : Wd) (p : Int) : Wd := if mistE W p ≠ 0 then Wd.zero else
  { field := W.field, bases := W.bases, stocks := (List.replicate W.stocks.length 0).set p.toNat (W.stocks.getD p.toNat 0), mines := hideK (mistB W p) W.mines W.mines.length, troops := vtroops W p, next := vnext (vtroops W p), now := W.now }
theorem view_no {W : Wd} {p : Int} (h : ¬ mistE W p = 0) : viewW W p = Wd.zero := by unfold viewW; rw [if_pos h]
theorem view_ok {W : Wd} {p : Int} (h : mistE W p = 0) : viewW W p = { field := W.field, bases := W.bases, stocks := (List.replicate W.stocks.length 0).set p.toNat (W.stocks.getD p.toNat 0), mines := hideK (mistB W p) W.mines W.mines.length, troops := vtroops W p, next := vnext (vtroops W p), now := W.now } := by unfold viewW; rw [if_neg (by simpa using h)]
theorem troop_idx {W : Wd} (hG : Good W) {x : Trp} (hx : x ∈ W.troops) : 0 ≤ x.spot.x ∧ x.spot.x ≤ 40 ∧ 0 ≤ x.spot.y ∧ x.spot.y < W.field.high ∧ 0 ≤ x.spot.y * W.field.wide ∧ x.spot.y * W.field.wide ≤ 1600 ∧ x.spot.y * W.field.wide + x.spot.x < (W.field.places.length : Int) := by
  obtain ⟨i, hi, rfl⟩ := List.mem_iff_getElem.1 hx
  have hg := (hG.troops i _ (List.getElem?_eq_getElem hi)).ground
  unfold Fld.ground at hg
  rw [Bool.and_eq_true] at hg
  obtain ⟨y1, y2, y3, y4, y5, y6⟩ := Fld.good hG.field
  have i1 := Fld.idx hG.field hg.1
  have m1 : 0 ≤ W.troops[i].spot.y * W.field.wide := Int.mul_nonneg i1.2.2.2.2.1 (by omega)
  have m2 : W.troops[i].spot.y * W.field.wide ≤ 40 * 40 := Int.mul_le_mul (by omega) y2 (by omega) (by omega)
  omega
theorem stock_ok {W : Wd} (hG : Good W) {i : Nat} (h : i < W.stocks.length) : okI (W.stocks.getD i 0) := by
  have := hG.stocks i _ (List.getElem?_eq_getElem h)
  rw [getD_dd h]; exact okI_iff.2 (by omega)
theorem vtroops_id {W : Wd} (hG : Good W) {p : Int} {k : Nat} (h : k < (vtroops W p).length) : 0 < ((vtroops W p).getD k default).id ∧ ((vtroops W p).getD k default).id < 1000000 := by
  have hm := (List.mem_filter.1 (mem_dd (d := default) h)).1
  obtain ⟨i, hi, e⟩ := List.mem_iff_getElem.1 hm
  have h1 := hG.ids i _ (List.getElem?_eq_getElem hi)
  have h2 := hG.next
  have e : W.troops[i] = (vtroops W p).getD k default := e
  rw [← e]; omega
set_option maxRecDepth 100000 in
set_option maxHeartbeats 400000 in
theorem cells_any (a : Wd.At) (W : Wd) (p : Int) (w : World) (hW : Wd.Has w a W) :
    Calls Try.prog 30 #[.agg ((Wd.cells a W).toArray), .int .i64 p] w (fun e w' => ∃ A c, e = .returned (.tuple #[.slice A (cellsL W p).length c, .int .i64 (mistE W p)]) ∧ Cel.rep.SOwn 42 16 w' w.heap.size (Rep.blkOf A) A c (cellsL W p) ∧ Ext w w') := by
  refine calls_W (n := 44) Try.func30 rfl rfl rfl ?_
  refine sq <| rg <| bx rfl rfl rfl rfl fun w_1 b_2 x_3 l_4 B_5 => ?_
  have q_6 := x_3.size
  have z_1 := Ext.tr (Ext.rf w) x_3
  have q_7 := B_5.lt
  refine vl (as_ rfl) rfl <| vl (as_ rfl) rfl <| nl <| nT <| sq <| rg <| vl (ld rfl (B_5.all MiV_ag_api_World MiV_sz_api_World)) rfl <| vl (mv rfl) rfl <| ca MiV_en_mist_seen rfl rfl ((mseen_any a W p _ (hW.keep z_1)).mono ?_)
  rintro e w_11 ⟨A_8, c_8, rfl, OB_8, x_12⟩
  refine ⟨_, rfl, ?_⟩
  have q_13 := x_12.size
  have z_11 := Ext.tr z_1 x_12
  have u_9 := fun q hq => (OB_8.lt q hq).2
  have lo_10 := fun q hq => (OB_8.lt q hq).1
  refine vl (mv rfl) rfl <| vl (ex rfl rfl) rfl <| vl (ex rfl rfl) rfl <| vl (as_ rfl) rfl <| vl (as_ rfl) rfl <| nl <| nT <| sq <| sq <| rg <| vl (mv rfl) rfl <| vl (bne rfl rfl) rfl <| nl <| nT <| ?_
  refine cne rfl (fun h_14 => ?_) (fun h_14 => ?_)
  · refine sq <| rg <| vl (mv rfl) rfl <| vl (as_ rfl) rfl <| vl (as_ rfl) rfl <| nl <| nT <| rt <| tT <| tR (.tmp rfl (.tmp rfl .nil)) <| ?_
    have e0 := mistB_no h_14
    exact ⟨none, 0, by unfold cellsL; rw [e0]; rfl, by unfold cellsL; rw [e0]; exact Rep.SOwn.nil _, z_11⟩
  · obtain ⟨hchk, hp0, hp1⟩ := mistE_ok (by simpa using h_14)
    have hG := Good.of_chk hchk
    obtain ⟨y1, y2, y3, y4, y5, y6⟩ := Fld.good hG.field
    have hfl := Fld.len_le hG.field
    have hbl := mistB_len (by simpa using h_14)
    refine sk <| nT <| sq <| rg <| vl (as_ rfl) rfl <| nl <| nT <| sq <| sq <| rg <| vl (mv rfl) rfl <| vl (ln Try.underlying102 rfl) rfl <| vl (mv rfl) rfl <| nl <| nT <| bk <| ?_
    have B_5 := B_5.later x_12
    refine lp (fun mI EI wI => ∃ k : Nat, ∃ Ao : Option Addr, ∃ co : Nat, EI = [(2, .pointer (some ⟨b_2, 0, none⟩)), (4, .slice none 0 0), (5, .int .i64 0), (8, .slice Ao ((cellsK W.field (mistB W p) k).length) co), (20, .slice A_8 ((mistB W p).length) c_8), (21, .int .i64 ((((mistB W p).length : Nat) : Int))), (22, .int .i64 (k : Int))] ∧ mI = (mistB W p).length - k ∧ Ext w wI ∧ Blk wI b_2 (Wd.cells a W) 46 (0, 0) ∧ repB.SOwn 4 1 wI w_1.heap.size (Rep.blkOf A_8) A_8 c_8 (mistB W p) ∧ Cel.rep.SOwn 42 16 wI w.heap.size (Rep.blkOf Ao) Ao co (cellsK W.field (mistB W p) k) ∧ (k ≤ (mistB W p).length) ∧ (∀ q ∈ Rep.blkOf Ao, q = b_2 → False) ∧ (∀ q ∈ Rep.blkOf Ao, q ∈ Rep.blkOf A_8 → False)) _ _ ⟨0, none, 0, rfl, rfl, z_11, B_5, OB_8, (Rep.SOwn.nil _), by omega, (fun q hq hb => by (simp [Rep.blkOf] at hq)), (fun q hq hb => by (simp [Rep.blkOf] at hq))⟩ (.cons rfl (.cons rfl (.cons rfl (.cons rfl (.cons rfl (.cons rfl (.cons (loI rfl (by first | omega | rfl | (simp <;> omega))) .nil))))))) ?_
    rintro m_18 E_19 w_17 ⟨k, Ao, co, rfl, rfl, z_17, B_5, OB_8, OO, hk, d_15, d_16⟩
    have q_20 := z_17.size
    have q_21 := B_5.lt
    have u_22 := fun q hq => (OB_8.lt q hq).2
    have u_23 := fun q hq => (OO.lt q hq).2
    have hcl := cellsK_len W.field (mistB W p) k
    refine sq <| rg <| vl (blt rfl rfl) rfl <| nl <| nT <| sq <| ?_
    refine clt rfl (fun h_24 => ?_) (fun h_24 => ?_)
    · refine sk <| nT <| sq <| bk <| sq <| rg <| vl (mv rfl) rfl <| vl (iA k Try.underlying102 MiV_sz_bool rfl rfl (OB_8.has.adr (Nat.zero_lt_of_lt (show k < _ from (by omega)))) rfl (by omega)) rfl <| vl (ld rfl (Rep.SHas.one' hcB (OB_8.has.adh (Nat.zero_lt_of_lt (show k < _ from (by omega)))) (get_d (l := mistB W p) (u := false) (by omega)) rfl MiV_ag_bool)) rfl <| vl (as_ rfl) rfl <| vl (as_ rfl) rfl <| nl <| nT <| sq <| rg <| vl (mv rfl) rfl <| nl <| nT <| ?_
      refine cb rfl (fun h_25 => ?_) (fun h_25 => ?_)
      · refine rd [(4, 0), (9, 0), (12, 2), (13, 3)] [0, 1, 2, 3, 4, 5, 6, 7, 8, 9, 10, 11, 12, 13, 14] (by kernel_rfl) (by kernel_rfl) ?_
        refine fw rfl rfl (fun _ => mv rfl) rfl <| fw rfl rfl (fun _ => mv rfl) rfl <| fw rfl rfl (fun _ => fa MiV_fd_api_World_0 rfl) rfl <| fw rfl rfl (fun _ => fa MiV_fd_api_Field_0 rfl) rfl <| fq rfl rfl (fun _ x => ld rfl ((B_5.later x).one MiV_ag_int rfl)) rfl <| fw rfl rfl (fun _ => bre rfl rfl (by omega) (by omega)) rfl <| fw rfl rfl (fun _ => mv rfl) rfl <| fw rfl rfl (fun _ => fa MiV_fd_api_World_0 rfl) rfl <| fw rfl rfl (fun _ => fa MiV_fd_api_Field_0 rfl) rfl <| fq rfl rfl (fun _ x => ld rfl ((B_5.later x).one MiV_ag_int rfl)) rfl <| fw rfl rfl (fun _ => bqu rfl rfl (by omega) (by omega) (quI (by omega) (by omega) (by omega))) rfl <| fw (v := .agg #[.int .i64 ((k : Int) % W.field.wide), .int .i64 ((k : Int) / W.field.wide)]) rfl rfl (fun _ => bd rfl (by kernel_rfl)) rfl <| fx rfl rfl rfl fun w_26 x_27 Q hK => bs (e := 42) (cs := [.int .i64 ((k : Int) % W.field.wide), .int .i64 ((k : Int) / W.field.wide)]) rfl (fun _ => by kernel_rfl) rfl fun w_28 b_29 x_30 l_31 B_32 => hK _ _ ⟨Ext.tr x_27 x_30, ?_⟩
        have q_33 := x_27.size
        have z_26 := Ext.tr z_17 x_27
        have q_34 := x_30.size
        have z_28 := Ext.tr z_26 x_30
        have q_35 := B_32.lt
        have OO := OO.later (Ext.tr x_27 x_30)
        refine fb rfl rfl rfl fun w_36 x_37 Q hK => ap MiV_el_S_api_Cell Rep.flat_bare (OO.later x_37) ((Blk.has1 (R := Cel.rep) (by_ := 16) (q := (⟨(k : Int) % W.field.wide, (k : Int) / W.field.wide⟩ : Cel)) B_32 ⟨rfl, cell_ok (by omega) (by omega)⟩ (by decide)).keep x_37) rfl rfl (by simp only [List.length_cons, List.length_nil]; omega) (by simp only [List.length_cons, List.length_nil]; omega) (Ext.tr z_28 x_37).size rfl fun w_38 A_39 c_40 m_41 O_42 g_43 n_44 => hK _ _ ?_
        have q_45 := x_37.size
        have z_36 := Ext.tr z_28 x_37
        have q_46 := m_41.size
        have z_38 := Ext.mod z_36 m_41 (fun q hq => ((OO.later x_37).lt q hq).1)
        have u_47 := fun q hq => (O_42.lt q hq).2
        have q_48 := m_41.size
        refine fw rfl rfl (fun _ => as_ rfl) rfl <| fn fun w_49 x_50 => ?_
        have q_51 := x_50.size
        have z_49 := Ext.tr z_38 x_50
        refine nB <| nT <| rg <| vl (bad rfl rfl (inI (by omega))) rfl <| vl (mv rfl) rfl <| nl <| ?_
        have e1 : cellsK W.field (mistB W p) (k + 1) = cellsK W.field (mistB W p) k ++ [(⟨(k : Int) % W.field.wide, (k : Int) / W.field.wide⟩ : Cel)] := cellsK_yes h_25
        have B_5 := B_5.later (Ext.tr x_27 (Ext.tr x_30 x_37))
        have B_5 := B_5.mod m_41 (fun hq => d_15 _ hq rfl)
        have B_5 := B_5.later x_50
        have OB_8 := OB_8.later (Ext.tr x_27 (Ext.tr x_30 x_37))
        have OB_8 := OB_8.mod m_41 (fun q hq h => by exfalso; (exact d_16 q h hq))
        have OB_8 := OB_8.later x_50
        have O_42 := O_42.later x_50
        exact nI _ _ ⟨k + 1, A_39, c_40, rfl, rfl, z_49, B_5, OB_8, (by rw [e1]; exact O_42), by omega, (fun q hq hb => by (exact Or.elim (g_43 q hq) (fun k_52 => by (exact d_15 q k_52 hb)) (fun k_52 => by omega))), (fun q hq hb => by (exact Or.elim (g_43 q hq) (fun k_53 => by (exact d_16 q k_53 hb)) (fun k_53 => by (have := u_22 q hb; have := u_9 q hb; omega))))⟩ (by omega) (.cons rfl (.cons rfl (.cons rfl (.cons (by rw [e1]; rfl) (.cons rfl (.cons rfl (.cons (loI rfl (by first | omega | rfl | (simp <;> omega))) .nil)))))))
      · refine sk <| nB <| nT <| rg <| vl (bad rfl rfl (inI (by omega))) rfl <| vl (mv rfl) rfl <| nl <| ?_
        have e1 : cellsK W.field (mistB W p) (k + 1) = cellsK W.field (mistB W p) k := cellsK_no h_25
        exact nI _ _ ⟨k + 1, Ao, co, rfl, rfl, z_17, B_5, OB_8, (by rw [e1]; exact OO), by omega, (fun q hq hb => by (exact d_15 q hq hb)), (fun q hq hb => by (exact d_16 q hq hb))⟩ (by omega) (.cons rfl (.cons rfl (.cons rfl (.cons (by rw [e1]; rfl) (.cons rfl (.cons rfl (.cons (loI rfl (by first | omega | rfl | (simp <;> omega))) .nil)))))))
    · refine xt <| xT <| xK <| xB <| nT <| sq <| rg <| vl (mv rfl) rfl <| vl (as_ rfl) rfl <| vl (as_ rfl) rfl <| nl <| nT <| rt <| tR (.tmp rfl (.tmp rfl .nil)) <| ?_
      have ek : k = (mistB W p).length := by omega
      subst ek
      have e0 : mistE W p = 0 := by simpa using h_14
      exact ⟨_, _, by rw [e0]; rfl, OO, z_17⟩
set_option maxRecDepth 100000 in
set_option maxHeartbeats 400000 in
theorem vdel_any (x : Trp) (a : Wd.At) (W : Wd) (p : Int) (b3 b6 b2 : Nat) (A : Option Addr) (c : Nat) (w : World) (H3 : Blk w b3 [.int .i64 p] 3 (0, 0)) (H6 : Blk w b6 [.slice A (mistB W p).length c] 102 (0, 0)) (H2 : Blk w b2 (Wd.cells a W) 46 (0, 0)) (hA : repB.SHas 1 w A c (mistB W p)) (n5 : 0 ≤ x.spot.y * W.field.wide) (n6 : x.spot.y * W.field.wide ≤ 1600) (n1 : 0 ≤ x.spot.x) (n2 : x.spot.x ≤ 40) (n7 : x.spot.y * W.field.wide + x.spot.x < ((mistB W p).length : Int)) :
    Calls Try.prog 66 #[.agg #[.int .i64 x.id, .int .i64 x.owner, .int .i64 x.kind, .int .i64 x.spot.x, .int .i64 x.spot.y, .int .i64 x.life, .int .i64 x.load], .pointer (some ⟨b3, 0, none⟩), .pointer (some ⟨b6, 0, none⟩), .pointer (some ⟨b2, 0, none⟩)] w (fun e w' => e = .returned (.bool (vdel W p x)) ∧ Ext w w') := by
  refine calls_W (n := 27) Try.func66 rfl rfl rfl ?_
  refine sq <| rg <| bx rfl rfl rfl rfl fun w_1 b_2 x_3 l_4 B_5 => ?_
  have q_6 := x_3.size
  have z_1 := Ext.tr (Ext.rf w) x_3
  have q_7 := B_5.lt
  refine vl (as_ rfl) rfl <| nl <| nT <| sq <| rg <| vl (fa MiV_fd_api_Troop_1 rfl) rfl <| vl (ld rfl (B_5.one MiV_ag_int rfl)) rfl <| ?_
  have H3 := H3.later x_3
  refine vl (ld rfl (H3.one MiV_ag_int rfl)) rfl <| vl (bne rfl rfl) rfl <| vl (mv rfl) rfl <| ?_
  have H6 := H6.later x_3
  refine vQ rfl rfl rfl rfl (fun hc => ld rfl (H6.one MiV_ag_S_bool rfl)) rfl <| vQ rfl rfl rfl rfl (fun hc => fa MiV_fd_api_Troop_3 rfl) rfl <| vQ rfl rfl rfl rfl (fun hc => fa MiV_fd_api_Cell_1 (gt hc rfl)) rfl <| vQ rfl rfl rfl rfl (fun hc => ld (gt hc rfl) (B_5.one MiV_ag_int rfl)) rfl <| vQ rfl rfl rfl rfl (fun hc => fa MiV_fd_api_World_0 rfl) rfl <| vQ rfl rfl rfl rfl (fun hc => fa MiV_fd_api_Field_0 (gt hc rfl)) rfl <| ?_
  have H2 := H2.later x_3
  refine vQ rfl rfl rfl rfl (fun hc => ld (gt hc rfl) (H2.one MiV_ag_int rfl)) rfl <| vQ rfl rfl rfl rfl (fun hc => bmu (gt hc rfl) (gt hc rfl) (inI (by (try simp only [Bool.or_eq_true, Bool.or_eq_false_iff, Bool.and_eq_true, Bool.and_eq_false_iff, decide_eq_true_eq, decide_eq_false_iff_not, beq_iff_eq, bne_iff_ne, beq_eq_false_iff_ne, bne_eq_false_iff_eq, Bool.not_eq_true', Bool.not_eq_false', Bool.not_eq_true, Bool.not_eq_false, Int.not_lt, Int.not_le, Nat.not_lt, Nat.not_le, ne_eq, Classical.not_not] at hc); omega))) rfl <| vQ rfl rfl rfl rfl (fun hc => fa MiV_fd_api_Troop_3 rfl) rfl <| vQ rfl rfl rfl rfl (fun hc => fa MiV_fd_api_Cell_0 (gt hc rfl)) rfl <| vQ rfl rfl rfl rfl (fun hc => ld (gt hc rfl) (B_5.one MiV_ag_int rfl)) rfl <| vQ rfl rfl rfl rfl (fun hc => bad (gt hc rfl) (gt hc rfl) (inI (by (try simp only [Bool.or_eq_true, Bool.or_eq_false_iff, Bool.and_eq_true, Bool.and_eq_false_iff, decide_eq_true_eq, decide_eq_false_iff_not, beq_iff_eq, bne_iff_ne, beq_eq_false_iff_ne, bne_eq_false_iff_eq, Bool.not_eq_true', Bool.not_eq_false', Bool.not_eq_true, Bool.not_eq_false, Int.not_lt, Int.not_le, Nat.not_lt, Nat.not_le, ne_eq, Classical.not_not] at hc); omega))) rfl <| vQ rfl rfl rfl rfl (fun hc => iA (((x.spot.y * W.field.wide) + x.spot.x).toNat) Try.underlying102 MiV_sz_bool (gt hc rfl) (gt hc rfl) ((hA.keep z_1).adr (Nat.zero_lt_of_lt (show ((x.spot.y * W.field.wide) + x.spot.x).toNat < _ from (by clear hc; omega)))) (by (try simp only [Bool.or_eq_true, Bool.or_eq_false_iff, Bool.and_eq_true, Bool.and_eq_false_iff, decide_eq_true_eq, decide_eq_false_iff_not, beq_iff_eq, bne_iff_ne, beq_eq_false_iff_ne, bne_eq_false_iff_eq, Bool.not_eq_true', Bool.not_eq_false', Bool.not_eq_true, Bool.not_eq_false, Int.not_lt, Int.not_le, Nat.not_lt, Nat.not_le, ne_eq, Classical.not_not] at hc); omega) (by clear hc; omega)) rfl <| vQ rfl rfl rfl rfl (fun hc => ld (gt hc rfl) (Rep.SHas.one' hcB ((hA.keep z_1).adh (Nat.zero_lt_of_lt (show ((x.spot.y * W.field.wide) + x.spot.x).toNat < _ from (by clear hc; omega)))) (get_d (l := mistB W p) (u := false) (by clear hc; omega)) rfl MiV_ag_bool)) rfl <| vQ rfl rfl rfl rfl (fun hc => nt (gt hc rfl)) rfl <| vl (pA rfl rfl rfl rfl) rfl <| vl (as_ rfl) rfl <| nl <| nT <| rt <| tR (.tmp rfl .nil) <| ?_
  exact ⟨rfl, z_1⟩
set_option maxRecDepth 100000 in
set_option maxHeartbeats 1000000 in
theorem view_any (a : Wd.At) (W : Wd) (p : Int) (w : World) (hW : Wd.Has w a W) :
    Calls Try.prog 25 #[.agg ((Wd.cells a W).toArray), .int .i64 p] w (fun e w' => ∃ a' : Wd.At, e = .returned (.tuple #[.agg (Wd.cells a' (viewW W p)).toArray, .int .i64 (mistE W p)]) ∧ WOwn w' w.heap.size a' (viewW W p) ∧ Ext w w') := by
  refine calls_W (n := 88) Try.func25 rfl rfl rfl ?_
  refine sq <| rg <| bx rfl rfl rfl rfl fun w_1 b_2 x_3 l_4 B_5 => ?_
  have q_6 := x_3.size
  have z_1 := Ext.tr (Ext.rf w) x_3
  have q_7 := B_5.lt
  refine bx rfl rfl rfl rfl fun w_8 b_9 x_10 l_11 B_12 => ?_
  have q_13 := x_10.size
  have z_8 := Ext.tr z_1 x_10
  have q_14 := B_12.lt
  refine al rfl MiV_zv_api_World rfl rfl fun w_15 b_16 x_17 l_18 B_19 => ?_
  have q_20 := x_17.size
  have z_15 := Ext.tr z_8 x_17
  have q_21 := B_19.lt
  refine vl (as_ rfl) rfl <| nl <| nT <| sq <| rg <| ?_
  have B_5 := B_5.later (Ext.tr x_10 x_17)
  refine vl (ld rfl (B_5.all MiV_ag_api_World MiV_sz_api_World)) rfl <| ?_
  have B_12 := B_12.later x_17
  refine vl (ld rfl (B_12.one MiV_ag_int rfl)) rfl <| ca MiV_en_mist_seen rfl rfl ((mseen_any a W p _ (hW.keep z_15)).mono ?_)
  rintro e w_25 ⟨A_22, c_22, rfl, OB_22, x_26⟩
  refine ⟨_, rfl, ?_⟩
  have q_27 := x_26.size
  have z_25 := Ext.tr z_15 x_26
  have u_23 := fun q hq => (OB_22.lt q hq).2
  have lo_24 := fun q hq => (OB_22.lt q hq).1
  refine vl (mv rfl) rfl <| vl (ex rfl rfl) rfl <| vl (ex rfl rfl) rfl <| al rfl MiV_zv_S_bool rfl rfl fun w_28 b_29 x_30 l_31 B_32 => ?_
  have q_33 := x_30.size
  have z_28 := Ext.tr z_25 x_30
  have q_34 := B_32.lt
  refine st (new := [.slice A_22 ((mistB W p).length) c_22]) rfl rfl B_32 rfl MiV_sz_S_bool rfl rfl rfl fun w_35 m_36 B_32 => ?_
  have q_38 := m_36.size
  have z_35 := Ext.mod z_28 m_36 (by simp only [List.mem_singleton, forall_eq]; omega)
  have q_37 := m_36.size
  refine vl (as_ rfl) rfl <| nl <| nT <| sq <| sq <| rg <| vl (mv rfl) rfl <| vl (bne rfl rfl) rfl <| nl <| nT <| ?_
  refine cne rfl (fun h_39 => ?_) (fun h_39 => ?_)
  · refine sq <| rg <| vl (v := .agg #[.int .i64 0, .int .i64 0, .slice none 0 0, .slice none 0 0, .slice none 0 0, .slice none 0 0, .slice none 0 0, .int .i64 0, .int .i64 0]) (bd rfl (by kernel_rfl)) rfl <| vl (mv rfl) rfl <| ?_
    have B_19 := B_19.later (Ext.tr x_26 x_30)
    have B_19 := B_19.mod m_36 (by simp only [List.mem_singleton]; omega)
    refine st (new := [.int .i64 0, .int .i64 0, .slice none 0 0, .slice none 0 0, .slice none 0 0, .slice none 0 0, .slice none 0 0, .int .i64 0, .int .i64 0]) rfl rfl B_19 rfl MiV_sz_api_World rfl rfl rfl fun w_40 m_41 B_19 => ?_
    have q_43 := m_41.size
    have z_40 := Ext.mod z_35 m_41 (by simp only [List.mem_singleton, forall_eq]; omega)
    have q_42 := m_41.size
    refine vl (as_ rfl) rfl <| nl <| nT <| rt <| tT <| tR (.cell rfl (B_19.all MiV_ag_api_World MiV_sz_api_World) (.tmp rfl .nil)) <| ?_
    have e1 := view_no h_39
    exact ⟨⟨none, none, none, none, none, 0, 0, 0, 0, 0⟩, by rw [e1]; rfl, by rw [e1]; exact WOwn.zero _ _, z_40⟩
  · have e0 : mistE W p = 0 := by simpa using h_39
    obtain ⟨hchk, hp0, hp1⟩ := mistE_ok e0
    have hG := Good.of_chk hchk
    obtain ⟨y1, y2, y3, y4, y5, y6⟩ := Fld.good hG.field
    have hfl := Fld.len_le hG.field
    have hbl := mistB_len e0
    have hsl := hG.sl
    have hnb := hG.nb
    have hml := hG.ml
    have hnt := hG.nt
    have hvl := vtroops_len W p
    refine sk <| nT <| sq <| rg <| ?_
    have B_5 := B_5.later (Ext.tr x_26 x_30)
    have B_5 := B_5.mod m_36 (by simp only [List.mem_singleton]; omega)
    refine vl (ld rfl (B_5.all MiV_ag_api_World MiV_sz_api_World)) rfl <| al rfl MiV_zv_api_World rfl rfl fun w_44 b_45 x_46 l_47 B_48 => ?_
    have q_49 := x_46.size
    have z_44 := Ext.tr z_35 x_46
    have q_50 := B_48.lt
    refine st rfl rfl B_48 rfl MiV_sz_api_World rfl rfl rfl fun w_51 m_52 B_48 => ?_
    have q_54 := m_52.size
    have z_51 := Ext.mod z_44 m_52 (by simp only [List.mem_singleton, forall_eq]; omega)
    have q_53 := m_52.size
    refine nl <| nT <| sq <| ?_
    refine rd [(2, 0), (3, 2), (5, 0), (6, 2), (9, 3), (11, 3)] [0, 1, 2, 4, 5, 3, 7, 8, 6, 9, 10, 11] (by kernel_rfl) (by kernel_rfl) ?_
    refine fw rfl rfl (fun _ => fa MiV_fd_api_World_0 rfl) rfl <| fw rfl rfl (fun _ => fa MiV_fd_api_Field_2 rfl) rfl <| ?_
    have B_5 := B_5.later x_46
    have B_5 := B_5.mod m_52 (by simp only [List.mem_singleton]; omega)
    refine fq rfl rfl (fun _ x => ld rfl ((B_5.later x).one MiV_ag_S_int rfl)) rfl <| fw rfl rfl (fun _ => fa MiV_fd_api_World_1 rfl) rfl <| fq rfl rfl (fun _ x => ld rfl ((B_5.later x).one MiV_ag_S_api_Cell rfl)) rfl <| fx rfl rfl rfl fun w_55 x_56 Q hK => ca MiV_en_slices_Clone_S_int_int_ rfl rfl ((clone_I _ _ W.field.places _ (hW.P.keep (Ext.tr z_51 x_56))).mono ?_)
    rintro e w_60 ⟨A_57, c_57, rfl, OC_57, hn_57, x_61⟩
    refine ⟨_, rfl, hK _ _ ⟨Ext.tr x_56 x_61, ?_⟩⟩
    have q_62 := x_56.size
    have z_55 := Ext.tr z_51 x_56
    have q_63 := x_61.size
    have z_60 := Ext.tr z_55 x_61
    have u_58 := fun q hq => (OC_57.lt q hq).2
    have lo_59 := fun q hq => (OC_57.lt q hq).1
    refine fw rfl rfl (fun _ => fa MiV_fd_api_World_0 rfl) rfl <| fw rfl rfl (fun _ => fa MiV_fd_api_Field_2 rfl) rfl <| fx rfl rfl rfl fun w_64 x_65 Q hK => ca MiV_en_slices_Clone_S_api_Cell_api_Cell_ rfl rfl ((clone_C _ _ W.bases _ (hW.B.keep (Ext.tr z_60 x_65))).mono ?_)
    rintro e w_69 ⟨A_66, c_66, rfl, OC_66, hn_66, x_70⟩
    refine ⟨_, rfl, hK _ _ ⟨Ext.tr x_65 x_70, ?_⟩⟩
    have q_71 := x_65.size
    have z_64 := Ext.tr z_60 x_65
    have q_72 := x_70.size
    have z_69 := Ext.tr z_64 x_70
    have u_67 := fun q hq => (OC_66.lt q hq).2
    have lo_68 := fun q hq => (OC_66.lt q hq).1
    have B_48 := B_48.later (Ext.tr x_56 (Ext.tr x_61 (Ext.tr x_65 x_70)))
    refine fb rfl rfl rfl fun w_73 x_74 Q hK => st (new := [.int .i64 W.field.wide, .int .i64 W.field.high, .slice A_57 ((W.field.places).length) c_57, .slice a.B W.bases.length a.b, .slice a.S W.stocks.length a.s, .slice a.M W.mines.length a.m, .slice a.T W.troops.length a.t, .int .i64 W.next, .int .i64 W.now]) rfl rfl (B_48.later x_74) rfl MiV_sz_S_int rfl rfl rfl fun w_75 m_76 B_48 => hK _ _ ?_
    have q_78 := x_74.size
    have z_73 := Ext.tr z_69 x_74
    have q_79 := m_76.size
    have z_75 := Ext.mod z_73 m_76 (by simp only [List.mem_singleton, forall_eq]; omega)
    have q_77 := m_76.size
    refine fw rfl rfl (fun _ => fa MiV_fd_api_World_1 rfl) rfl <| fb rfl rfl rfl fun w_80 x_81 Q hK => st (new := [.int .i64 W.field.wide, .int .i64 W.field.high, .slice A_57 ((W.field.places).length) c_57, .slice A_66 ((W.bases).length) c_66, .slice a.S W.stocks.length a.s, .slice a.M W.mines.length a.m, .slice a.T W.troops.length a.t, .int .i64 W.next, .int .i64 W.now]) rfl rfl (B_48.later x_81) rfl MiV_sz_S_api_Cell rfl rfl rfl fun w_82 m_83 B_48 => hK _ _ ?_
    have q_85 := x_81.size
    have z_80 := Ext.tr z_75 x_81
    have q_86 := m_83.size
    have z_82 := Ext.mod z_80 m_83 (by simp only [List.mem_singleton, forall_eq]; omega)
    have q_84 := m_83.size
    refine fn fun w_87 x_88 => ?_
    have q_89 := x_88.size
    have z_87 := Ext.tr z_82 x_88
    refine nT <| sq <| rg <| vl (fa MiV_fd_api_World_2 rfl) rfl <| ?_
    have B_5 := B_5.later (Ext.tr x_56 (Ext.tr x_61 (Ext.tr x_65 (Ext.tr x_70 x_74))))
    have B_5 := B_5.mod m_76 (by simp only [List.mem_singleton]; omega)
    have B_5 := B_5.later x_81
    have B_5 := B_5.mod m_83 (by simp only [List.mem_singleton]; omega)
    have B_5 := B_5.later x_88
    refine vl (ld rfl (B_5.one MiV_ag_S_int rfl)) rfl <| vl (ln Try.underlying22 rfl) rfl <| mO (R := repI) (by_ := 8) (B := w.heap.size) (c := W.stocks.length) (zv := (.int .i64 0)) (q := 0) Rep.flat_plain Try.underlying22 info_int rfl rfl (fun j u h => raw0I j u h) (fun _ => ⟨rfl, okI_iff.2 (by decide)⟩) rfl rfl rfl (by omega) (by omega) (by omega) fun w_90 b_91 x_92 l_93 O_94 => ?_
    have q_95 := x_92.size
    have z_90 := Ext.tr z_87 x_92
    have u_96 := fun q hq => (O_94.lt q hq).2
    have lo_97 : ∀ q ∈ Rep.blkOf (some ⟨b_91, 0, none⟩), b_91 ≤ q := fun q hq => Nat.le_of_eq (List.mem_singleton.1 hq).symm
    refine vl (fa MiV_fd_api_World_2 rfl) rfl <| ?_
    have B_48 := B_48.later (Ext.tr x_88 x_92)
    refine st (new := [.int .i64 W.field.wide, .int .i64 W.field.high, .slice A_57 ((W.field.places).length) c_57, .slice A_66 ((W.bases).length) c_66, .slice (some ⟨b_91, 0, none⟩) W.stocks.length W.stocks.length, .slice a.M W.mines.length a.m, .slice a.T W.troops.length a.t, .int .i64 W.next, .int .i64 W.now]) rfl rfl B_48 rfl MiV_sz_S_int rfl rfl rfl fun w_98 m_99 B_48 => ?_
    have q_101 := m_99.size
    have z_98 := Ext.mod z_90 m_99 (by simp only [List.mem_singleton, forall_eq]; omega)
    have q_100 := m_99.size
    refine nl <| nT <| sq <| ?_
    refine rd [(1, 0), (2, 0), (4, 0), (5, 0), (7, 0), (9, 3)] [0, 1, 2, 3, 4, 5, 6, 7, 8, 9] (by kernel_rfl) (by kernel_rfl) ?_
    refine fw rfl rfl (fun _ => fa MiV_fd_api_World_2 rfl) rfl <| fq rfl rfl (fun _ x => ld rfl ((B_48.later x).one MiV_ag_S_int rfl)) rfl <| ?_
    have B_12 := B_12.later (Ext.tr x_26 x_30)
    have B_12 := B_12.mod m_36 (by simp only [List.mem_singleton]; omega)
    have B_12 := B_12.later x_46
    have B_12 := B_12.mod m_52 (by simp only [List.mem_singleton]; omega)
    have B_12 := B_12.later (Ext.tr x_56 (Ext.tr x_61 (Ext.tr x_65 (Ext.tr x_70 x_74))))
    have B_12 := B_12.mod m_76 (by simp only [List.mem_singleton]; omega)
    have B_12 := B_12.later x_81
    have B_12 := B_12.mod m_83 (by simp only [List.mem_singleton]; omega)
    have B_12 := B_12.later (Ext.tr x_88 x_92)
    have B_12 := B_12.mod m_99 (by simp only [List.mem_singleton]; omega)
    refine fq rfl rfl (fun _ x => ld rfl ((B_12.later x).one MiV_ag_int rfl)) rfl <| fw rfl rfl (fun _ => fa MiV_fd_api_World_2 rfl) rfl <| ?_
    have B_5 := B_5.later x_92
    have B_5 := B_5.mod m_99 (by simp only [List.mem_singleton]; omega)
    refine fq rfl rfl (fun _ x => ld rfl ((B_5.later x).one MiV_ag_S_int rfl)) rfl <| fq rfl rfl (fun _ x => ld rfl ((B_12.later x).one MiV_ag_int rfl)) rfl <| fw rfl rfl (fun _ => iA p.toNat Try.underlying22 MiV_sz_int rfl rfl ((hW.S.keep z_98).adr (Nat.zero_lt_of_lt (show p.toNat < _ from (by omega)))) (by omega) (by omega)) rfl <| fq rfl rfl (fun _ x => ld rfl (Rep.SHas.one' hcI ((hW.S.keep (Ext.tr z_98 x)).adh (Nat.zero_lt_of_lt (show p.toNat < _ from (by omega)))) (get_d (l := W.stocks) (u := 0) (by omega)) rfl MiV_ag_int)) rfl <| ?_
    have O_94 := O_94.mod m_99 (fun q hq h => by have hb := List.mem_singleton.1 h; exfalso; (have := lo_97 q hq; omega))
    refine fw rfl rfl (fun _ => iA p.toNat Try.underlying22 MiV_sz_int rfl rfl (O_94.has.adr (Nat.zero_lt_of_lt (show p.toNat < _ from (by first | omega | (rw [List.length_replicate]; omega))))) (by omega) (by first | omega | (rw [List.length_replicate]; omega))) rfl <| fb rfl rfl rfl fun w_102 x_103 Q hK => so (q' := W.stocks.getD p.toNat 0) (j := 0) (i := p.toNat) (O_94.later x_103) Rep.flat_bare (get_d (l := List.replicate W.stocks.length 0) (u := 0) (by first | omega | (rw [List.length_replicate]; omega))) rfl rfl rfl rfl (fun _ cs h => by have ok_ := (show _ ∧ _ from h).2; obtain rfl := hcI h; exact ⟨rfl, stock_ok hG (by omega)⟩) rfl rfl MiV_sz_int fun w_104 m_105 O_106 => hK _ _ ?_
    have q_107 := x_103.size
    have z_102 := Ext.tr z_98 x_103
    have q_108 := m_105.size
    have z_104 := Ext.mod z_102 m_105 (fun q hq => ((O_94.later x_103).lt q hq).1)
    have q_109 := m_105.size
    refine fn fun w_110 x_111 => ?_
    have q_112 := x_111.size
    have z_110 := Ext.tr z_104 x_111
    refine nT <| sq <| rg <| vl (fa MiV_fd_api_World_3 rfl) rfl <| ?_
    have B_5 := B_5.later x_103
    have d_113 : ∀ q ∈ Rep.blkOf (some ⟨b_91, 0, none⟩), q = b_2 → False := fun q hq hb => by (have := lo_97 q hq; omega)
    have B_5 := B_5.mod m_105 (fun hq => d_113 _ hq rfl)
    have B_5 := B_5.later x_111
    refine vl (ld rfl (B_5.one MiV_ag_S_int rfl)) rfl <| ca MiV_en_slices_Clone_S_int_int_ rfl rfl ((clone_I _ _ W.mines _ (hW.M.keep z_110)).mono ?_)
    rintro e w_117 ⟨A_114, c_114, rfl, OC_114, hn_114, x_118⟩
    refine ⟨_, rfl, ?_⟩
    have q_119 := x_118.size
    have z_117 := Ext.tr z_110 x_118
    have u_115 := fun q hq => (OC_114.lt q hq).2
    have lo_116 := fun q hq => (OC_114.lt q hq).1
    refine vl (fa MiV_fd_api_World_3 rfl) rfl <| ?_
    have B_48 := B_48.later x_103
    have d_120 : ∀ q ∈ Rep.blkOf (some ⟨b_91, 0, none⟩), q = b_45 → False := fun q hq hb => by (have := lo_97 q hq; omega)
    have B_48 := B_48.mod m_105 (fun hq => d_120 _ hq rfl)
    have B_48 := B_48.later (Ext.tr x_111 x_118)
    refine st (new := [.int .i64 W.field.wide, .int .i64 W.field.high, .slice A_57 ((W.field.places).length) c_57, .slice A_66 ((W.bases).length) c_66, .slice (some ⟨b_91, 0, none⟩) W.stocks.length W.stocks.length, .slice A_114 ((W.mines).length) c_114, .slice a.T W.troops.length a.t, .int .i64 W.next, .int .i64 W.now]) rfl rfl B_48 rfl MiV_sz_S_int rfl rfl rfl fun w_121 m_122 B_48 => ?_
    have q_124 := m_122.size
    have z_121 := Ext.mod z_117 m_122 (by simp only [List.mem_singleton, forall_eq]; omega)
    have q_123 := m_122.size
    refine nl <| nT <| sq <| sq <| rg <| vl (fa MiV_fd_api_World_3 rfl) rfl <| vl (ld rfl (B_48.one MiV_ag_S_int rfl)) rfl <| vl (ln Try.underlying22 rfl) rfl <| vl (mv rfl) rfl <| nl <| nT <| bk <| ?_
    have OC_114 := OC_114.mod m_122 (fun q hq h => by have hb := List.mem_singleton.1 h; exfalso; (have := lo_116 q hq; omega))
    have B_5 := B_5.later x_118
    have B_5 := B_5.mod m_122 (by simp only [List.mem_singleton]; omega)
    have B_12 := B_12.later x_103
    have d_135 : ∀ q ∈ Rep.blkOf (some ⟨b_91, 0, none⟩), q = b_9 → False := fun q hq hb => by (have := lo_97 q hq; omega)
    have B_12 := B_12.mod m_105 (fun hq => d_135 _ hq rfl)
    have B_12 := B_12.later (Ext.tr x_111 x_118)
    have B_12 := B_12.mod m_122 (by simp only [List.mem_singleton]; omega)
    have B_19 := B_19.later (Ext.tr x_26 x_30)
    have B_19 := B_19.mod m_36 (by simp only [List.mem_singleton]; omega)
    have B_19 := B_19.later x_46
    have B_19 := B_19.mod m_52 (by simp only [List.mem_singleton]; omega)
    have B_19 := B_19.later (Ext.tr x_56 (Ext.tr x_61 (Ext.tr x_65 (Ext.tr x_70 x_74))))
    have B_19 := B_19.mod m_76 (by simp only [List.mem_singleton]; omega)
    have B_19 := B_19.later x_81
    have B_19 := B_19.mod m_83 (by simp only [List.mem_singleton]; omega)
    have B_19 := B_19.later (Ext.tr x_88 x_92)
    have B_19 := B_19.mod m_99 (by simp only [List.mem_singleton]; omega)
    have B_19 := B_19.later x_103
    have d_136 : ∀ q ∈ Rep.blkOf (some ⟨b_91, 0, none⟩), q = b_16 → False := fun q hq hb => by (have := lo_97 q hq; omega)
    have B_19 := B_19.mod m_105 (fun hq => d_136 _ hq rfl)
    have B_19 := B_19.later (Ext.tr x_111 x_118)
    have B_19 := B_19.mod m_122 (by simp only [List.mem_singleton]; omega)
    have OB_22 := OB_22.later x_30
    have OB_22 := OB_22.mod m_36 (fun q hq h => by have hb := List.mem_singleton.1 h; exfalso; (have := u_23 q hq; omega))
    have OB_22 := OB_22.later x_46
    have OB_22 := OB_22.mod m_52 (fun q hq h => by have hb := List.mem_singleton.1 h; exfalso; (have := u_23 q hq; omega))
    have OB_22 := OB_22.later (Ext.tr x_56 (Ext.tr x_61 (Ext.tr x_65 (Ext.tr x_70 x_74))))
    have OB_22 := OB_22.mod m_76 (fun q hq h => by have hb := List.mem_singleton.1 h; exfalso; (have := u_23 q hq; omega))
    have OB_22 := OB_22.later x_81
    have OB_22 := OB_22.mod m_83 (fun q hq h => by have hb := List.mem_singleton.1 h; exfalso; (have := u_23 q hq; omega))
    have OB_22 := OB_22.later (Ext.tr x_88 x_92)
    have OB_22 := OB_22.mod m_99 (fun q hq h => by have hb := List.mem_singleton.1 h; exfalso; (have := u_23 q hq; omega))
    have OB_22 := OB_22.later x_103
    have OB_22 := OB_22.mod m_105 (fun q hq h => by exfalso; (have := lo_97 q h; (have := u_23 q hq; omega)))
    have OB_22 := OB_22.later (Ext.tr x_111 x_118)
    have OB_22 := OB_22.mod m_122 (fun q hq h => by have hb := List.mem_singleton.1 h; exfalso; (have := u_23 q hq; omega))
    have B_32 := B_32.later x_46
    have B_32 := B_32.mod m_52 (by simp only [List.mem_singleton]; omega)
    have B_32 := B_32.later (Ext.tr x_56 (Ext.tr x_61 (Ext.tr x_65 (Ext.tr x_70 x_74))))
    have B_32 := B_32.mod m_76 (by simp only [List.mem_singleton]; omega)
    have B_32 := B_32.later x_81
    have B_32 := B_32.mod m_83 (by simp only [List.mem_singleton]; omega)
    have B_32 := B_32.later (Ext.tr x_88 x_92)
    have B_32 := B_32.mod m_99 (by simp only [List.mem_singleton]; omega)
    have B_32 := B_32.later x_103
    have d_137 : ∀ q ∈ Rep.blkOf (some ⟨b_91, 0, none⟩), q = b_29 → False := fun q hq hb => by (have := lo_97 q hq; omega)
    have B_32 := B_32.mod m_105 (fun hq => d_137 _ hq rfl)
    have B_32 := B_32.later (Ext.tr x_111 x_118)
    have B_32 := B_32.mod m_122 (by simp only [List.mem_singleton]; omega)
    have OC_57 := OC_57.later (Ext.tr x_65 (Ext.tr x_70 x_74))
    have OC_57 := OC_57.mod m_76 (fun q hq h => by have hb := List.mem_singleton.1 h; exfalso; (have := lo_59 q hq; omega))
    have OC_57 := OC_57.later x_81
    have OC_57 := OC_57.mod m_83 (fun q hq h => by have hb := List.mem_singleton.1 h; exfalso; (have := lo_59 q hq; omega))
    have OC_57 := OC_57.later (Ext.tr x_88 x_92)
    have OC_57 := OC_57.mod m_99 (fun q hq h => by have hb := List.mem_singleton.1 h; exfalso; (have := lo_59 q hq; omega))
    have OC_57 := OC_57.later x_103
    have OC_57 := OC_57.mod m_105 (fun q hq h => by exfalso; (have := lo_97 q h; (have := u_58 q hq; omega)))
    have OC_57 := OC_57.later (Ext.tr x_111 x_118)
    have OC_57 := OC_57.mod m_122 (fun q hq h => by have hb := List.mem_singleton.1 h; exfalso; (have := lo_59 q hq; omega))
    have OC_66 := OC_66.later x_74
    have OC_66 := OC_66.mod m_76 (fun q hq h => by have hb := List.mem_singleton.1 h; exfalso; (have := lo_68 q hq; omega))
    have OC_66 := OC_66.later x_81
    have OC_66 := OC_66.mod m_83 (fun q hq h => by have hb := List.mem_singleton.1 h; exfalso; (have := lo_68 q hq; omega))
    have OC_66 := OC_66.later (Ext.tr x_88 x_92)
    have OC_66 := OC_66.mod m_99 (fun q hq h => by have hb := List.mem_singleton.1 h; exfalso; (have := lo_68 q hq; omega))
    have OC_66 := OC_66.later x_103
    have OC_66 := OC_66.mod m_105 (fun q hq h => by exfalso; (have := lo_97 q h; (have := u_67 q hq; omega)))
    have OC_66 := OC_66.later (Ext.tr x_111 x_118)
    have OC_66 := OC_66.mod m_122 (fun q hq h => by have hb := List.mem_singleton.1 h; exfalso; (have := lo_68 q hq; omega))
    have O_106 := O_106.later (Ext.tr x_111 x_118)
    have O_106 := O_106.mod m_122 (fun q hq h => by have hb := List.mem_singleton.1 h; exfalso; (exact d_120 q hq hb))
    refine lp (fun mI EI wI => ∃ k : Nat, EI = [(2, .pointer (some ⟨b_2, 0, none⟩)), (3, .pointer (some ⟨b_9, 0, none⟩)), (4, .pointer (some ⟨b_16, 0, none⟩)), (5, .int .i64 0), (6, .pointer (some ⟨b_29, 0, none⟩)), (8, .pointer (some ⟨b_45, 0, none⟩)), (52, .int .i64 ((((W.mines).length : Nat) : Int))), (53, .int .i64 (k : Int))] ∧ mI = W.mines.length - k ∧ Ext w wI ∧ Blk wI b_2 (Wd.cells a W) 46 (0, 0) ∧ Blk wI b_9 [.int .i64 p] 3 (0, 0) ∧ Blk wI b_16 [.int .i64 0, .int .i64 0, .slice none 0 0, .slice none 0 0, .slice none 0 0, .slice none 0 0, .slice none 0 0, .int .i64 0, .int .i64 0] 46 (0, 0) ∧ repB.SOwn 4 1 wI w_15.heap.size (Rep.blkOf A_22) A_22 c_22 (mistB W p) ∧ Blk wI b_29 [.slice A_22 ((mistB W p).length) c_22] 102 (0, 0) ∧ Blk wI b_45 [.int .i64 W.field.wide, .int .i64 W.field.high, .slice A_57 ((W.field.places).length) c_57, .slice A_66 ((W.bases).length) c_66, .slice (some ⟨b_91, 0, none⟩) W.stocks.length W.stocks.length, .slice A_114 ((W.mines).length) c_114, .slice a.T W.troops.length a.t, .int .i64 W.next, .int .i64 W.now] 46 (0, 0) ∧ repI.SOwn 3 8 wI w_55.heap.size (Rep.blkOf A_57) A_57 c_57 (W.field.places) ∧ Cel.rep.SOwn 42 16 wI w_64.heap.size (Rep.blkOf A_66) A_66 c_66 (W.bases) ∧ repI.SOwn 3 8 wI w.heap.size (Rep.blkOf (some ⟨b_91, 0, none⟩)) (some ⟨b_91, 0, none⟩) W.stocks.length ((List.replicate W.stocks.length 0).set p.toNat (W.stocks.getD p.toNat 0)) ∧ repI.SOwn 3 8 wI w_110.heap.size (Rep.blkOf A_114) A_114 c_114 (hideK (mistB W p) W.mines k) ∧ (k ≤ W.mines.length) ∧ (∀ q ∈ Rep.blkOf A_114, q = b_2 → False) ∧ (∀ q ∈ Rep.blkOf A_114, q = b_9 → False) ∧ (∀ q ∈ Rep.blkOf A_114, q = b_16 → False) ∧ (∀ q ∈ Rep.blkOf A_114, q = b_29 → False) ∧ (∀ q ∈ Rep.blkOf A_114, q = b_45 → False) ∧ (∀ q ∈ Rep.blkOf A_114, q ∈ Rep.blkOf A_22 → False) ∧ (∀ q ∈ Rep.blkOf A_114, q ∈ Rep.blkOf A_57 → False) ∧ (∀ q ∈ Rep.blkOf A_114, q ∈ Rep.blkOf A_66 → False) ∧ (∀ q ∈ Rep.blkOf A_114, q ∈ Rep.blkOf (some ⟨b_91, 0, none⟩) → False)) _ _ ⟨0, rfl, rfl, z_121, B_5, B_12, B_19, OB_22, B_32, B_48, OC_57, OC_66, O_106, OC_114, by omega, (fun q hq hb => by (have := lo_116 q hq; omega)), (fun q hq hb => by (have := lo_116 q hq; omega)), (fun q hq hb => by (have := lo_116 q hq; omega)), (fun q hq hb => by (have := lo_116 q hq; omega)), (fun q hq hb => by (have := lo_116 q hq; omega)), (fun q hq hb => by (have := lo_116 q hq; (have := u_23 q hb; omega))), (fun q hq hb => by (have := lo_116 q hq; (have := u_58 q hb; omega))), (fun q hq hb => by (have := lo_116 q hq; (have := u_67 q hb; omega))), (fun q hq hb => by (have := lo_116 q hq; (have := u_96 q hb; omega)))⟩ (.cons rfl (.cons rfl (.cons rfl (.cons rfl (.cons rfl (.cons rfl (.cons rfl (.cons (loI rfl (by first | omega | rfl | (simp <;> omega))) .nil)))))))) ?_
    rintro m_138 E_139 w_134 ⟨k, rfl, rfl, z_134, B_5, B_12, B_19, OB_22, B_32, B_48, OC_57, OC_66, O_106, OM, hk, d_125, d_126, d_127, d_128, d_129, d_130, d_131, d_132, d_133⟩
    have q_140 := z_134.size
    have q_141 := B_5.lt
    have q_142 := B_12.lt
    have q_143 := B_19.lt
    have u_144 := fun q hq => (OB_22.lt q hq).2
    have q_145 := B_32.lt
    have q_146 := B_48.lt
    have u_147 := fun q hq => (OC_57.lt q hq).2
    have u_148 := fun q hq => (OC_66.lt q hq).2
    have u_149 := fun q hq => (O_106.lt q hq).2
    have u_150 := fun q hq => (OM.lt q hq).2
    have hhl := hideK_len (mistB W p) W.mines k
    refine sq <| rg <| vl (blt rfl rfl) rfl <| nl <| nT <| sq <| ?_
    refine clt rfl (fun h_151 => ?_) (fun h_151 => ?_)
    · refine sk <| nT <| sq <| bk <| sq <| rg <| vl (mv rfl) rfl <| vl (as_ rfl) rfl <| nl <| nT <| sq <| rg <| vl (ld rfl (B_32.one MiV_ag_S_bool rfl)) rfl <| vl (mv rfl) rfl <| vl (iA k Try.underlying102 MiV_sz_bool rfl rfl (OB_22.has.adr (Nat.zero_lt_of_lt (show k < _ from (by omega)))) rfl (by omega)) rfl <| vl (ld rfl (Rep.SHas.one' hcB (OB_22.has.adh (Nat.zero_lt_of_lt (show k < _ from (by omega)))) (get_d (l := mistB W p) (u := false) (by omega)) rfl MiV_ag_bool)) rfl <| vl (nt rfl) rfl <| nl <| nT <| ?_
      refine cb rfl (fun h_152 => ?_) (fun h_152 => ?_)
      · refine rg <| vl (fa MiV_fd_api_World_3 rfl) rfl <| vl (ld rfl (B_48.one MiV_ag_S_int rfl)) rfl <| vl (mv rfl) rfl <| vl (iA k Try.underlying22 MiV_sz_int rfl rfl (OM.has.adr (Nat.zero_lt_of_lt (show k < _ from (by omega)))) rfl (by omega)) rfl <| so (q' := 0) (j := 0) (i := k) OM Rep.flat_bare (get_d (l := hideK (mistB W p) W.mines k) (u := 0) (by omega)) rfl rfl rfl rfl (fun _ cs h => by have ok_ := (show _ ∧ _ from h).2; obtain rfl := hcI h; exact ⟨rfl, okI_iff.2 (by decide)⟩) rfl rfl MiV_sz_int fun w_153 m_154 O_155 => ?_
        have q_156 := m_154.size
        have z_153 := Ext.mod z_134 m_154 (fun q hq => Nat.le_trans (by omega) (OM.lt q hq).1)
        have q_157 := m_154.size
        refine nl <| nB <| nT <| rg <| vl (bad rfl rfl (inI (by omega))) rfl <| vl (mv rfl) rfl <| nl <| ?_
        have e1 : hideK (mistB W p) W.mines (k + 1) = (hideK (mistB W p) W.mines k).set k 0 := hideK_yes h_152
        have B_5 := B_5.mod m_154 (fun hq => d_125 _ hq rfl)
        have B_12 := B_12.mod m_154 (fun hq => d_126 _ hq rfl)
        have B_19 := B_19.mod m_154 (fun hq => d_127 _ hq rfl)
        have OB_22 := OB_22.mod m_154 (fun q hq h => by exfalso; (exact d_130 q h hq))
        have B_32 := B_32.mod m_154 (fun hq => d_128 _ hq rfl)
        have B_48 := B_48.mod m_154 (fun hq => d_129 _ hq rfl)
        have OC_57 := OC_57.mod m_154 (fun q hq h => by exfalso; (exact d_131 q h hq))
        have OC_66 := OC_66.mod m_154 (fun q hq h => by exfalso; (exact d_132 q h hq))
        have O_106 := O_106.mod m_154 (fun q hq h => by exfalso; (exact d_133 q h hq))
        exact nI _ _ ⟨k + 1, rfl, rfl, z_153, B_5, B_12, B_19, OB_22, B_32, B_48, OC_57, OC_66, O_106, (by rw [e1]; exact O_155), by omega, (fun q hq hb => by (exact d_125 q hq hb)), (fun q hq hb => by (exact d_126 q hq hb)), (fun q hq hb => by (exact d_127 q hq hb)), (fun q hq hb => by (exact d_128 q hq hb)), (fun q hq hb => by (exact d_129 q hq hb)), (fun q hq hb => by (exact d_130 q hq hb)), (fun q hq hb => by (exact d_131 q hq hb)), (fun q hq hb => by (exact d_132 q hq hb)), (fun q hq hb => by (exact d_133 q hq hb))⟩ (by omega) (.cons rfl (.cons rfl (.cons rfl (.cons rfl (.cons rfl (.cons rfl (.cons rfl (.cons (loI rfl (by first | omega | rfl | (simp <;> omega))) .nil))))))))
      · refine sk <| nB <| nT <| rg <| vl (bad rfl rfl (inI (by omega))) rfl <| vl (mv rfl) rfl <| nl <| ?_
        have e1 : hideK (mistB W p) W.mines (k + 1) = hideK (mistB W p) W.mines k := hideK_no h_152
        exact nI _ _ ⟨k + 1, rfl, rfl, z_134, B_5, B_12, B_19, OB_22, B_32, B_48, OC_57, OC_66, O_106, (by rw [e1]; exact OM), by omega, (fun q hq hb => by (exact d_125 q hq hb)), (fun q hq hb => by (exact d_126 q hq hb)), (fun q hq hb => by (exact d_127 q hq hb)), (fun q hq hb => by (exact d_128 q hq hb)), (fun q hq hb => by (exact d_129 q hq hb)), (fun q hq hb => by (exact d_130 q hq hb)), (fun q hq hb => by (exact d_131 q hq hb)), (fun q hq hb => by (exact d_132 q hq hb)), (fun q hq hb => by (exact d_133 q hq hb))⟩ (by omega) (.cons rfl (.cons rfl (.cons rfl (.cons rfl (.cons rfl (.cons rfl (.cons rfl (.cons (loI rfl (by first | omega | rfl | (simp <;> omega))) .nil))))))))
    · refine xt <| xT <| xK <| xB <| nT <| sq <| rg <| vl (fa MiV_fd_api_World_4 rfl) rfl <| vl (ld rfl (B_5.one MiV_ag_S_api_Troop rfl)) rfl <| ?_
      have V2 := B_5
      have V3 := B_12
      have V6 := B_32
      have VA := OB_22.has
      refine ca MiV_en_slices_Clone_S_api_Troop_api_Troop_ rfl rfl ((clone_T _ _ W.troops _ (hW.T.keep z_134)).mono ?_)
      rintro e w_161 ⟨A_158, c_158, rfl, OC_158, hn_158, x_162⟩
      refine ⟨_, rfl, ?_⟩
      have q_163 := x_162.size
      have z_161 := Ext.tr z_134 x_162
      have u_159 := fun q hq => (OC_158.lt q hq).2
      have lo_160 := fun q hq => (OC_158.lt q hq).1
      refine vl (mf rfl rfl) rfl <| ?_
      have hClo : ∀ x ∈ W.troops, ∀ w', Ext w_134 w' → Calls Try.prog 66 (([.agg #[.int .i64 x.id, .int .i64 x.owner, .int .i64 x.kind, .int .i64 x.spot.x, .int .i64 x.spot.y, .int .i64 x.life, .int .i64 x.load]] : List Value) ++ ([.pointer (some ⟨b_9, 0, none⟩), .pointer (some ⟨b_29, 0, none⟩), .pointer (some ⟨b_2, 0, none⟩)] : List Value)).toArray w' fun e w'' => e = .returned (.bool (vdel W p x)) ∧ Ext w' w'' := fun x hx w' h => by
        obtain ⟨n1, n2, n3, n4, n5, n6, n7⟩ := troop_idx hG hx
        exact vdel_any x a W p _ _ _ _ _ w' (V3.later h) (V6.later h) (V2.later h) (VA.keep h) n5 n6 n1 n2 (by omega)
      refine ca MiV_en_slices_DeleteFunc_S_api_Troop_api_Troop_ rfl rfl ((delF_T w_134 66 _ (vdel W p) _ _ _ _ (by first | exact Ext.rf _ | assumption) OC_158 MiV_en_mist_View_1 hClo).mono ?_)
      rintro e w_166 ⟨rfl, OD_164, m_165⟩
      refine ⟨_, rfl, ?_⟩
      have q_167 := m_165.size
      have z_166 := Ext.mod z_161 m_165 (fun q hq => by have := (OC_158.lt q hq).1; omega)
      have OD_164 : Trp.rep.SOwn 51 56 w_166 w_134.heap.size (Rep.blkOf A_158) A_158 c_158 (vtroops W p) := OD_164
      refine vl (fa MiV_fd_api_World_4 rfl) rfl <| ?_
      have B_48 := B_48.later x_162
      have d_168 : ∀ q ∈ Rep.blkOf A_158, q = b_45 → False := fun q hq hb => by (have := lo_160 q hq; omega)
      have B_48 := B_48.mod m_165 (fun hq => d_168 _ hq rfl)
      refine st (new := [.int .i64 W.field.wide, .int .i64 W.field.high, .slice A_57 ((W.field.places).length) c_57, .slice A_66 ((W.bases).length) c_66, .slice (some ⟨b_91, 0, none⟩) W.stocks.length W.stocks.length, .slice A_114 ((W.mines).length) c_114, .slice A_158 ((vtroops W p).length) c_158, .int .i64 W.next, .int .i64 W.now]) rfl rfl B_48 rfl MiV_sz_S_api_Troop rfl rfl rfl fun w_169 m_170 B_48 => ?_
      have q_172 := m_170.size
      have z_169 := Ext.mod z_166 m_170 (by simp only [List.mem_singleton, forall_eq]; omega)
      have q_171 := m_170.size
      refine nl <| nT <| sq <| rg <| vl (fa MiV_fd_api_World_5 rfl) rfl <| st (new := [.int .i64 W.field.wide, .int .i64 W.field.high, .slice A_57 ((W.field.places).length) c_57, .slice A_66 ((W.bases).length) c_66, .slice (some ⟨b_91, 0, none⟩) W.stocks.length W.stocks.length, .slice A_114 ((W.mines).length) c_114, .slice A_158 ((vtroops W p).length) c_158, .int .i64 1, .int .i64 W.now]) rfl rfl B_48 rfl MiV_sz_int rfl rfl rfl fun w_173 m_174 B_48 => ?_
      have q_176 := m_174.size
      have z_173 := Ext.mod z_169 m_174 (by simp only [List.mem_singleton, forall_eq]; omega)
      have q_175 := m_174.size
      refine nl <| nT <| sq <| sq <| rg <| vl (fa MiV_fd_api_World_4 rfl) rfl <| vl (ld rfl (B_48.one MiV_ag_S_api_Troop rfl)) rfl <| vl (ln Try.underlying44 rfl) rfl <| vl (as_ rfl) rfl <| nl <| nT <| sq <| rg <| vl (mv rfl) rfl <| vl (bgt rfl rfl) rfl <| nl <| nT <| ?_
      refine clt rfl (fun h_177 => ?_) (fun h_177 => ?_)
      · obtain ⟨i1, i2⟩ := vtroops_id hG (p := p) (k := (((vtroops W p).length : Int) - 1).toNat) (by omega)
        refine rg <| vl (fa MiV_fd_api_World_4 rfl) rfl <| vl (ld rfl (B_48.one MiV_ag_S_api_Troop rfl)) rfl <| vl (mv rfl) rfl <| vl (bsu rfl rfl (inI (by omega))) rfl <| ?_
        have OD_164 := OD_164.mod m_170 (fun q hq h => by have hb := List.mem_singleton.1 h; exfalso; (exact d_168 q hq hb))
        have OD_164 := OD_164.mod m_174 (fun q hq h => by have hb := List.mem_singleton.1 h; exfalso; (exact d_168 q hq hb))
        refine vl (iA ((((((vtroops W p).length : Nat) : Int)) - 1).toNat) Try.underlying44 MiV_sz_api_Troop rfl rfl (OD_164.has.adr (Nat.zero_lt_of_lt (show (((((vtroops W p).length : Nat) : Int)) - 1).toNat < _ from (by omega)))) (by omega) (by omega)) rfl <| vl (fa MiV_fd_api_Troop_0 rfl) rfl <| vl (ld rfl (Rep.SHas.fld hcT (OD_164.has.adh (Nat.zero_lt_of_lt (show (((((vtroops W p).length : Nat) : Int)) - 1).toNat < _ from (by omega)))) 0 (get_d (l := vtroops W p) (u := default) (by omega)) rfl MiV_ag_int)) rfl <| vl (bad rfl rfl (inI (by omega))) rfl <| vl (fa MiV_fd_api_World_5 rfl) rfl <| st (new := [.int .i64 W.field.wide, .int .i64 W.field.high, .slice A_57 ((W.field.places).length) c_57, .slice A_66 ((W.bases).length) c_66, .slice (some ⟨b_91, 0, none⟩) W.stocks.length W.stocks.length, .slice A_114 ((W.mines).length) c_114, .slice A_158 ((vtroops W p).length) c_158, .int .i64 ((((vtroops W p).getD ((((((vtroops W p).length : Nat) : Int)) - 1).toNat) default).id) + 1), .int .i64 W.now]) rfl rfl B_48 rfl MiV_sz_int rfl rfl rfl fun w_178 m_179 B_48 => ?_
        have q_181 := m_179.size
        have z_178 := Ext.mod z_173 m_179 (by simp only [List.mem_singleton, forall_eq]; omega)
        have q_180 := m_179.size
        refine nl <| nT <| sq <| rg <| vl (ld rfl (B_48.all MiV_ag_api_World MiV_sz_api_World)) rfl <| ?_
        have B_19 := B_19.later x_162
        have d_182 : ∀ q ∈ Rep.blkOf A_158, q = b_16 → False := fun q hq hb => by (have := lo_160 q hq; omega)
        have B_19 := B_19.mod m_165 (fun hq => d_182 _ hq rfl)
        have B_19 := B_19.mod m_170 (by simp only [List.mem_singleton]; omega)
        have B_19 := B_19.mod m_174 (by simp only [List.mem_singleton]; omega)
        have B_19 := B_19.mod m_179 (by simp only [List.mem_singleton]; omega)
        refine st (new := [.int .i64 W.field.wide, .int .i64 W.field.high, .slice A_57 ((W.field.places).length) c_57, .slice A_66 ((W.bases).length) c_66, .slice (some ⟨b_91, 0, none⟩) W.stocks.length W.stocks.length, .slice A_114 ((W.mines).length) c_114, .slice A_158 ((vtroops W p).length) c_158, .int .i64 ((((vtroops W p).getD ((((((vtroops W p).length : Nat) : Int)) - 1).toNat) default).id) + 1), .int .i64 W.now]) rfl rfl B_19 rfl MiV_sz_api_World rfl rfl rfl fun w_183 m_184 B_19 => ?_
        have q_186 := m_184.size
        have z_183 := Ext.mod z_178 m_184 (by simp only [List.mem_singleton, forall_eq]; omega)
        have q_185 := m_184.size
        refine vl (as_ rfl) rfl <| nl <| nT <| rt <| tR (.cell rfl (B_19.all MiV_ag_api_World MiV_sz_api_World) (.tmp rfl .nil)) <| ?_
        have OC_57 := OC_57.later x_162
        have OC_57 := OC_57.mod m_165 (fun q hq h => by exfalso; (have := lo_160 q h; (have := u_147 q hq; have := u_58 q hq; omega)))
        have OC_57 := OC_57.mod m_170 (fun q hq h => by have hb := List.mem_singleton.1 h; exfalso; (have := lo_59 q hq; omega))
        have OC_57 := OC_57.mod m_174 (fun q hq h => by have hb := List.mem_singleton.1 h; exfalso; (have := lo_59 q hq; omega))
        have OC_57 := OC_57.mod m_179 (fun q hq h => by have hb := List.mem_singleton.1 h; exfalso; (have := lo_59 q hq; omega))
        have OC_57 := OC_57.mod m_184 (fun q hq h => by have hb := List.mem_singleton.1 h; exfalso; (have := lo_59 q hq; omega))
        have OC_66 := OC_66.later x_162
        have OC_66 := OC_66.mod m_165 (fun q hq h => by exfalso; (have := lo_160 q h; (have := u_148 q hq; have := u_67 q hq; omega)))
        have OC_66 := OC_66.mod m_170 (fun q hq h => by have hb := List.mem_singleton.1 h; exfalso; (have := lo_68 q hq; omega))
        have OC_66 := OC_66.mod m_174 (fun q hq h => by have hb := List.mem_singleton.1 h; exfalso; (have := lo_68 q hq; omega))
        have OC_66 := OC_66.mod m_179 (fun q hq h => by have hb := List.mem_singleton.1 h; exfalso; (have := lo_68 q hq; omega))
        have OC_66 := OC_66.mod m_184 (fun q hq h => by have hb := List.mem_singleton.1 h; exfalso; (have := lo_68 q hq; omega))
        have O_106 := O_106.later x_162
        have O_106 := O_106.mod m_165 (fun q hq h => by exfalso; (have := lo_160 q h; (have := u_149 q hq; have := u_96 q hq; omega)))
        have O_106 := O_106.mod m_170 (fun q hq h => by have hb := List.mem_singleton.1 h; exfalso; (exact d_120 q hq hb))
        have O_106 := O_106.mod m_174 (fun q hq h => by have hb := List.mem_singleton.1 h; exfalso; (exact d_120 q hq hb))
        have O_106 := O_106.mod m_179 (fun q hq h => by have hb := List.mem_singleton.1 h; exfalso; (exact d_120 q hq hb))
        have O_106 := O_106.mod m_184 (fun q hq h => by have hb := List.mem_singleton.1 h; exfalso; (exact d_136 q hq hb))
        have OM := OM.later x_162
        have OM := OM.mod m_165 (fun q hq h => by exfalso; (have := lo_160 q h; (have := u_150 q hq; omega)))
        have OM := OM.mod m_170 (fun q hq h => by have hb := List.mem_singleton.1 h; exfalso; (exact d_129 q hq hb))
        have OM := OM.mod m_174 (fun q hq h => by have hb := List.mem_singleton.1 h; exfalso; (exact d_129 q hq hb))
        have OM := OM.mod m_179 (fun q hq h => by have hb := List.mem_singleton.1 h; exfalso; (exact d_129 q hq hb))
        have OM := OM.mod m_184 (fun q hq h => by have hb := List.mem_singleton.1 h; exfalso; (exact d_127 q hq hb))
        have OD_164 := OD_164.mod m_179 (fun q hq h => by have hb := List.mem_singleton.1 h; exfalso; (exact d_168 q hq hb))
        have OD_164 := OD_164.mod m_184 (fun q hq h => by have hb := List.mem_singleton.1 h; exfalso; (exact d_182 q hq hb))
        have ek : k = W.mines.length := by omega
        subst ek
        have e1 := view_ok e0
        have en : vnext (vtroops W p) = (((vtroops W p).getD ((((((vtroops W p).length : Nat) : Int)) - 1).toNat) default).id) + 1 := vnext_some (by omega)
        refine ⟨⟨A_57, A_66, some ⟨b_91, 0, none⟩, A_114, A_158, c_57, c_66, W.stocks.length, c_114, c_158⟩, ?_, ?_, z_183⟩
        · rw [e1, e0]; unfold Wd.cells; simp only [en, hideK_len, List.length_set, List.length_replicate, e0]; rfl
        · rw [e1]; exact WOwn.of5 (OC_57.down (by omega)) (OC_66.down (by omega)) (O_106.down (by omega)) (OM.down (by omega)) (OD_164.down (by omega)) (fun q hq hb => by (have := lo_68 q hq; (have := u_147 q hb; have := u_58 q hb; omega))) (fun q hq hb => by (have := lo_97 q hq; (have := u_147 q hb; have := u_58 q hb; omega))) (fun q hq hb => by (have := lo_97 q hq; (have := u_148 q hb; have := u_67 q hb; omega))) (fun q hq hb => by (exact d_131 q hq hb)) (fun q hq hb => by (exact d_132 q hq hb)) (fun q hq hb => by (exact d_133 q hq hb)) (fun q hq hb => by (have := lo_160 q hq; (have := u_147 q hb; have := u_58 q hb; omega))) (fun q hq hb => by (have := lo_160 q hq; (have := u_148 q hb; have := u_67 q hb; omega))) (fun q hq hb => by (have := lo_160 q hq; (have := u_149 q hb; have := u_96 q hb; omega))) (fun q hq hb => by (have := lo_160 q hq; (have := u_150 q hb; omega))) ⟨hW.nums.1, hW.nums.2.1, by show okI (vnext _); rw [en]; exact okI_iff.2 (by omega), hW.nums.2.2.2⟩
      · refine sk <| nT <| sq <| rg <| vl (ld rfl (B_48.all MiV_ag_api_World MiV_sz_api_World)) rfl <| ?_
        have B_19 := B_19.later x_162
        have d_187 : ∀ q ∈ Rep.blkOf A_158, q = b_16 → False := fun q hq hb => by (have := lo_160 q hq; omega)
        have B_19 := B_19.mod m_165 (fun hq => d_187 _ hq rfl)
        have B_19 := B_19.mod m_170 (by simp only [List.mem_singleton]; omega)
        have B_19 := B_19.mod m_174 (by simp only [List.mem_singleton]; omega)
        refine st (new := [.int .i64 W.field.wide, .int .i64 W.field.high, .slice A_57 ((W.field.places).length) c_57, .slice A_66 ((W.bases).length) c_66, .slice (some ⟨b_91, 0, none⟩) W.stocks.length W.stocks.length, .slice A_114 ((W.mines).length) c_114, .slice A_158 ((vtroops W p).length) c_158, .int .i64 1, .int .i64 W.now]) rfl rfl B_19 rfl MiV_sz_api_World rfl rfl rfl fun w_188 m_189 B_19 => ?_
        have q_191 := m_189.size
        have z_188 := Ext.mod z_173 m_189 (by simp only [List.mem_singleton, forall_eq]; omega)
        have q_190 := m_189.size
        refine vl (as_ rfl) rfl <| nl <| nT <| rt <| tR (.cell rfl (B_19.all MiV_ag_api_World MiV_sz_api_World) (.tmp rfl .nil)) <| ?_
        have OC_57 := OC_57.later x_162
        have OC_57 := OC_57.mod m_165 (fun q hq h => by exfalso; (have := lo_160 q h; (have := u_147 q hq; have := u_58 q hq; omega)))
        have OC_57 := OC_57.mod m_170 (fun q hq h => by have hb := List.mem_singleton.1 h; exfalso; (have := lo_59 q hq; omega))
        have OC_57 := OC_57.mod m_174 (fun q hq h => by have hb := List.mem_singleton.1 h; exfalso; (have := lo_59 q hq; omega))
        have OC_57 := OC_57.mod m_189 (fun q hq h => by have hb := List.mem_singleton.1 h; exfalso; (have := lo_59 q hq; omega))
        have OC_66 := OC_66.later x_162
        have OC_66 := OC_66.mod m_165 (fun q hq h => by exfalso; (have := lo_160 q h; (have := u_148 q hq; have := u_67 q hq; omega)))
        have OC_66 := OC_66.mod m_170 (fun q hq h => by have hb := List.mem_singleton.1 h; exfalso; (have := lo_68 q hq; omega))
        have OC_66 := OC_66.mod m_174 (fun q hq h => by have hb := List.mem_singleton.1 h; exfalso; (have := lo_68 q hq; omega))
        have OC_66 := OC_66.mod m_189 (fun q hq h => by have hb := List.mem_singleton.1 h; exfalso; (have := lo_68 q hq; omega))
        have O_106 := O_106.later x_162
        have O_106 := O_106.mod m_165 (fun q hq h => by exfalso; (have := lo_160 q h; (have := u_149 q hq; have := u_96 q hq; omega)))
        have O_106 := O_106.mod m_170 (fun q hq h => by have hb := List.mem_singleton.1 h; exfalso; (exact d_120 q hq hb))
        have O_106 := O_106.mod m_174 (fun q hq h => by have hb := List.mem_singleton.1 h; exfalso; (exact d_120 q hq hb))
        have O_106 := O_106.mod m_189 (fun q hq h => by have hb := List.mem_singleton.1 h; exfalso; (exact d_136 q hq hb))
        have OM := OM.later x_162
        have OM := OM.mod m_165 (fun q hq h => by exfalso; (have := lo_160 q h; (have := u_150 q hq; omega)))
        have OM := OM.mod m_170 (fun q hq h => by have hb := List.mem_singleton.1 h; exfalso; (exact d_129 q hq hb))
        have OM := OM.mod m_174 (fun q hq h => by have hb := List.mem_singleton.1 h; exfalso; (exact d_129 q hq hb))
        have OM := OM.mod m_189 (fun q hq h => by have hb := List.mem_singleton.1 h; exfalso; (exact d_127 q hq hb))
        have OD_164 := OD_164.mod m_170 (fun q hq h => by have hb := List.mem_singleton.1 h; exfalso; (exact d_168 q hq hb))
        have OD_164 := OD_164.mod m_174 (fun q hq h => by have hb := List.mem_singleton.1 h; exfalso; (exact d_168 q hq hb))
        have OD_164 := OD_164.mod m_189 (fun q hq h => by have hb := List.mem_singleton.1 h; exfalso; (have := lo_160 q hq; omega))
        have ek : k = W.mines.length := by omega
        subst ek
        have e1 := view_ok e0
        have en : vnext (vtroops W p) = 1 := vnext_none (by omega)
        refine ⟨⟨A_57, A_66, some ⟨b_91, 0, none⟩, A_114, A_158, c_57, c_66, W.stocks.length, c_114, c_158⟩, ?_, ?_, z_188⟩
        · rw [e1, e0]; unfold Wd.cells; simp only [en, hideK_len, List.length_set, List.length_replicate, e0]; rfl
        · rw [e1]; exact WOwn.of5 (OC_57.down (by omega)) (OC_66.down (by omega)) (O_106.down (by omega)) (OM.down (by omega)) (OD_164.down (by omega)) (fun q hq hb => by (have := lo_68 q hq; (have := u_147 q hb; have := u_58 q hb; omega))) (fun q hq hb => by (have := lo_97 q hq; (have := u_147 q hb; have := u_58 q hb; omega))) (fun q hq hb => by (have := lo_97 q hq; (have := u_148 q hb; have := u_67 q hb; omega))) (fun q hq hb => by (exact d_131 q hq hb)) (fun q hq hb => by (exact d_132 q hq hb)) (fun q hq hb => by (exact d_133 q hq hb)) (fun q hq hb => by (have := lo_160 q hq; (have := u_147 q hb; have := u_58 q hb; omega))) (fun q hq hb => by (have := lo_160 q hq; (have := u_148 q hb; have := u_67 q hb; omega))) (fun q hq hb => by (have := lo_160 q hq; (have := u_149 q hb; have := u_96 q hb; omega))) (fun q hq hb => by (have := lo_160 q hq; (have := u_150 q hb; omega))) ⟨hW.nums.1, hW.nums.2.1, by show okI (vnext _); rw [en]; exact okI_iff.2 (by omega), hW.nums.2.2.2⟩
end Go.Proofs.Ytkijhejjnlmbmaa
