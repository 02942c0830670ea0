/-
  goods.Worth. (Printed by bin/worth.py.)
-/
import Derived.Test.YticfnngppcmidaaGooQ
set_option linter.unusedVariables false
set_option linter.unusedSimpArgs false
namespace Go.Proofs.Yticfnngppcmidaa
open Go.RowKit

theorem GooR_ag_api_World : Ag Try.prog 28 true := fun _ => by kernel_rfl
theorem GooR_sz_api_World : Sz Try.prog 28 9 := fun _ => by kernel_rfl
theorem GooR_en_troop_Check : Enters Try.prog 17 := en Try.func17 (by kernel_rfl) (by kernel_rfl)
theorem GooR_fd_api_World_3 : Fd Try.prog 28 3 5 := fun _ _ _ => by kernel_rfl
theorem GooR_ag_S_int : Ag Try.prog 22 false := fun _ => by kernel_rfl
theorem GooR_fd_api_World_2 : Fd Try.prog 28 2 4 := fun _ _ _ => by kernel_rfl
theorem GooR_sz_int : Sz Try.prog 3 1 := fun _ => by kernel_rfl
theorem GooR_ag_int : Ag Try.prog 3 false := fun _ => by kernel_rfl
theorem GooR_fd_api_World_4 : Fd Try.prog 28 4 6 := fun _ _ _ => by kernel_rfl
theorem GooR_ag_S_api_Troop : Ag Try.prog 26 false := fun _ => by kernel_rfl
theorem GooR_sz_api_Troop : Sz Try.prog 39 7 := fun _ => by kernel_rfl
theorem GooR_ag_api_Troop : Ag Try.prog 39 true := fun _ => by kernel_rfl
theorem GooR_zv_api_Troop : Zv Try.prog 39 (.agg #[.int .i64 0, .int .i64 0, .int .i64 0, .int .i64 0, .int .i64 0, .int .i64 0, .int .i64 0]) := fun _ => by kernel_rfl
theorem GooR_fd_api_Troop_2 : Fd Try.prog 39 2 2 := fun _ _ _ => by kernel_rfl
theorem GooR_en_troop_Kind : Enters Try.prog 35 := en Try.func35 (by kernel_rfl) (by kernel_rfl)
theorem GooR_zv_api_Kind : Zv Try.prog 64 (.agg #[.int .i64 0, .int .i64 0, .int .i64 0, .int .i64 0]) := fun _ => by kernel_rfl
theorem GooR_sz_api_Kind : Sz Try.prog 64 4 := fun _ => by kernel_rfl
theorem GooR_fd_api_Troop_5 : Fd Try.prog 39 5 6 := fun _ _ _ => by kernel_rfl
theorem GooR_fd_api_Kind_3 : Fd Try.prog 64 3 3 := fun _ _ _ => by kernel_rfl
def wt (t : Trp) : Int := t.load + Wd.priceOf t.kind
/-- All there is. -/
def Wd.total (W : Wd) : Int := W.mines.sum + W.stocks.sum + (W.troops.map wt).sum
def Wd.worth (W : Wd) : Int := if W.chk = 0 then W.total else 0
theorem worth_bad {W : Wd} (h : ¬ W.chk = 0) : W.worth = 0 := by unfold Wd.worth; rw [if_neg h]
theorem worth_ok {W : Wd} (h : W.chk = 0) : W.worth = W.total := by unfold Wd.worth; rw [if_pos h]
theorem Good.chk0 {W : Wd} (h : Good W) : W.chk = 0 := h.chk
theorem sum_take {l : List Int} {k : Nat} (hk : k < l.length) : (l.take (k + 1)).sum = (l.take k).sum + l.getD k 0 := by
  rw [List.take_succ_eq_append_getElem hk, List.sum_append, List.getD_eq_getElem?_getD, List.getElem?_eq_getElem hk]; simp
theorem wt_take {l : List Trp} {k : Nat} (hk : k < l.length) : ((l.take (k + 1)).map wt).sum = ((l.take k).map wt).sum + wt (l.getD k default) := by
  rw [List.take_succ_eq_append_getElem hk, List.map_append, List.sum_append, List.getD_eq_getElem?_getD, List.getElem?_eq_getElem hk]; simp
theorem sum_bd {l : List Int} {k : Nat} (h : ∀ (i : Nat) x, l[i]? = some x → 0 ≤ x ∧ x ≤ 1000000) : 0 ≤ (l.take k).sum ∧ (l.take k).sum ≤ 1000000 * (l.length : Int) := by
  induction l generalizing k with
  | nil => simp
  | cons x r ih =>
    have hx := h 0 x rfl
    have hr := fun j => ih (k := j) fun i y hy => h (i + 1) y (by simpa using hy)
    cases k with
    | zero => simp only [List.take_zero, List.sum_nil, List.length_cons]; omega
    | succ k => have := hr k; simp only [List.take_succ_cons, List.sum_cons, List.length_cons]; omega
theorem wt_one {W : Wd} (hG : Good W) (k : Nat) (hk : k < W.troops.length) : 0 ≤ (W.troops.getD k default).load ∧ (W.troops.getD k default).load ≤ 5 ∧ 0 ≤ Wd.priceOf (W.troops.getD k default).kind ∧ Wd.priceOf (W.troops.getD k default).kind ≤ 12 := by
  have h := (hG.troops k _ (get_d (u := default) hk)).load
  have h2 : Wd.mostOf (W.troops.getD k default).kind ≤ 5 := by unfold Wd.mostOf; split <;> omega
  have h3 := price_le (W.troops.getD k default).kind
  omega
theorem wt_bd {W : Wd} {k : Nat} (hG : Good W) : 0 ≤ ((W.troops.take k).map wt).sum ∧ ((W.troops.take k).map wt).sum ≤ 17 * (k : Int) := by
  induction k with
  | zero => simp
  | succ k ih =>
    by_cases hk : k < W.troops.length
    · have h := wt_one hG k hk
      rw [wt_take hk]; unfold wt; unfold wt at ih; omega
    · rw [List.take_of_length_le (by omega)]; rw [List.take_of_length_le (by omega)] at ih; omega
set_option maxRecDepth 100000 in
set_option maxHeartbeats 400000 in
theorem worth_any  (w : World) (a : Wd.At) (W : Wd) (hW : Wd.Has w a W) :
    Calls Try.prog 32 #[.agg ((Wd.cells a W).toArray)] w (fun e w' => e = .returned (.tuple #[.int .i64 W.worth, .int .i64 W.chk]) ∧ Ext w w') := by
  refine calls_W (n := 60) Try.func32 rfl rfl rfl ?_
  refine sq <| rg <| bx rfl rfl rfl rfl fun w_1 b_2 x_3 l_4 B_5 => ?_
  have q_6 := x_3.size
  have z_1 := Ext.tr (Ext.rf w) x_3
  have q_7 := B_5.lt
  refine vl (as_ rfl) rfl <| vl (as_ rfl) rfl <| nl <| nT <| sq <| sq <| rg <| vl (ld rfl (B_5.all GooR_ag_api_World GooR_sz_api_World)) rfl <| ca GooR_en_troop_Check rfl rfl ((check_any a W _ (hW.keep z_1)).mono ?_)
  rintro e w_8 ⟨rfl, x_9⟩
  refine ⟨_, rfl, ?_⟩
  have q_10 := x_9.size
  have z_8 := Ext.tr z_1 x_9
  refine vl (as_ rfl) rfl <| nl <| nT <| sq <| rg <| vl (mv rfl) rfl <| vl (bne rfl rfl) rfl <| nl <| nT <| ?_
  refine cne rfl (fun h_11 => ?_) (fun h_11 => ?_)
  · refine sq <| rg <| vl (mv rfl) rfl <| vl (as_ rfl) rfl <| vl (as_ rfl) rfl <| nl <| nT <| rt <| tT <| tR (.tmp rfl (.tmp rfl .nil)) <| ?_
    exact ⟨by rw [worth_bad h_11]; rfl, z_8⟩
  · have hG := Good.of_chk h_11
    have hM : ∀ (i : Nat) x, W.mines[i]? = some x → 0 ≤ x ∧ x ≤ 1000000 := fun i x hx => ⟨(hG.mines i x hx).1, (hG.mines i x hx).2.1⟩
    have hS : ∀ (i : Nat) x, W.stocks[i]? = some x → 0 ≤ x ∧ x ≤ 1000000 := hG.stocks
    have hlm : W.mines.length ≤ 1600 := by rw [hG.ml]; exact Fld.len_le hG.field
    have hls : W.stocks.length ≤ 8 := by rw [hG.sl]; exact hG.nb
    have hlt := hG.nt
    have hbm := sum_bd (k := W.mines.length) hM
    have hbs := sum_bd (k := W.stocks.length) hS
    rw [List.take_length] at hbm hbs
    refine sk <| nT <| sq <| rg <| vl (as_ rfl) rfl <| nl <| nT <| sq <| sq <| rg <| vl (fa GooR_fd_api_World_3 rfl) rfl <| ?_
    have B_5 := B_5.later x_9
    refine vl (ld rfl (B_5.one GooR_ag_S_int rfl)) rfl <| vl (fa GooR_fd_api_World_2 rfl) rfl <| vl (ld rfl (B_5.one GooR_ag_S_int rfl)) rfl <| vl (v := .agg #[.slice a.M W.mines.length a.m, .slice a.S W.stocks.length a.s]) (bd rfl (by kernel_rfl)) rfl <| vl (mv rfl) rfl <| nl <| nT <| bk <| lu 3 <| lr <| sq <| rg <| vl (blt rfl rfl) rfl <| nl <| nT <| sq <| cT rfl <| sk <| nT <| sq <| bk <| sq <| rg <| vl (v := .slice a.M W.mines.length a.m) (ixk rfl rfl (by kernel_rfl)) rfl <| ?_
    refine vl (as_ rfl) rfl <| nl <| nT <| sq <| rg <| vl (mv rfl) rfl <| vl (ln Try.underlying22 rfl) rfl <| vl (mv rfl) rfl <| nl <| nT <| bk <| ?_
    refine lp (fun mI EI wI => ∃ k : Nat, EI = [(1, .pointer (some ⟨b_2, 0, none⟩)), (2, .int .i64 0), (3, .int .i64 0), (5, .int .i64 ((W.mines.take k).sum)), (7, .slice a.M W.mines.length a.m), (23, .agg #[.slice a.M W.mines.length a.m, .slice a.S W.stocks.length a.s]), (24, .int .i64 0), (25, .bool true), (26, .slice a.M W.mines.length a.m), (27, .slice a.M W.mines.length a.m), (28, .int .i64 (W.mines.length : Int)), (29, .int .i64 (k : Int))] ∧ mI = W.mines.length - k ∧ Ext w wI ∧ Blk wI b_2 (Wd.cells a W) 28 (0, 0) ∧ (k ≤ W.mines.length)) _ _ ⟨0, rfl, rfl, z_8, B_5, by omega⟩ (.cons rfl (.cons rfl (.cons rfl (.cons (loI rfl (by first | omega | rfl | (simp <;> omega))) (.cons rfl (.cons rfl (.cons rfl (.cons rfl (.cons rfl (.cons rfl (.cons rfl (.cons (loI rfl (by first | omega | rfl | (simp <;> omega))) .nil)))))))))))) ?_
    rintro m_13 E_14 w_12 ⟨k, rfl, rfl, z_12, B_5, hk⟩
    have q_15 := z_12.size
    have q_16 := B_5.lt
    have hbd := sum_bd (k := k) hM
    refine sq <| rg <| vl (blt rfl rfl) rfl <| nl <| nT <| sq <| ?_
    refine clt rfl (fun h_17 => ?_) (fun h_17 => ?_)
    · have hb2 := hM k _ (get_d (l := W.mines) (j := k) (u := 0) (by omega))
      refine sk <| nT <| sq <| bk <| sq <| rg <| vl (iA k Try.underlying22 GooR_sz_int rfl rfl ((hW.M.keep z_12).adr (Nat.zero_lt_of_lt (show k < _ from (by omega)))) rfl (by omega)) rfl <| vl (ld rfl (Rep.SHas.one' hcI (by rw [← (hW.M.keep z_12).adr (Nat.zero_lt_of_lt (show k < _ from (by omega)))]; exact (hW.M.keep z_12)) (get_d (l := W.mines) (u := 0) (by omega)) rfl GooR_ag_int)) rfl <| vl (as_ rfl) rfl <| nl <| nT <| rg <| vl (mv rfl) rfl <| vl (mv rfl) rfl <| vl (bad rfl rfl (inI (by omega))) rfl <| vl (as_ rfl) rfl <| nl <| nB <| nT <| rg <| vl (bad rfl rfl (inI (by omega))) rfl <| vl (mv rfl) rfl <| nl <| ?_
      exact nI _ _ ⟨k + 1, rfl, rfl, z_12, B_5, by omega⟩ (by omega) (.cons rfl (.cons rfl (.cons rfl (.cons (loI rfl (by have := sum_take (by omega : k < W.mines.length); omega)) (.cons rfl (.cons rfl (.cons rfl (.cons rfl (.cons rfl (.cons rfl (.cons rfl (.cons (loI rfl (by first | omega | rfl | (simp <;> omega))) .nil))))))))))))
    · obtain rfl : k = W.mines.length := by omega
      rw [List.take_length] at hbd
      refine xt <| xT <| xK <| xB <| nB <| nT <| rg <| vl (badL (r := 1) rfl rfl (by decide) (by decide)) rfl <| vl (mv rfl) rfl <| nl <| nR <| lr <| sq <| rg <| vl (blt rfl rfl) rfl <| nl <| nT <| sq <| cT rfl <| sk <| nT <| sq <| bk <| sq <| ?_
      refine rg <| vl (v := .slice a.S W.stocks.length a.s) (ixk rfl rfl (by kernel_rfl)) rfl <| vl (as_ rfl) rfl <| nl <| nT <| sq <| rg <| vl (mv rfl) rfl <| vl (ln Try.underlying22 rfl) rfl <| vl (mv rfl) rfl <| nl <| nT <| bk <| ?_
      refine lp (fun mI EI wI => ∃ k : Nat, EI = [(1, .pointer (some ⟨b_2, 0, none⟩)), (2, .int .i64 0), (3, .int .i64 0), (5, .int .i64 (W.mines.sum + (W.stocks.take k).sum)), (7, .slice a.S W.stocks.length a.s), (23, .agg #[.slice a.M W.mines.length a.m, .slice a.S W.stocks.length a.s]), (24, .int .i64 1), (25, .bool true), (26, .slice a.S W.stocks.length a.s), (27, .slice a.S W.stocks.length a.s), (28, .int .i64 (W.stocks.length : Int)), (29, .int .i64 (k : Int)), (37, .int .i64 1)] ∧ mI = W.stocks.length - k ∧ Ext w wI ∧ Blk wI b_2 (Wd.cells a W) 28 (0, 0) ∧ (k ≤ W.stocks.length)) _ _ ⟨0, rfl, rfl, z_12, B_5, by omega⟩ (.cons rfl (.cons rfl (.cons rfl (.cons (loI rfl (by first | omega | rfl | (simp <;> omega))) (.cons rfl (.cons rfl (.cons rfl (.cons rfl (.cons rfl (.cons rfl (.cons rfl (.cons (loI rfl (by first | omega | rfl | (simp <;> omega))) (.cons rfl .nil))))))))))))) ?_
      rintro m_19 E_20 w_18 ⟨k, rfl, rfl, z_18, B_5, hk⟩
      have q_21 := z_18.size
      have q_22 := B_5.lt
      have hbd := sum_bd (k := k) hS
      refine sq <| rg <| vl (blt rfl rfl) rfl <| nl <| nT <| sq <| ?_
      refine clt rfl (fun h_23 => ?_) (fun h_23 => ?_)
      · have hb2 := hS k _ (get_d (l := W.stocks) (j := k) (u := 0) (by omega))
        refine sk <| nT <| sq <| bk <| sq <| rg <| vl (iA k Try.underlying22 GooR_sz_int rfl rfl ((hW.S.keep z_18).adr (Nat.zero_lt_of_lt (show k < _ from (by omega)))) rfl (by omega)) rfl <| vl (ld rfl (Rep.SHas.one' hcI (by rw [← (hW.S.keep z_18).adr (Nat.zero_lt_of_lt (show k < _ from (by omega)))]; exact (hW.S.keep z_18)) (get_d (l := W.stocks) (u := 0) (by omega)) rfl GooR_ag_int)) rfl <| vl (as_ rfl) rfl <| nl <| nT <| rg <| vl (mv rfl) rfl <| vl (mv rfl) rfl <| vl (bad rfl rfl (inI (by omega))) rfl <| vl (as_ rfl) rfl <| nl <| nB <| nT <| rg <| vl (bad rfl rfl (inI (by omega))) rfl <| vl (mv rfl) rfl <| nl <| ?_
        exact nI _ _ ⟨k + 1, rfl, rfl, z_18, B_5, by omega⟩ (by omega) (.cons rfl (.cons rfl (.cons rfl (.cons (loI rfl (by have := sum_take (by omega : k < W.stocks.length); omega)) (.cons rfl (.cons rfl (.cons rfl (.cons rfl (.cons rfl (.cons rfl (.cons rfl (.cons (loI rfl (by first | omega | rfl | (simp <;> omega))) (.cons rfl .nil)))))))))))))
      · obtain rfl : k = W.stocks.length := by omega
        rw [List.take_length] at hbd
        refine xt <| xT <| xK <| xB <| nB <| nT <| rg <| vl (badL (r := 2) rfl rfl (by decide) (by decide)) rfl <| vl (mv rfl) rfl <| nl <| nR <| lr <| sq <| rg <| vl (blt rfl rfl) rfl <| nl <| nT <| sq <| cF rfl <| xt <| xT <| xK <| xB <| nT <| ?_
        refine sq <| sq <| rg <| vl (fa GooR_fd_api_World_4 rfl) rfl <| vl (ld rfl (B_5.one GooR_ag_S_api_Troop rfl)) rfl <| vl (ln Try.underlying26 rfl) rfl <| vl (mv rfl) rfl <| nl <| nT <| bk <| ?_
        refine lp (fun mI EI wI => ∃ k : Nat, EI = [(2, .int .i64 0), (3, .int .i64 0), (5, .int .i64 (W.mines.sum + W.stocks.sum + ((W.troops.take k).map wt).sum)), (39, .slice a.T W.troops.length a.t), (40, .int .i64 (W.troops.length : Int)), (41, .int .i64 (k : Int))] ∧ mI = W.troops.length - k ∧ Ext w wI ∧ (k ≤ W.troops.length)) _ _ ⟨0, rfl, rfl, z_18, by omega⟩ (.cons rfl (.cons rfl (.cons (loI rfl (by first | omega | rfl | (simp <;> omega))) (.cons rfl (.cons rfl (.cons (loI rfl (by first | omega | rfl | (simp <;> omega))) .nil)))))) ?_
        rintro m_25 E_26 w_24 ⟨k, rfl, rfl, z_24, hk⟩
        have q_27 := z_24.size
        have hbd := wt_bd (k := k) hG
        refine sq <| rg <| vl (blt rfl rfl) rfl <| nl <| nT <| sq <| ?_
        refine clt rfl (fun h_28 => ?_) (fun h_28 => ?_)
        · have hb2 := wt_one hG k (by omega)
          refine sk <| nT <| sq <| bk <| sq <| rg <| vl (iA k Try.underlying26 GooR_sz_api_Troop rfl rfl ((hW.T.keep z_24).adr (Nat.zero_lt_of_lt (show k < _ from (by omega)))) rfl (by omega)) rfl <| vl (ld rfl (Rep.SHas.elt hcT (by rw [← (hW.T.keep z_24).adr (Nat.zero_lt_of_lt (show k < _ from (by omega)))]; exact (hW.T.keep z_24)) (get_d (l := W.troops) (u := default) (by omega)) GooR_ag_api_Troop GooR_sz_api_Troop)) rfl <| al rfl GooR_zv_api_Troop rfl rfl fun w_29 b_30 x_31 l_32 B_33 => ?_
          have q_34 := x_31.size
          have z_29 := Ext.tr z_24 x_31
          have q_35 := B_33.lt
          refine st (new := [.int .i64 ((W.troops.getD k default).id), .int .i64 ((W.troops.getD k default).owner), .int .i64 ((W.troops.getD k default).kind), .int .i64 ((W.troops.getD k default).spot.x), .int .i64 ((W.troops.getD k default).spot.y), .int .i64 ((W.troops.getD k default).life), .int .i64 ((W.troops.getD k default).load)]) rfl rfl B_33 rfl GooR_sz_api_Troop rfl rfl rfl fun w_36 m_37 B_33 => ?_
          have q_39 := m_37.size
          have z_36 := Ext.mod z_29 m_37 (by simp only [List.mem_singleton, forall_eq]; omega)
          have q_38 := m_37.size
          refine nl <| nT <| sq <| rg <| vl (fa GooR_fd_api_Troop_2 rfl) rfl <| vl (ld rfl (B_33.one GooR_ag_int rfl)) rfl <| ca GooR_en_troop_Kind rfl rfl ((kind_any ((W.troops.getD k default).kind) _).mono ?_)
          rintro e w_40 ⟨rfl, x_41⟩
          refine ⟨_, rfl, ?_⟩
          have q_42 := x_41.size
          have z_40 := Ext.tr z_36 x_41
          refine vl (mv rfl) rfl <| vl (ex rfl rfl) rfl <| vl (ex rfl rfl) rfl <| al rfl GooR_zv_api_Kind rfl rfl fun w_43 b_44 x_45 l_46 B_47 => ?_
          have q_48 := x_45.size
          have z_43 := Ext.tr z_40 x_45
          have q_49 := B_47.lt
          refine st (new := [.int .i64 (Wd.lifeOf ((W.troops.getD k default).kind)), .int .i64 (reachOf ((W.troops.getD k default).kind)), .int .i64 (harmOf ((W.troops.getD k default).kind)), .int .i64 (Wd.priceOf ((W.troops.getD k default).kind))]) rfl rfl B_47 rfl GooR_sz_api_Kind rfl rfl rfl fun w_50 m_51 B_47 => ?_
          have q_53 := m_51.size
          have z_50 := Ext.mod z_43 m_51 (by simp only [List.mem_singleton, forall_eq]; omega)
          have q_52 := m_51.size
          refine vl (as_ rfl) rfl <| nl <| nT <| rg <| vl (mv rfl) rfl <| vl (fa GooR_fd_api_Troop_5 rfl) rfl <| ?_
          have B_33 := B_33.later (Ext.tr x_41 x_45)
          have B_33 := B_33.mod m_51 (by simp only [List.mem_singleton]; omega)
          refine vl (ld rfl (B_33.one GooR_ag_int rfl)) rfl <| vl (fa GooR_fd_api_Kind_3 rfl) rfl <| vl (ld rfl (B_47.one GooR_ag_int rfl)) rfl <| vl (bad rfl rfl (inI (by omega))) rfl <| vl (bad rfl rfl (inI (by omega))) rfl <| vl (as_ rfl) rfl <| nl <| nB <| nT <| rg <| vl (bad rfl rfl (inI (by omega))) rfl <| vl (mv rfl) rfl <| nl <| ?_
          exact nI _ _ ⟨k + 1, rfl, rfl, z_50, by omega⟩ (by omega) (.cons rfl (.cons rfl (.cons (loI rfl (by rw [wt_take (by omega : k < W.troops.length)]; unfold wt; omega)) (.cons rfl (.cons rfl (.cons (loI rfl (by first | omega | rfl | (simp <;> omega))) .nil))))))
        · obtain rfl : k = W.troops.length := by omega
          refine xt <| xT <| xK <| xB <| nT <| sq <| rg <| vl (mv rfl) rfl <| vl (as_ rfl) rfl <| vl (as_ rfl) rfl <| nl <| nT <| rt <| tR (.tmp rfl (.tmp rfl .nil)) <| ?_
          exact ⟨by rw [worth_ok h_11, hG.chk0]; unfold Wd.total; simp only [List.take_length]; rfl, z_24⟩
end Go.Proofs.Yticfnngppcmidaa
