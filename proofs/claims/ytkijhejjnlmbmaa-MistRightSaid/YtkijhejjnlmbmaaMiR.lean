/-
  MistRight. (Printed by bin/mistlaw.py.)
-/
import Derived.Test.YtkijhejjnlmbmaaMiL
set_option linter.unusedVariables false
set_option linter.unusedSimpArgs false
namespace Go.Proofs.Ytkijhejjnlmbmaa
open Go.RowKit

theorem MiR_ag_api_World : Ag Try.prog 46 true := fun _ => by kernel_rfl
theorem MiR_sz_api_World : Sz Try.prog 46 9 := fun _ => by kernel_rfl
theorem MiR_en_mist_View : Enters Try.prog 25 := en Try.func25 (by kernel_rfl) (by kernel_rfl)
theorem MiR_zv_api_World : Zv Try.prog 46 (.agg #[.int .i64 0, .int .i64 0, .slice none 0 0, .slice none 0 0, .slice none 0 0, .slice none 0 0, .slice none 0 0, .int .i64 0, .int .i64 0]) := fun _ => by kernel_rfl
theorem MiR_en_mustkeep_mistLives : Enters Try.prog 26 := en Try.func26 (by kernel_rfl) (by kernel_rfl)
theorem MiR_en_troop_Check : Enters Try.prog 27 := en Try.func27 (by kernel_rfl) (by kernel_rfl)
theorem MiR_fd_api_World_2 : Fd Try.prog 46 2 4 := fun _ _ _ => by kernel_rfl
theorem MiR_ag_S_int : Ag Try.prog 22 false := fun _ => by kernel_rfl
theorem MiR_sz_int : Sz Try.prog 3 1 := fun _ => by kernel_rfl
theorem MiR_ag_int : Ag Try.prog 3 false := fun _ => by kernel_rfl
theorem MiR_fd_api_World_6 : Fd Try.prog 46 6 8 := fun _ _ _ => by kernel_rfl
theorem MiR_fd_api_World_4 : Fd Try.prog 46 4 6 := fun _ _ _ => by kernel_rfl
theorem MiR_ag_S_api_Troop : Ag Try.prog 44 false := fun _ => by kernel_rfl
theorem MiR_sz_api_Troop : Sz Try.prog 51 7 := fun _ => by kernel_rfl
theorem MiR_ag_api_Troop : Ag Try.prog 51 true := fun _ => by kernel_rfl
theorem MiR_zv_api_Troop : Zv Try.prog 51 (.agg #[.int .i64 0, .int .i64 0, .int .i64 0, .int .i64 0, .int .i64 0, .int .i64 0, .int .i64 0]) := fun _ => by kernel_rfl
theorem MiR_en_slices_Contains_S_api_Troop_api_Troop_ : Enters Try.prog 28 := en Try.func28 (by kernel_rfl) (by kernel_rfl)
theorem MiR_fd_api_Troop_1 : Fd Try.prog 51 1 1 := fun _ _ _ => by kernel_rfl
theorem MiR_fd_api_World_0 : Fd Try.prog 46 0 0 := fun _ _ _ => by kernel_rfl
theorem MiR_ag_api_Field : Ag Try.prog 24 true := fun _ => by kernel_rfl
theorem MiR_sz_api_Field : Sz Try.prog 24 3 := fun _ => by kernel_rfl
theorem MiR_en_mustref_SameField : Enters Try.prog 17 := en Try.func17 (by kernel_rfl) (by kernel_rfl)
theorem MiR_fd_api_World_1 : Fd Try.prog 46 1 3 := fun _ _ _ => by kernel_rfl
theorem MiR_ag_S_api_Cell : Ag Try.prog 43 false := fun _ => by kernel_rfl
theorem MiR_en_slices_Equal_S_api_Cell_api_Cell_ : Enters Try.prog 29 := en Try.func29 (by kernel_rfl) (by kernel_rfl)
theorem own_in {W : Wd} {p : Int} (h : mistE W p = 0) {t : Trp} (ht : t ∈ W.troops) : ((t.owner == p) && (!(viewW W p).troops.any (fun y => decide (t = y)))) = false := by
  by_cases ho : t.owner = p
  · rw [anyT (view_own h ht ho)]; simp
  · simp [ho]
set_option maxRecDepth 100000 in
set_option maxHeartbeats 400000 in
theorem mistRight_walk (a : Wd.At) (W : Wd) (p : Int) (w : World) (hW : Wd.Has w a W) :
    Calls Try.prog 6 #[.agg ((Wd.cells a W).toArray), .int .i64 p] w (fun e w' => e = .returned (.bool true) ∧ Ext w w') := by
  refine calls_W (n := 91) Try.func6 rfl rfl rfl ?_
  refine sq <| rg <| bx rfl rfl rfl rfl fun w_1 b_2 x_3 l_4 B_5 => ?_
  have q_6 := x_3.size
  have z_1 := Ext.tr (Ext.rf w) x_3
  have q_7 := B_5.lt
  refine vl (as_ rfl) rfl <| nl <| nT <| sq <| rg <| vl (ld rfl (B_5.all MiR_ag_api_World MiR_sz_api_World)) rfl <| vl (mv rfl) rfl <| ca MiR_en_mist_View rfl rfl ((view_any a W p _ (hW.keep z_1)).mono ?_)
  rintro e w_11 ⟨a_8, rfl, HV_8, x_12⟩
  refine ⟨_, rfl, ?_⟩
  have q_13 := x_12.size
  have z_11 := Ext.tr z_1 x_12
  have u_9 := fun q hq => (HV_8.lt q hq).2
  have lo_10 := fun q hq => (HV_8.lt q hq).1
  refine vl (mv rfl) rfl <| vl (ex rfl rfl) rfl <| vl (ex rfl rfl) rfl <| al rfl MiR_zv_api_World rfl rfl fun w_14 b_15 x_16 l_17 B_18 => ?_
  have q_19 := x_16.size
  have z_14 := Ext.tr z_11 x_16
  have q_20 := B_18.lt
  refine st rfl rfl B_18 rfl MiR_sz_api_World rfl rfl rfl fun w_21 m_22 B_18 => ?_
  have q_24 := m_22.size
  have z_21 := Ext.mod z_14 m_22 (by simp only [List.mem_singleton, forall_eq]; omega)
  have q_23 := m_22.size
  refine vl (as_ rfl) rfl <| nl <| nT <| sq <| sq <| rg <| ca MiR_en_mustkeep_mistLives rfl rfl ((mistLives_any _).mono ?_)
  rintro e w_25 ⟨rfl, x_26⟩
  refine ⟨_, rfl, ?_⟩
  have q_27 := x_26.size
  have z_25 := Ext.tr z_21 x_26
  refine vl (nt rfl) rfl <| vl (mv rfl) rfl <| ug rfl rfl rfl <| vl (mv rfl) rfl <| ug rfl rfl rfl <| vl (bne rfl rfl) rfl <| vl (pkF rfl rfl) rfl <| nl <| nT <| ?_
  refine cne rfl (fun h_28 => ?_) (fun h_28 => ?_)
  · refine sq <| rg <| ca MiR_en_mustkeep_mistLives rfl rfl ((mistLives_any _).mono ?_)
    rintro e w_29 ⟨rfl, x_30⟩
    refine ⟨_, rfl, ?_⟩
    have q_31 := x_30.size
    have z_29 := Ext.tr z_25 x_30
    refine vl (as_ rfl) rfl <| nl <| nT <| rt <| tT <| tR (.tmp rfl .nil) <| ?_
    exact ⟨rfl, z_29⟩
  · have e0 : mistE W p = 0 := by simpa using h_28
    obtain ⟨hchk, hp0, hp1⟩ := mistE_ok e0
    have hG := Good.of_chk hchk
    have hsl := hG.sl
    have hV := view_good e0
    have hVs := hV.sl
    have hVb : (viewW W p).bases = W.bases := by rw [view_ok e0]
    rw [hVb] at hVs
    have hvl := vtroops_len W p
    have hnt := hG.nt
    have hvt := hV.nt
    refine sk <| nT <| sq <| sq <| ?_
    refine rd [(0, 0), (1, 0), (5, 0), (8, 0), (10, 0), (13, 0), (18, 0), (20, 0)] [0, 1, 2, 3, 4, 5, 6, 7, 8, 9, 10, 11, 12, 13, 14, 15, 16, 17, 18, 19, 20, 21, 22] (by kernel_rfl) (by kernel_rfl) ?_
    have B_18 := B_18.later x_26
    refine fq rfl rfl (fun _ x => ld rfl ((B_18.later x).all MiR_ag_api_World MiR_sz_api_World)) rfl <| ?_
    have HV_8 := HV_8.later x_16
    have HV_8 := HV_8.mod m_22 (fun q hq h => by have hb := List.mem_singleton.1 h; exfalso; (have := u_9 q hq; omega))
    have HV_8 := HV_8.later x_26
    refine fc rfl rfl MiR_en_troop_Check rfl (fun _ x => check_any a_8 (viewW W p) _ (HV_8.later x).has) rfl <| fw rfl rfl (fun _ => bne rfl rfl) rfl <| fw rfl rfl (fun _ => mv rfl) rfl <| fW rfl rfl rfl rfl rfl rfl (fun hc _ => fa MiR_fd_api_World_2 rfl) rfl <| fQ rfl rfl rfl rfl rfl rfl (fun hc _ x => ld (gt hc rfl) ((B_18.later x).one MiR_ag_S_int rfl)) rfl <| fW rfl rfl rfl rfl rfl rfl (fun hc _ => mv rfl) rfl <| fW rfl rfl rfl rfl rfl rfl (fun hc _ => iA p.toNat Try.underlying22 MiR_sz_int (gt hc rfl) (gt hc rfl) (HV_8.S.has.adr (Nat.zero_lt_of_lt (show p.toNat < _ from (by (try simp only [Bool.or_eq_true, Bool.or_eq_false_iff, Bool.and_eq_true, Bool.and_eq_false_iff, decide_eq_true_eq, decide_eq_false_iff_not, beq_iff_eq, bne_iff_ne, beq_eq_false_iff_ne, bne_eq_false_iff_eq, Bool.not_eq_true', Bool.not_eq_false', Bool.not_eq_true, Bool.not_eq_false, Int.not_lt, Int.not_le, Nat.not_lt, Nat.not_le, ne_eq, Classical.not_not] at hc); omega)))) (by (try simp only [Bool.or_eq_true, Bool.or_eq_false_iff, Bool.and_eq_true, Bool.and_eq_false_iff, decide_eq_true_eq, decide_eq_false_iff_not, beq_iff_eq, bne_iff_ne, beq_eq_false_iff_ne, bne_eq_false_iff_eq, Bool.not_eq_true', Bool.not_eq_false', Bool.not_eq_true, Bool.not_eq_false, Int.not_lt, Int.not_le, Nat.not_lt, Nat.not_le, ne_eq, Classical.not_not] at hc); omega) (by (try simp only [Bool.or_eq_true, Bool.or_eq_false_iff, Bool.and_eq_true, Bool.and_eq_false_iff, decide_eq_true_eq, decide_eq_false_iff_not, beq_iff_eq, bne_iff_ne, beq_eq_false_iff_ne, bne_eq_false_iff_eq, Bool.not_eq_true', Bool.not_eq_false', Bool.not_eq_true, Bool.not_eq_false, Int.not_lt, Int.not_le, Nat.not_lt, Nat.not_le, ne_eq, Classical.not_not] at hc); omega)) rfl <| fQ rfl rfl rfl rfl rfl rfl (fun hc _ x => ld (gt hc rfl) (Rep.SHas.one' hcI ((HV_8.later x).S.has.adh (Nat.zero_lt_of_lt (show p.toNat < _ from (by (try simp only [Bool.or_eq_true, Bool.or_eq_false_iff, Bool.and_eq_true, Bool.and_eq_false_iff, decide_eq_true_eq, decide_eq_false_iff_not, beq_iff_eq, bne_iff_ne, beq_eq_false_iff_ne, bne_eq_false_iff_eq, Bool.not_eq_true', Bool.not_eq_false', Bool.not_eq_true, Bool.not_eq_false, Int.not_lt, Int.not_le, Nat.not_lt, Nat.not_le, ne_eq, Classical.not_not] at hc); omega)))) (get_d (l := (viewW W p).stocks) (u := 0) (by (try simp only [Bool.or_eq_true, Bool.or_eq_false_iff, Bool.and_eq_true, Bool.and_eq_false_iff, decide_eq_true_eq, decide_eq_false_iff_not, beq_iff_eq, bne_iff_ne, beq_eq_false_iff_ne, bne_eq_false_iff_eq, Bool.not_eq_true', Bool.not_eq_false', Bool.not_eq_true, Bool.not_eq_false, Int.not_lt, Int.not_le, Nat.not_lt, Nat.not_le, ne_eq, Classical.not_not] at hc); omega)) rfl MiR_ag_int)) rfl <| fW rfl rfl rfl rfl rfl rfl (fun hc _ => fa MiR_fd_api_World_2 rfl) rfl <| ?_
    have B_5 := B_5.later (Ext.tr x_12 x_16)
    have B_5 := B_5.mod m_22 (by simp only [List.mem_singleton]; omega)
    have B_5 := B_5.later x_26
    refine fQ rfl rfl rfl rfl rfl rfl (fun hc _ x => ld (gt hc rfl) ((B_5.later x).one MiR_ag_S_int rfl)) rfl <| fW rfl rfl rfl rfl rfl rfl (fun hc _ => mv rfl) rfl <| fW rfl rfl rfl rfl rfl rfl (fun hc _ => iA p.toNat Try.underlying22 MiR_sz_int (gt hc rfl) (gt hc rfl) ((hW.S.keep z_25).adr (Nat.zero_lt_of_lt (show p.toNat < _ from (by (try simp only [Bool.or_eq_true, Bool.or_eq_false_iff, Bool.and_eq_true, Bool.and_eq_false_iff, decide_eq_true_eq, decide_eq_false_iff_not, beq_iff_eq, bne_iff_ne, beq_eq_false_iff_ne, bne_eq_false_iff_eq, Bool.not_eq_true', Bool.not_eq_false', Bool.not_eq_true, Bool.not_eq_false, Int.not_lt, Int.not_le, Nat.not_lt, Nat.not_le, ne_eq, Classical.not_not] at hc); omega)))) (by (try simp only [Bool.or_eq_true, Bool.or_eq_false_iff, Bool.and_eq_true, Bool.and_eq_false_iff, decide_eq_true_eq, decide_eq_false_iff_not, beq_iff_eq, bne_iff_ne, beq_eq_false_iff_ne, bne_eq_false_iff_eq, Bool.not_eq_true', Bool.not_eq_false', Bool.not_eq_true, Bool.not_eq_false, Int.not_lt, Int.not_le, Nat.not_lt, Nat.not_le, ne_eq, Classical.not_not] at hc); omega) (by (try simp only [Bool.or_eq_true, Bool.or_eq_false_iff, Bool.and_eq_true, Bool.and_eq_false_iff, decide_eq_true_eq, decide_eq_false_iff_not, beq_iff_eq, bne_iff_ne, beq_eq_false_iff_ne, bne_eq_false_iff_eq, Bool.not_eq_true', Bool.not_eq_false', Bool.not_eq_true, Bool.not_eq_false, Int.not_lt, Int.not_le, Nat.not_lt, Nat.not_le, ne_eq, Classical.not_not] at hc); omega)) rfl <| fQ rfl rfl rfl rfl rfl rfl (fun hc _ x => ld (gt hc rfl) (Rep.SHas.one' hcI ((hW.S.keep (Ext.tr z_25 x)).adh (Nat.zero_lt_of_lt (show p.toNat < _ from (by (try simp only [Bool.or_eq_true, Bool.or_eq_false_iff, Bool.and_eq_true, Bool.and_eq_false_iff, decide_eq_true_eq, decide_eq_false_iff_not, beq_iff_eq, bne_iff_ne, beq_eq_false_iff_ne, bne_eq_false_iff_eq, Bool.not_eq_true', Bool.not_eq_false', Bool.not_eq_true, Bool.not_eq_false, Int.not_lt, Int.not_le, Nat.not_lt, Nat.not_le, ne_eq, Classical.not_not] at hc); omega)))) (get_d (l := W.stocks) (u := 0) (by (try simp only [Bool.or_eq_true, Bool.or_eq_false_iff, Bool.and_eq_true, Bool.and_eq_false_iff, decide_eq_true_eq, decide_eq_false_iff_not, beq_iff_eq, bne_iff_ne, beq_eq_false_iff_ne, bne_eq_false_iff_eq, Bool.not_eq_true', Bool.not_eq_false', Bool.not_eq_true, Bool.not_eq_false, Int.not_lt, Int.not_le, Nat.not_lt, Nat.not_le, ne_eq, Classical.not_not] at hc); omega)) rfl MiR_ag_int)) rfl <| fW rfl rfl rfl rfl rfl rfl (fun hc _ => bne (gt hc rfl) (gt hc rfl)) rfl <| fw rfl rfl (fun _ => pO rfl rfl rfl rfl) rfl <| fw rfl rfl (fun _ => mv rfl) rfl <| fW rfl rfl rfl rfl rfl rfl (fun hc _ => fa MiR_fd_api_World_6 rfl) rfl <| fQ rfl rfl rfl rfl rfl rfl (fun hc _ x => ld (gt hc rfl) ((B_18.later x).one MiR_ag_int rfl)) rfl <| fW rfl rfl rfl rfl rfl rfl (fun hc _ => fa MiR_fd_api_World_6 rfl) rfl <| fQ rfl rfl rfl rfl rfl rfl (fun hc _ x => ld (gt hc rfl) ((B_5.later x).one MiR_ag_int rfl)) rfl <| fW rfl rfl rfl rfl rfl rfl (fun hc _ => bne (gt hc rfl) (gt hc rfl)) rfl <| fw rfl rfl (fun _ => pO rfl rfl rfl rfl) rfl <| fn fun w_32 x_33 => ?_
    have q_34 := x_33.size
    have z_32 := Ext.tr z_25 x_33
    refine nT <| ?_
    have h_35 : (((((viewW W p).chk) != 0) || ((((viewW W p).stocks).getD p.toNat 0) != (W.stocks.getD p.toNat 0))) || (((viewW W p).now) != W.now)) = false := by have c1 := view_good e0; have c2 := view_stock e0; have c3 : (viewW W p).now = W.now := (by rw [view_ok e0]); rw [c1.chk, c2, c3]; simp
    refine cF (by rw [← h_35]; rfl) <| sk <| nT <| sq <| sq <| rg <| vl (fa MiR_fd_api_World_4 rfl) rfl <| ?_
    have B_18 := B_18.later x_33
    refine vl (ld rfl (B_18.one MiR_ag_S_api_Troop rfl)) rfl <| vl (ln Try.underlying44 rfl) rfl <| vl (mv rfl) rfl <| nl <| nT <| bk <| ?_
    have B_5 := B_5.later x_33
    have HV_8 := HV_8.later x_33
    refine lp (fun mI EI wI => ∃ i : Nat, EI = [(1, .int .i64 p), (2, .pointer (some ⟨b_2, 0, none⟩)), (5, .pointer (some ⟨b_15, 0, none⟩)), (48, .slice a_8.T ((viewW W p).troops.length) a_8.t), (49, .int .i64 ((((viewW W p).troops.length : Nat) : Int))), (50, .int .i64 (i : Int))] ∧ mI = (viewW W p).troops.length - i ∧ Ext w wI ∧ Blk wI b_2 (Wd.cells a W) 46 (0, 0) ∧ WOwn wI w_1.heap.size a_8 (viewW W p) ∧ Blk wI b_15 ((Wd.cells a_8 (viewW W p))) 46 (0, 0) ∧ (i ≤ (viewW W p).troops.length)) _ _ ⟨0, rfl, rfl, z_32, B_5, HV_8, B_18, by omega⟩ (.cons rfl (.cons rfl (.cons rfl (.cons rfl (.cons rfl (.cons (loI rfl (by first | omega | rfl | (simp <;> omega))) .nil)))))) ?_
    rintro m_37 E_38 w_36 ⟨i, rfl, rfl, z_36, B_5, HV_8, B_18, hi⟩
    have q_39 := z_36.size
    have q_40 := B_5.lt
    have u_41 := fun q hq => (HV_8.lt q hq).2
    have q_42 := B_18.lt
    refine sq <| rg <| vl (blt rfl rfl) rfl <| nl <| nT <| sq <| ?_
    refine clt rfl (fun h_43 => ?_) (fun h_43 => ?_)
    · refine sk <| nT <| sq <| bk <| sq <| rg <| vl (iA i Try.underlying44 MiR_sz_api_Troop rfl rfl (HV_8.T.has.adr (Nat.zero_lt_of_lt (show i < _ from (by omega)))) rfl (by omega)) rfl <| vl (ld rfl (Rep.SHas.elt hcT (HV_8.T.has.adh (Nat.zero_lt_of_lt (show i < _ from (by omega)))) (get_d (l := (viewW W p).troops) (u := default) (by omega)) MiR_ag_api_Troop MiR_sz_api_Troop)) rfl <| al rfl MiR_zv_api_Troop rfl rfl fun w_44 b_45 x_46 l_47 B_48 => ?_
      have q_49 := x_46.size
      have z_44 := Ext.tr z_36 x_46
      have q_50 := B_48.lt
      refine st (new := [.int .i64 ((((viewW W p).troops).getD i default).id), .int .i64 ((((viewW W p).troops).getD i default).owner), .int .i64 ((((viewW W p).troops).getD i default).kind), .int .i64 ((((viewW W p).troops).getD i default).spot.x), .int .i64 ((((viewW W p).troops).getD i default).spot.y), .int .i64 ((((viewW W p).troops).getD i default).life), .int .i64 ((((viewW W p).troops).getD i default).load)]) rfl rfl B_48 rfl MiR_sz_api_Troop rfl rfl rfl fun w_51 m_52 B_48 => ?_
      have q_54 := m_52.size
      have z_51 := Ext.mod z_44 m_52 (by simp only [List.mem_singleton, forall_eq]; omega)
      have q_53 := m_52.size
      refine nl <| nT <| sq <| rg <| vl (fa MiR_fd_api_World_4 rfl) rfl <| ?_
      have B_5 := B_5.later x_46
      have B_5 := B_5.mod m_52 (by simp only [List.mem_singleton]; omega)
      refine vl (ld rfl (B_5.one MiR_ag_S_api_Troop rfl)) rfl <| vl (ld rfl (B_48.all MiR_ag_api_Troop MiR_sz_api_Troop)) rfl <| ca MiR_en_slices_Contains_S_api_Troop_api_Troop_ rfl rfl ((contains_T (((viewW W p).troops).getD i default) _ _ W.troops _ (hW.T.keep z_51)).mono ?_)
      rintro e w_55 ⟨rfl, x_56⟩
      refine ⟨_, rfl, ?_⟩
      have q_57 := x_56.size
      have z_55 := Ext.tr z_51 x_56
      refine vl (nt rfl) rfl <| nl <| nT <| ?_
      have h_58 : (!((W.troops).any (fun y => decide (((viewW W p).troops).getD i default = y)))) = false := by rw [anyT (view_mem e0 (mem_dd (d := default) (by omega)))]; rfl
      refine cF (by rw [← h_58]; rfl) <| sk <| nB <| nT <| rg <| vl (bad rfl rfl (inI (by omega))) rfl <| vl (mv rfl) rfl <| nl <| ?_
      have B_5 := B_5.later x_56
      have HV_8 := HV_8.later x_46
      have HV_8 := HV_8.mod m_52 (fun q hq h => by have hb := List.mem_singleton.1 h; exfalso; (have := u_41 q hq; have := u_9 q hq; omega))
      have HV_8 := HV_8.later x_56
      have B_18 := B_18.later x_46
      have B_18 := B_18.mod m_52 (by simp only [List.mem_singleton]; omega)
      have B_18 := B_18.later x_56
      exact nI _ _ ⟨i + 1, rfl, rfl, z_55, B_5, HV_8, B_18, by omega⟩ (by omega) (.cons rfl (.cons rfl (.cons rfl (.cons rfl (.cons rfl (.cons (loI rfl (by first | omega | rfl | (simp <;> omega))) .nil))))))
    · refine xt <| xT <| xK <| xB <| nT <| sq <| sq <| rg <| vl (fa MiR_fd_api_World_4 rfl) rfl <| vl (ld rfl (B_5.one MiR_ag_S_api_Troop rfl)) rfl <| vl (ln Try.underlying44 rfl) rfl <| vl (mv rfl) rfl <| nl <| nT <| bk <| ?_
      refine lp (fun mI EI wI => ∃ j : Nat, EI = [(1, .int .i64 p), (2, .pointer (some ⟨b_2, 0, none⟩)), (5, .pointer (some ⟨b_15, 0, none⟩)), (61, .slice a.T W.troops.length a.t), (62, .int .i64 (W.troops.length : Int)), (63, .int .i64 (j : Int))] ∧ mI = W.troops.length - j ∧ Ext w wI ∧ Blk wI b_2 (Wd.cells a W) 46 (0, 0) ∧ WOwn wI w_1.heap.size a_8 (viewW W p) ∧ Blk wI b_15 ((Wd.cells a_8 (viewW W p))) 46 (0, 0) ∧ (j ≤ W.troops.length)) _ _ ⟨0, rfl, rfl, z_36, B_5, HV_8, B_18, by omega⟩ (.cons rfl (.cons rfl (.cons rfl (.cons rfl (.cons rfl (.cons (loI rfl (by first | omega | rfl | (simp <;> omega))) .nil)))))) ?_
      rintro m_60 E_61 w_59 ⟨j, rfl, rfl, z_59, B_5, HV_8, B_18, hj⟩
      have q_62 := z_59.size
      have q_63 := B_5.lt
      have u_64 := fun q hq => (HV_8.lt q hq).2
      have q_65 := B_18.lt
      refine sq <| rg <| vl (blt rfl rfl) rfl <| nl <| nT <| sq <| ?_
      refine clt rfl (fun h_66 => ?_) (fun h_66 => ?_)
      · refine sk <| nT <| sq <| bk <| sq <| rg <| vl (iA j Try.underlying44 MiR_sz_api_Troop rfl rfl ((hW.T.keep z_59).adr (Nat.zero_lt_of_lt (show j < _ from (by omega)))) rfl (by omega)) rfl <| vl (ld rfl (Rep.SHas.elt hcT ((hW.T.keep z_59).adh (Nat.zero_lt_of_lt (show j < _ from (by omega)))) (get_d (l := W.troops) (u := default) (by omega)) MiR_ag_api_Troop MiR_sz_api_Troop)) rfl <| al rfl MiR_zv_api_Troop rfl rfl fun w_67 b_68 x_69 l_70 B_71 => ?_
        have q_72 := x_69.size
        have z_67 := Ext.tr z_59 x_69
        have q_73 := B_71.lt
        refine st (new := [.int .i64 ((W.troops.getD j default).id), .int .i64 ((W.troops.getD j default).owner), .int .i64 ((W.troops.getD j default).kind), .int .i64 ((W.troops.getD j default).spot.x), .int .i64 ((W.troops.getD j default).spot.y), .int .i64 ((W.troops.getD j default).life), .int .i64 ((W.troops.getD j default).load)]) rfl rfl B_71 rfl MiR_sz_api_Troop rfl rfl rfl fun w_74 m_75 B_71 => ?_
        have q_77 := m_75.size
        have z_74 := Ext.mod z_67 m_75 (by simp only [List.mem_singleton, forall_eq]; omega)
        have q_76 := m_75.size
        refine nl <| nT <| sq <| rg <| vl (fa MiR_fd_api_Troop_1 rfl) rfl <| vl (ld rfl (B_71.one MiR_ag_int rfl)) rfl <| vl (mv rfl) rfl <| vl (beq rfl rfl) rfl <| vl (mv rfl) rfl <| vQ rfl rfl rfl rfl (fun hc => fa MiR_fd_api_World_4 rfl) rfl <| ?_
        have B_18 := B_18.later x_69
        have B_18 := B_18.mod m_75 (by simp only [List.mem_singleton]; omega)
        refine vQ rfl rfl rfl rfl (fun hc => ld (gt hc rfl) (B_18.one MiR_ag_S_api_Troop rfl)) rfl <| vQ rfl rfl rfl rfl (fun hc => ld rfl (B_71.all MiR_ag_api_Troop MiR_sz_api_Troop)) rfl <| ?_
        have HV_8 := HV_8.later x_69
        have HV_8 := HV_8.mod m_75 (fun q hq h => by have hb := List.mem_singleton.1 h; exfalso; (have := u_64 q hq; have := u_9 q hq; have := u_41 q hq; omega))
        refine vC rfl rfl rfl rfl MiR_en_slices_Contains_S_api_Troop_api_Troop_ (fun hc => ec (gt hc rfl) (ec (gt hc rfl) rfl)) (fun hc => contains_T (W.troops.getD j default) _ _ ((viewW W p).troops) _ HV_8.T.has) rfl fun w_78 x_79 => ?_
        have q_80 := x_79.size
        have z_78 := Ext.tr z_74 x_79
        refine vQ rfl rfl rfl rfl (fun hc => nt (gt hc rfl)) rfl <| vl (pA rfl rfl rfl rfl) rfl <| nl <| nT <| ?_
        have h_81 : ((((W.troops.getD j default).owner) == p) && (!(((viewW W p).troops).any (fun y => decide (W.troops.getD j default = y))))) = false := by exact own_in e0 (mem_dd (d := default) (show j < W.troops.length by omega))
        refine cF (by rw [← h_81]; rfl) <| sk <| nB <| nT <| rg <| vl (bad rfl rfl (inI (by omega))) rfl <| vl (mv rfl) rfl <| nl <| ?_
        have B_5 := B_5.later x_69
        have B_5 := B_5.mod m_75 (by simp only [List.mem_singleton]; omega)
        have B_5 := B_5.later x_79
        have HV_8 := HV_8.later x_79
        have B_18 := B_18.later x_79
        exact nI _ _ ⟨j + 1, rfl, rfl, z_78, B_5, HV_8, B_18, by omega⟩ (by omega) (.cons rfl (.cons rfl (.cons rfl (.cons rfl (.cons rfl (.cons (loI rfl (by first | omega | rfl | (simp <;> omega))) .nil))))))
      · refine xt <| xT <| xK <| xB <| nT <| sq <| rg <| vl (fa MiR_fd_api_World_0 rfl) rfl <| vl (ld rfl (B_18.par [.int .i64 ((viewW W p).field.wide), .int .i64 ((viewW W p).field.high), .slice a_8.P ((viewW W p).field.places.length) a_8.p] MiR_ag_api_Field MiR_sz_api_Field rfl)) rfl <| vl (fa MiR_fd_api_World_0 rfl) rfl <| vl (ld rfl (B_5.par [.int .i64 W.field.wide, .int .i64 W.field.high, .slice a.P W.field.places.length a.p] MiR_ag_api_Field MiR_sz_api_Field rfl)) rfl <| ca MiR_en_mustref_SameField rfl rfl ((sameField_any ((viewW W p).field) W.field _ _ _ _ _ HV_8.P.has (hW.P.keep z_59)).mono ?_)
        rintro e w_82 ⟨rfl, x_83⟩
        refine ⟨_, rfl, ?_⟩
        have q_84 := x_83.size
        have z_82 := Ext.tr z_59 x_83
        refine vl (mv rfl) rfl <| vQ rfl rfl rfl rfl (fun hc => fa MiR_fd_api_World_1 rfl) rfl <| ?_
        have B_18 := B_18.later x_83
        refine vQ rfl rfl rfl rfl (fun hc => ld (gt hc rfl) (B_18.one MiR_ag_S_api_Cell rfl)) rfl <| vQ rfl rfl rfl rfl (fun hc => fa MiR_fd_api_World_1 rfl) rfl <| ?_
        have B_5 := B_5.later x_83
        refine vQ rfl rfl rfl rfl (fun hc => ld (gt hc rfl) (B_5.one MiR_ag_S_api_Cell rfl)) rfl <| ?_
        have HV_8 := HV_8.later x_83
        refine vC rfl rfl rfl rfl MiR_en_slices_Equal_S_api_Cell_api_Cell_ (fun hc => ec (gt hc rfl) (ec (gt hc rfl) rfl)) (fun hc => equal_C _ _ _ _ _ _ ((viewW W p).bases) W.bases _ HV_8.B.has (hW.B.keep z_82)) rfl fun w_85 x_86 => ?_
        have q_87 := x_86.size
        have z_85 := Ext.tr z_82 x_86
        refine vl (pA rfl rfl rfl rfl) rfl <| vl (as_ rfl) rfl <| nl <| nT <| rt <| tR (.tmp rfl .nil) <| ?_
        exact ⟨ret_true (by rw [view_ok e0]; simp), z_85⟩
theorem mistRight_any (c0 : Array Value) (a1 : Int) (w : World) (h0 : (.cons (.cons (.int .i64) (.cons (.int .i64) (.cons (.slice (.int .i64) 8) .nil))) (.cons (.slice (.cons (.int .i64) (.cons (.int .i64) .nil)) 16) (.cons (.slice (.int .i64) 8) (.cons (.slice (.int .i64) 8) (.cons (.slice (.cons (.int .i64) (.cons (.int .i64) (.cons (.int .i64) (.cons (.cons (.int .i64) (.cons (.int .i64) .nil)) (.cons (.int .i64) (.cons (.int .i64) .nil)))))) 56) (.cons (.int .i64) (.cons (.int .i64) .nil)))))) : Sh).Ok w c0.toList) (w1 : (Lit.int .i64 a1).wf = true) :
    Calls Try.prog 6 #[.agg c0, .int .i64 a1] w fun e w' => e = .returned (.bool true) ∧ Below w.heap.size w w' := by
  obtain ⟨a, W, e, hW⟩ := Wd.opens w _ (show Wd.sh.Ok w c0.toList from h0)
  have hc : c0 = (Wd.cells a W).toArray := by rw [← e]
  subst hc
  exact mistRight_walk a W a1 w hW
end Go.Proofs.Ytkijhejjnlmbmaa
