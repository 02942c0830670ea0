/-
  GoodsRight. (Printed by bin/goodslaw2.py.)
-/
import Derived.Test.YticfnngppcmidaaLawP
set_option linter.unusedVariables false
namespace Go.Proofs.Yticfnngppcmidaa
open Go.RowKit

theorem LawC_ag_api_World : Ag Try.prog 28 true := fun _ => by kernel_rfl
theorem LawC_sz_api_World : Sz Try.prog 28 9 := fun _ => by kernel_rfl
theorem LawC_en_goods_Do : Enters Try.prog 15 := en Try.func15 (by kernel_rfl) (by kernel_rfl)
theorem LawC_zv_api_World : Zv Try.prog 28 (.agg #[.int .i64 0, .int .i64 0, .slice none 0 0, .slice none 0 0, .slice none 0 0, .slice none 0 0, .slice none 0 0, .int .i64 0, .int .i64 0]) := fun _ => by kernel_rfl
theorem LawC_en_mustkeep_goodsLives : Enters Try.prog 16 := en Try.func16 (by kernel_rfl) (by kernel_rfl)
theorem LawC_en_troop_Check : Enters Try.prog 17 := en Try.func17 (by kernel_rfl) (by kernel_rfl)
theorem LawC_fd_api_World_4 : Fd Try.prog 28 4 6 := fun _ _ _ => by kernel_rfl
theorem LawC_ag_S_api_Troop : Ag Try.prog 26 false := fun _ => by kernel_rfl
theorem LawC_fd_api_World_5 : Fd Try.prog 28 5 7 := fun _ _ _ => by kernel_rfl
theorem LawC_ag_int : Ag Try.prog 3 false := fun _ => by kernel_rfl
theorem LawC_sz_api_Troop : Sz Try.prog 39 7 := fun _ => by kernel_rfl
theorem LawC_ag_api_Troop : Ag Try.prog 39 true := fun _ => by kernel_rfl
theorem LawC_zv_api_Troop : Zv Try.prog 39 (.agg #[.int .i64 0, .int .i64 0, .int .i64 0, .int .i64 0, .int .i64 0, .int .i64 0, .int .i64 0]) := fun _ => by kernel_rfl
theorem LawC_fd_api_Troop_0 : Fd Try.prog 39 0 0 := fun _ _ _ => by kernel_rfl
theorem LawC_fd_api_Troop_5 : Fd Try.prog 39 5 6 := fun _ _ _ => by kernel_rfl
theorem LawC_sz_int : Sz Try.prog 3 1 := fun _ => by kernel_rfl
theorem LawC_eqs_api_Troop : EqS Try.prog Trp.cells 39 := by
  intro a b w
  obtain ⟨a0, a1, a2, ⟨a3, a4⟩, a5, a6⟩ := a
  obtain ⟨b0, b1, b2, ⟨b3, b4⟩, b5, b6⟩ := b
  simp only [Trp.cells, Trp.mk.injEq, Cel.mk.injEq]
  constructor
  · go_simp
    repeat' split
    all_goals simp_all
  · go_simp
    repeat' split
    all_goals simp_all
theorem LawC_eqg_api_Troop : (Try.prog).eqGuardType (Try.prog).depth 39 = false := by kernel_rfl
theorem LawC_fd_api_World_0 : Fd Try.prog 28 0 0 := fun _ _ _ => by kernel_rfl
theorem LawC_ag_api_Field : Ag Try.prog 24 true := fun _ => by kernel_rfl
theorem LawC_sz_api_Field : Sz Try.prog 24 3 := fun _ => by kernel_rfl
theorem LawC_en_mustref_SameField : Enters Try.prog 18 := en Try.func18 (by kernel_rfl) (by kernel_rfl)
theorem LawC_fd_api_World_1 : Fd Try.prog 28 1 3 := fun _ _ _ => by kernel_rfl
theorem LawC_ag_S_api_Cell : Ag Try.prog 25 false := fun _ => by kernel_rfl
theorem LawC_en_slices_Equal_S_api_Cell_api_Cell_ : Enters Try.prog 19 := en Try.func19 (by kernel_rfl) (by kernel_rfl)
theorem LawC_fd_api_World_6 : Fd Try.prog 28 6 8 := fun _ _ _ => by kernel_rfl
set_option maxRecDepth 100000 in
set_option maxHeartbeats 400000 in
theorem goodsRight_walk (a : Wd.At) (W : Wd) (A : Option Addr) (c : Nat) (l : List Ded) (w : World) (hW : Wd.Has w a W) (hl : Ded.rep.SHas 40 w A c l) :
    Calls Try.prog 3 #[.agg ((Wd.cells a W).toArray), .slice A l.length c] w (fun e w' => e = .returned (.bool true) ∧ Ext w w') := by
  refine calls_W (n := 110) Try.func3 rfl rfl rfl ?_
  refine sq <| rg <| bx rfl rfl rfl rfl fun w_1 b_2 x_3 l_4 B_5 => ?_
  have q_6 := x_3.size
  have z_1 := Ext.tr (Ext.rf w) x_3
  have q_7 := B_5.lt
  refine vl (as_ rfl) rfl <| nl <| nT <| sq <| rg <| vl (ld rfl (B_5.all LawC_ag_api_World LawC_sz_api_World)) rfl <| vl (mv rfl) rfl <| ca LawC_en_goods_Do rfl rfl ((do_any l _ _ _ a W (hW.keep z_1) (hl.keep z_1)).mono ?_)
  rintro e w_13 ⟨a_8, A_8, c_8, rfl, HO_8, OD_8, hd_8, x_14⟩
  refine ⟨_, rfl, ?_⟩
  have q_15 := x_14.size
  have z_13 := Ext.tr z_1 x_14
  have u_9 := fun q hq => (HO_8.lt q hq).2
  have lo_10 := fun q hq => (HO_8.lt q hq).1
  have u_11 := fun q hq => (OD_8.lt q hq).2
  have lo_12 := fun q hq => (OD_8.lt q hq).1
  have dd_8 : ∀ q ∈ Rep.blkOf A_8, q ∈ WOwn.foot a_8 → False := hd_8
  have dw_8 : ∀ q ∈ WOwn.foot a_8, q ∈ Rep.blkOf A_8 → False := fun q h1 h2 => hd_8 q h2 h1
  refine vl (mv rfl) rfl <| vl (ex rfl rfl) rfl <| vl (ex rfl rfl) rfl <| vl (ex rfl rfl) rfl <| al rfl LawC_zv_api_World rfl rfl fun w_16 b_17 x_18 l_19 B_20 => ?_
  have q_21 := x_18.size
  have z_16 := Ext.tr z_13 x_18
  have q_22 := B_20.lt
  refine st rfl rfl B_20 rfl LawC_sz_api_World rfl rfl rfl fun w_23 m_24 B_20 => ?_
  have q_26 := m_24.size
  have z_23 := Ext.mod z_16 m_24 (by simp only [List.mem_singleton, forall_eq]; omega)
  have q_25 := m_24.size
  refine vl (as_ rfl) rfl <| vl (as_ rfl) rfl <| nl <| nT <| sq <| sq <| rg <| ca LawC_en_mustkeep_goodsLives rfl rfl ((goodsLives_any _).mono ?_)
  rintro e w_27 ⟨rfl, x_28⟩
  refine ⟨_, rfl, ?_⟩
  have q_29 := x_28.size
  have z_27 := Ext.tr z_23 x_28
  refine vl (nt rfl) rfl <| vl (mv rfl) rfl <| vQ rfl rfl rfl rfl (fun hc => mv rfl) rfl <| vQ rfl rfl rfl rfl (fun hc => bne (gt hc rfl) rfl) rfl <| vl (pO rfl rfl rfl rfl) rfl <| nl <| nT <| ?_
  refine cb rfl (fun h_30 => ?_) (fun h_30 => ?_)
  · refine sq <| rg <| ca LawC_en_mustkeep_goodsLives rfl rfl ((goodsLives_any _).mono ?_)
    rintro e w_31 ⟨rfl, x_32⟩
    refine ⟨_, rfl, ?_⟩
    have q_33 := x_32.size
    have z_31 := Ext.tr z_27 x_32
    refine vl (as_ rfl) rfl <| nl <| nT <| rt <| tT <| tR (.tmp rfl .nil) <| ?_
    exact ⟨rfl, z_31⟩
  · have hE : W.doE l = 0 := by simpa using h_30
    obtain ⟨hG, hl2, e1, e2⟩ := do_of hE
    have hV : Good (W.doW l) := by rw [e1]; exact hG.deeds l
    have hK : Kept W (W.doW l) := by rw [e1]; exact kept_deeds hG l
    have hlb : (W.doB l).length = l.length := by rw [e2, deeds_len]
    have hkl := hK.len
    have hkn := hK.next
    have hn1 := hG.next
    have hn2 := hV.next
    have hn3 := hG.nt
    have hn4 := hV.nt
    refine sk <| nT <| sq <| sq <| rg <| ?_
    have B_20 := B_20.later x_28
    refine vl (ld rfl (B_20.all LawC_ag_api_World LawC_sz_api_World)) rfl <| ?_
    have HO_8 := HO_8.later x_18
    have HO_8 := HO_8.mod m_24 (fun q hq h => by have hb := List.mem_singleton.1 h; exfalso; (have := u_9 q hq; omega))
    have HO_8 := HO_8.later x_28
    refine ca LawC_en_troop_Check rfl rfl ((check_any a_8 (W.doW l) _ HO_8.has).mono ?_)
    rintro e w_34 ⟨rfl, x_35⟩
    refine ⟨_, rfl, ?_⟩
    have q_36 := x_35.size
    have z_34 := Ext.tr z_27 x_35
    refine vl (bne rfl rfl) rfl <| vl (mv rfl) rfl <| vQ rfl rfl rfl rfl (fun hc => mv rfl) rfl <| vQ rfl rfl rfl rfl (fun hc => ln Try.underlying30 (gt hc rfl)) rfl <| vQ rfl rfl rfl rfl (fun hc => mv rfl) rfl <| vQ rfl rfl rfl rfl (fun hc => ln Try.underlying29 (gt hc rfl)) rfl <| vQ rfl rfl rfl rfl (fun hc => bne (gt hc rfl) (gt hc rfl)) rfl <| vl (pO rfl rfl rfl rfl) rfl <| vl (mv rfl) rfl <| vQ rfl rfl rfl rfl (fun hc => fa LawC_fd_api_World_4 rfl) rfl <| ?_
    have B_20 := B_20.later x_35
    refine vQ rfl rfl rfl rfl (fun hc => ld (gt hc rfl) (B_20.one LawC_ag_S_api_Troop rfl)) rfl <| vQ rfl rfl rfl rfl (fun hc => ln Try.underlying26 (gt hc rfl)) rfl <| vQ rfl rfl rfl rfl (fun hc => fa LawC_fd_api_World_4 rfl) rfl <| ?_
    have B_5 := B_5.later (Ext.tr x_14 x_18)
    have B_5 := B_5.mod m_24 (by simp only [List.mem_singleton]; omega)
    have B_5 := B_5.later (Ext.tr x_28 x_35)
    refine vQ rfl rfl rfl rfl (fun hc => ld (gt hc rfl) (B_5.one LawC_ag_S_api_Troop rfl)) rfl <| vQ rfl rfl rfl rfl (fun hc => ln Try.underlying26 (gt hc rfl)) rfl <| vQ rfl rfl rfl rfl (fun hc => blt (gt hc rfl) (gt hc rfl)) rfl <| vl (pO rfl rfl rfl rfl) rfl <| vl (mv rfl) rfl <| vQ rfl rfl rfl rfl (fun hc => fa LawC_fd_api_World_5 rfl) rfl <| vQ rfl rfl rfl rfl (fun hc => ld (gt hc rfl) (B_20.one LawC_ag_int rfl)) rfl <| vQ rfl rfl rfl rfl (fun hc => fa LawC_fd_api_World_5 rfl) rfl <| vQ rfl rfl rfl rfl (fun hc => ld (gt hc rfl) (B_5.one LawC_ag_int rfl)) rfl <| vQ rfl rfl rfl rfl (fun hc => bsu (gt hc rfl) (gt hc rfl) (inI (by (try simp only [Bool.or_eq_true, Bool.or_eq_false_iff, Bool.and_eq_true, Bool.and_eq_false_iff, decide_eq_true_eq, decide_eq_false_iff_not, beq_iff_eq, bne_iff_ne, beq_eq_false_iff_ne, bne_eq_false_iff_eq, Bool.not_eq_true', Bool.not_eq_false', Bool.not_eq_true, Bool.not_eq_false, Int.not_lt, Int.not_le, Nat.not_lt, Nat.not_le, ne_eq, Classical.not_not] at hc); omega))) rfl <| vQ rfl rfl rfl rfl (fun hc => fa LawC_fd_api_World_4 rfl) rfl <| vQ rfl rfl rfl rfl (fun hc => ld (gt hc rfl) (B_20.one LawC_ag_S_api_Troop rfl)) rfl <| vQ rfl rfl rfl rfl (fun hc => ln Try.underlying26 (gt hc rfl)) rfl <| vQ rfl rfl rfl rfl (fun hc => fa LawC_fd_api_World_4 rfl) rfl <| vQ rfl rfl rfl rfl (fun hc => ld (gt hc rfl) (B_5.one LawC_ag_S_api_Troop rfl)) rfl <| vQ rfl rfl rfl rfl (fun hc => ln Try.underlying26 (gt hc rfl)) rfl <| vQ rfl rfl rfl rfl (fun hc => bsu (gt hc rfl) (gt hc rfl) (inI (by (try simp only [Bool.or_eq_true, Bool.or_eq_false_iff, Bool.and_eq_true, Bool.and_eq_false_iff, decide_eq_true_eq, decide_eq_false_iff_not, beq_iff_eq, bne_iff_ne, beq_eq_false_iff_ne, bne_eq_false_iff_eq, Bool.not_eq_true', Bool.not_eq_false', Bool.not_eq_true, Bool.not_eq_false, Int.not_lt, Int.not_le, Nat.not_lt, Nat.not_le, ne_eq, Classical.not_not] at hc); omega))) rfl <| vQ rfl rfl rfl rfl (fun hc => bne (gt hc rfl) (gt hc rfl)) rfl <| vl (pO rfl rfl rfl rfl) rfl <| nl <| nT <| ?_
    have h_37 : ((((((W.doW l).chk) != 0) || (((((W.doB l).length : Nat) : Int)) != (l.length : Int))) || (decide ((((W.doW l).troops.length : Nat) : Int) < (W.troops.length : Int)))) || ((((W.doW l).next) - W.next) != (((((W.doW l).troops.length : Nat) : Int)) - (W.troops.length : Int)))) = false := by simp only [Bool.or_eq_true, Bool.or_eq_false_iff, Bool.and_eq_true, Bool.and_eq_false_iff, decide_eq_true_eq, decide_eq_false_iff_not, beq_iff_eq, bne_iff_ne, beq_eq_false_iff_ne, bne_eq_false_iff_eq, Bool.not_eq_true', Bool.not_eq_false', Bool.not_eq_true, Bool.not_eq_false, Int.not_lt, Int.not_le, Nat.not_lt, Nat.not_le, ne_eq, Classical.not_not]; exact ⟨⟨⟨hV.chk0, by omega⟩, by omega⟩, by omega⟩
    refine cF (by rw [← h_37]; rfl) <| sk <| nT <| sq <| sq <| rg <| vl (fa LawC_fd_api_World_4 rfl) rfl <| vl (ld rfl (B_20.one LawC_ag_S_api_Troop rfl)) rfl <| vl (ln Try.underlying26 rfl) rfl <| vl (mv rfl) rfl <| nl <| nT <| bk <| ?_
    have HO_8 := HO_8.later x_35
    refine lp (fun mI EI wI => ∃ k : Nat, EI = [(2, .pointer (some ⟨b_2, 0, none⟩)), (5, .pointer (some ⟨b_17, 0, none⟩)), (59, .slice a_8.T ((W.doW l).troops.length) a_8.t), (60, .int .i64 ((((W.doW l).troops.length : Nat) : Int))), (61, .int .i64 (k : Int))] ∧ mI = (W.doW l).troops.length - k ∧ Ext w wI ∧ Blk wI b_2 (Wd.cells a W) 28 (0, 0) ∧ WOwn wI w_1.heap.size a_8 (W.doW l) ∧ Blk wI b_17 ((Wd.cells a_8 (W.doW l))) 28 (0, 0) ∧ (k ≤ (W.doW l).troops.length)) _ _ ⟨0, rfl, rfl, z_34, B_5, HO_8, B_20, by omega⟩ (.cons rfl (.cons rfl (.cons rfl (.cons rfl (.cons (loI rfl (by first | omega | rfl | (simp <;> omega))) .nil))))) ?_
    rintro m_39 E_40 w_38 ⟨k, rfl, rfl, z_38, B_5, HO_8, B_20, hk⟩
    have q_41 := z_38.size
    have q_42 := B_5.lt
    have u_43 := fun q hq => (HO_8.lt q hq).2
    have q_44 := B_20.lt
    refine sq <| rg <| vl (blt rfl rfl) rfl <| nl <| nT <| sq <| ?_
    refine clt rfl (fun h_45 => ?_) (fun h_45 => ?_)
    · refine sk <| nT <| sq <| bk <| sq <| rg <| vl (mv rfl) rfl <| vl (iA k Try.underlying26 LawC_sz_api_Troop rfl rfl (HO_8.T.has.adr (Nat.zero_lt_of_lt (show k < _ from (by omega)))) rfl (by omega)) rfl <| vl (ld rfl (Rep.SHas.elt hcT (HO_8.T.has.adh (Nat.zero_lt_of_lt (show k < _ from (by omega)))) (get_d (l := (W.doW l).troops) (u := default) (by omega)) LawC_ag_api_Troop LawC_sz_api_Troop)) rfl <| al rfl LawC_zv_api_Troop rfl rfl fun w_46 b_47 x_48 l_49 B_50 => ?_
      have q_51 := x_48.size
      have z_46 := Ext.tr z_38 x_48
      have q_52 := B_50.lt
      refine vl (as_ rfl) rfl <| st (new := [.int .i64 ((((W.doW l).troops).getD k default).id), .int .i64 ((((W.doW l).troops).getD k default).owner), .int .i64 ((((W.doW l).troops).getD k default).kind), .int .i64 ((((W.doW l).troops).getD k default).spot.x), .int .i64 ((((W.doW l).troops).getD k default).spot.y), .int .i64 ((((W.doW l).troops).getD k default).life), .int .i64 ((((W.doW l).troops).getD k default).load)]) rfl rfl B_50 rfl LawC_sz_api_Troop rfl rfl rfl fun w_53 m_54 B_50 => ?_
      have q_56 := m_54.size
      have z_53 := Ext.mod z_46 m_54 (by simp only [List.mem_singleton, forall_eq]; omega)
      have q_55 := m_54.size
      refine nl <| nT <| sq <| sq <| rg <| vl (mv rfl) rfl <| vl (fa LawC_fd_api_World_4 rfl) rfl <| ?_
      have B_5 := B_5.later x_48
      have B_5 := B_5.mod m_54 (by simp only [List.mem_singleton]; omega)
      refine vl (ld rfl (B_5.one LawC_ag_S_api_Troop rfl)) rfl <| vl (ln Try.underlying26 rfl) rfl <| vl (bge rfl rfl) rfl <| nl <| nT <| ?_
      refine cle rfl (fun h_57 => ?_) (fun h_57 => ?_)
      · refine sq <| sq <| rg <| vl (fa LawC_fd_api_Troop_0 rfl) rfl <| vl (ld rfl (B_50.one LawC_ag_int rfl)) rfl <| vl (fa LawC_fd_api_World_5 rfl) rfl <| vl (ld rfl (B_5.one LawC_ag_int rfl)) rfl <| vl (blt rfl rfl) rfl <| nl <| nT <| ?_
        refine clt rfl (fun h_58 => ?_) (fun h_58 => ?_)
        · have := hK.new k _ (by omega) (get_d (u := default) (show k < (W.doW l).troops.length by omega))
          exfalso; omega
        · refine sk <| nT <| xt <| xT <| xB <| nT <| rg <| vl (bad rfl rfl (inI (by omega))) rfl <| vl (mv rfl) rfl <| nl <| ?_
          have HO_8 := HO_8.later x_48
          have HO_8 := HO_8.mod m_54 (fun q hq h => by have hb := List.mem_singleton.1 h; exfalso; (have := u_43 q hq; omega))
          have B_20 := B_20.later x_48
          have B_20 := B_20.mod m_54 (by simp only [List.mem_singleton]; omega)
          exact nI _ _ ⟨k + 1, rfl, rfl, z_53, B_5, HO_8, B_20, by omega⟩ (by omega) (.cons rfl (.cons rfl (.cons rfl (.cons rfl (.cons (loI rfl (by first | omega | rfl | (simp <;> omega))) .nil)))))
      · refine sk <| nT <| sq <| rg <| vl (fa LawC_fd_api_World_4 rfl) rfl <| vl (ld rfl (B_5.one LawC_ag_S_api_Troop rfl)) rfl <| vl (mv rfl) rfl <| vl (iA k Try.underlying26 LawC_sz_api_Troop rfl rfl ((hW.T.keep z_53).adr (Nat.zero_lt_of_lt (show k < _ from (by omega)))) rfl (by omega)) rfl <| vl (fa LawC_fd_api_Troop_5 rfl) rfl <| vl (ld rfl (Rep.SHas.fld hcT ((hW.T.keep z_53).adh (Nat.zero_lt_of_lt (show k < _ from (by omega)))) 6 (get_d (l := W.troops) (u := default) (by omega)) rfl LawC_ag_int)) rfl <| vl (fa LawC_fd_api_Troop_5 rfl) rfl <| st (new := [.int .i64 ((((W.doW l).troops).getD k default).id), .int .i64 ((((W.doW l).troops).getD k default).owner), .int .i64 ((((W.doW l).troops).getD k default).kind), .int .i64 ((((W.doW l).troops).getD k default).spot.x), .int .i64 ((((W.doW l).troops).getD k default).spot.y), .int .i64 ((((W.doW l).troops).getD k default).life), .int .i64 ((W.troops.getD k default).load)]) rfl rfl B_50 rfl LawC_sz_int rfl rfl rfl fun w_59 m_60 B_50 => ?_
        have q_62 := m_60.size
        have z_59 := Ext.mod z_53 m_60 (by simp only [List.mem_singleton, forall_eq]; omega)
        have q_61 := m_60.size
        refine nl <| nT <| sq <| ?_
        refine rd [(0, 0), (2, 0), (5, 0)] [0, 1, 2, 3, 4, 5, 6] (by kernel_rfl) (by kernel_rfl) ?_
        refine fq rfl rfl (fun _ x => ld rfl ((B_50.later x).all LawC_ag_api_Troop LawC_sz_api_Troop)) rfl <| fw rfl rfl (fun _ => fa LawC_fd_api_World_4 rfl) rfl <| ?_
        have B_5 := B_5.mod m_60 (by simp only [List.mem_singleton]; omega)
        refine fq rfl rfl (fun _ x => ld rfl ((B_5.later x).one LawC_ag_S_api_Troop rfl)) rfl <| fw rfl rfl (fun _ => mv rfl) rfl <| fw rfl rfl (fun _ => iA k Try.underlying26 LawC_sz_api_Troop rfl rfl ((hW.T.keep z_59).adr (Nat.zero_lt_of_lt (show k < _ from (by omega)))) rfl (by omega)) rfl <| fq rfl rfl (fun _ x => ld rfl (Rep.SHas.elt hcT ((hW.T.keep (Ext.tr z_59 x)).adh (Nat.zero_lt_of_lt (show k < _ from (by omega)))) (get_d (l := W.troops) (u := default) (by omega)) LawC_ag_api_Troop LawC_sz_api_Troop)) rfl <| fw rfl rfl (fun _ => bnS LawC_eqs_api_Troop LawC_eqg_api_Troop (p := (⟨(((W.doW l).troops).getD k default).id, (((W.doW l).troops).getD k default).owner, (((W.doW l).troops).getD k default).kind, ⟨(((W.doW l).troops).getD k default).spot.x, (((W.doW l).troops).getD k default).spot.y⟩, (((W.doW l).troops).getD k default).life, (W.troops.getD k default).load⟩ : Trp)) (q := W.troops.getD k default) rfl rfl) rfl <| fn fun w_63 x_64 => ?_
        have q_65 := x_64.size
        have z_63 := Ext.tr z_59 x_64
        refine nT <| ?_
        have h_66 : (!decide ((⟨(((W.doW l).troops).getD k default).id, (((W.doW l).troops).getD k default).owner, (((W.doW l).troops).getD k default).kind, ⟨(((W.doW l).troops).getD k default).spot.x, (((W.doW l).troops).getD k default).spot.y⟩, (((W.doW l).troops).getD k default).life, (W.troops.getD k default).load⟩ : Trp) = W.troops.getD k default)) = false := by rw [Bool.not_eq_false', decide_eq_true_eq]; exact hK.getD (by omega)
        refine cF (by rw [← h_66]; rfl) <| sk <| nB <| nT <| rg <| vl (bad rfl rfl (inI (by omega))) rfl <| vl (mv rfl) rfl <| nl <| ?_
        have B_5 := B_5.later x_64
        have HO_8 := HO_8.later x_48
        have HO_8 := HO_8.mod m_54 (fun q hq h => by have hb := List.mem_singleton.1 h; exfalso; (have := u_43 q hq; omega))
        have HO_8 := HO_8.mod m_60 (fun q hq h => by have hb := List.mem_singleton.1 h; exfalso; (have := u_43 q hq; omega))
        have HO_8 := HO_8.later x_64
        have B_20 := B_20.later x_48
        have B_20 := B_20.mod m_54 (by simp only [List.mem_singleton]; omega)
        have B_20 := B_20.mod m_60 (by simp only [List.mem_singleton]; omega)
        have B_20 := B_20.later x_64
        exact nI _ _ ⟨k + 1, rfl, rfl, z_63, B_5, HO_8, B_20, by omega⟩ (by omega) (.cons rfl (.cons rfl (.cons rfl (.cons rfl (.cons (loI rfl (by first | omega | rfl | (simp <;> omega))) .nil)))))
    · refine xt <| xT <| xK <| xB <| nT <| sq <| rg <| vl (fa LawC_fd_api_World_0 rfl) rfl <| vl (ld rfl (B_20.par [.int .i64 ((W.doW l).field.wide), .int .i64 ((W.doW l).field.high), .slice a_8.P ((W.doW l).field.places.length) a_8.p] LawC_ag_api_Field LawC_sz_api_Field rfl)) rfl <| vl (fa LawC_fd_api_World_0 rfl) rfl <| vl (ld rfl (B_5.par [.int .i64 W.field.wide, .int .i64 W.field.high, .slice a.P W.field.places.length a.p] LawC_ag_api_Field LawC_sz_api_Field rfl)) rfl <| ca LawC_en_mustref_SameField rfl rfl ((sameField_any ((W.doW l).field) W.field _ _ _ _ _ HO_8.P.has (hW.P.keep z_38)).mono ?_)
      rintro e w_67 ⟨rfl, x_68⟩
      refine ⟨_, rfl, ?_⟩
      have q_69 := x_68.size
      have z_67 := Ext.tr z_38 x_68
      refine vl (mv rfl) rfl <| vQ rfl rfl rfl rfl (fun hc => fa LawC_fd_api_World_1 rfl) rfl <| ?_
      have B_20 := B_20.later x_68
      refine vQ rfl rfl rfl rfl (fun hc => ld (gt hc rfl) (B_20.one LawC_ag_S_api_Cell rfl)) rfl <| vQ rfl rfl rfl rfl (fun hc => fa LawC_fd_api_World_1 rfl) rfl <| ?_
      have B_5 := B_5.later x_68
      refine vQ rfl rfl rfl rfl (fun hc => ld (gt hc rfl) (B_5.one LawC_ag_S_api_Cell rfl)) rfl <| ?_
      have HO_8 := HO_8.later x_68
      refine vC rfl rfl rfl rfl LawC_en_slices_Equal_S_api_Cell_api_Cell_ (fun hc => ec (gt hc rfl) (ec (gt hc rfl) rfl)) (fun hc => equal_C _ _ _ _ _ _ ((W.doW l).bases) W.bases _ HO_8.B.has (hW.B.keep z_67)) rfl fun w_70 x_71 => ?_
      have q_72 := x_71.size
      have z_70 := Ext.tr z_67 x_71
      refine vl (pA rfl rfl rfl rfl) rfl <| vl (mv rfl) rfl <| vQ rfl rfl rfl rfl (fun hc => fa LawC_fd_api_World_6 rfl) rfl <| ?_
      have B_20 := B_20.later x_71
      refine vQ rfl rfl rfl rfl (fun hc => ld (gt hc rfl) (B_20.one LawC_ag_int rfl)) rfl <| vQ rfl rfl rfl rfl (fun hc => fa LawC_fd_api_World_6 rfl) rfl <| ?_
      have B_5 := B_5.later x_71
      refine vQ rfl rfl rfl rfl (fun hc => ld (gt hc rfl) (B_5.one LawC_ag_int rfl)) rfl <| vQ rfl rfl rfl rfl (fun hc => beq (gt hc rfl) (gt hc rfl)) rfl <| vl (pA rfl rfl rfl rfl) rfl <| vl (as_ rfl) rfl <| nl <| nT <| rt <| tR (.tmp rfl .nil) <| ?_
      exact ⟨ret_true (by rw [hK.field, hK.bases, hK.now]; simp), z_70⟩
theorem goodsRight_any (c0 : Array Value) (a1 : Option Addr) (len1 cap1 : Nat) (w : World) (h0 : (.cons (.cons (.int .i64) (.cons (.int .i64) (.cons (.slice (.int .i64) 8) .nil))) (.cons (.slice (.cons (.int .i64) (.cons (.int .i64) .nil)) 16) (.cons (.slice (.int .i64) 8) (.cons (.slice (.int .i64) 8) (.cons (.slice (.cons (.int .i64) (.cons (.int .i64) (.cons (.int .i64) (.cons (.cons (.int .i64) (.cons (.int .i64) .nil)) (.cons (.int .i64) (.cons (.int .i64) .nil)))))) 56) (.cons (.int .i64) (.cons (.int .i64) .nil)))))) : Sh).Ok w c0.toList) (h1 : (.slice (.cons (.int .i64) (.cons (.int .i64) (.cons (.cons (.int .i64) (.cons (.int .i64) .nil)) (.cons (.int .i64) .nil)))) 40 : Sh).Ok w [.slice a1 len1 cap1]) :
    Calls Try.prog 3 #[.agg c0, .slice a1 len1 cap1] w fun e w' => e = .returned (.bool true) ∧ Below w.heap.size w w' := by
  obtain ⟨a, W, e, hW⟩ := Wd.opens w _ (show Wd.sh.Ok w c0.toList from h0)
  have hc : c0 = (Wd.cells a W).toArray := by rw [← e]
  subst hc
  obtain ⟨A, c, l, e2, hl⟩ := Rep.opens_slice (R := Ded.rep) (by_ := 40) Ded.opens rfl (by decide) h1
  simp only [List.cons.injEq, Value.slice.injEq, and_true] at e2
  obtain ⟨rfl, rfl, rfl⟩ := e2
  exact goodsRight_walk a W _ _ l w hW hl
end Go.Proofs.Yticfnngppcmidaa
