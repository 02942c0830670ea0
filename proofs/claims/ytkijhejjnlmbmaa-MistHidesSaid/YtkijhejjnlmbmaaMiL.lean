/-
  Who is among troops; a player sees its own. (Printed by bin/mistlaw.py.)
-/
import Derived.Test.YtkijhejjnlmbmaaMiP
set_option linter.unusedVariables false
set_option linter.unusedSimpArgs false
namespace Go.Proofs.Ytkijhejjnlmbmaa
open Go.RowKit

theorem MiL_ag_api_Troop : Ag Try.prog 51 true := fun _ => by kernel_rfl
theorem MiL_sz_api_Troop : Sz Try.prog 51 7 := fun _ => by kernel_rfl
theorem MiL_eqs_api_Troop : EqS Try.prog Trp.cells 51 := by
  intro a b w
  obtain ⟨a0, a1, a2, ⟨a3, a4⟩, a5, a6⟩ := a
  obtain ⟨b0, b1, b2, ⟨b3, b4⟩, b5, b6⟩ := b
  simp only [Trp.cells, Trp.mk.injEq, Cel.mk.injEq]
  constructor
  · go_simp
    repeat' split
    all_goals simp_all
  · go_simp
    repeat' split
    all_goals simp_all
theorem MiL_eqg_api_Troop : (Try.prog).eqGuardType (Try.prog).depth 51 = false := by kernel_rfl
theorem MiL_en_slices_Index_S_api_Troop_api_Troop_ : Enters Try.prog 71 := en Try.func71 (by kernel_rfl) (by kernel_rfl)
theorem MiL_en_mustkeep_small : Enters Try.prog 67 := en Try.func67 (by kernel_rfl) (by kernel_rfl)
theorem MiL_en_mist_Cells : Enters Try.prog 30 := en Try.func30 (by kernel_rfl) (by kernel_rfl)
theorem MiL_en_mist_View : Enters Try.prog 25 := en Try.func25 (by kernel_rfl) (by kernel_rfl)
theorem MiL_zv_api_World : Zv Try.prog 46 (.agg #[.int .i64 0, .int .i64 0, .slice none 0 0, .slice none 0 0, .slice none 0 0, .slice none 0 0, .slice none 0 0, .int .i64 0, .int .i64 0]) := fun _ => by kernel_rfl
theorem MiL_sz_api_World : Sz Try.prog 46 9 := fun _ => by kernel_rfl
theorem MiL_fd_api_World_4 : Fd Try.prog 46 4 6 := fun _ _ _ => by kernel_rfl
theorem MiL_ag_S_api_Troop : Ag Try.prog 44 false := fun _ => by kernel_rfl
theorem MiL_fd_api_World_5 : Fd Try.prog 46 5 7 := fun _ _ _ => by kernel_rfl
theorem MiL_ag_int : Ag Try.prog 3 false := fun _ => by kernel_rfl
set_option maxRecDepth 100000 in
set_option maxHeartbeats 400000 in
theorem index_T (x : Trp) (A : Option Addr) (c : Nat) (l : List Trp) (w : World) (hl : Trp.rep.SHas 56 w A c l) :
    Calls Try.prog 71 #[.slice A l.length c, .agg #[.int .i64 x.id, .int .i64 x.owner, .int .i64 x.kind, .int .i64 x.spot.x, .int .i64 x.spot.y, .int .i64 x.life, .int .i64 x.load]] w (fun e w' => e = .returned (.int .i64 (idxI (fun y => decide (x = y)) l)) ∧ Ext w w') := by
  have hll := hl.len_le
  refine calls_W (n := 19) Try.func71 rfl rfl rfl ?_
  refine sq <| rg <| bx rfl rfl rfl rfl fun w_1 b_2 x_3 l_4 B_5 => ?_
  have q_6 := x_3.size
  have z_1 := Ext.tr (Ext.rf w) x_3
  have q_7 := B_5.lt
  refine vl (as_ rfl) rfl <| nl <| nT <| sq <| sq <| rg <| vl (mv rfl) rfl <| vl (ln Try.underlying44 rfl) rfl <| vl (mv rfl) rfl <| nl <| nT <| bk <| ?_
  refine lp (fun mI EI wI => ∃ k : Nat, EI = [(0, .slice A l.length c), (3, .pointer (some ⟨b_2, 0, none⟩)), (7, .int .i64 (l.length : Int)), (8, .int .i64 (k : Int))] ∧ mI = l.length - k ∧ Ext w wI ∧ Blk wI b_2 [.int .i64 x.id, .int .i64 x.owner, .int .i64 x.kind, .int .i64 x.spot.x, .int .i64 x.spot.y, .int .i64 x.life, .int .i64 x.load] 51 (0, 0) ∧ (k ≤ l.length) ∧ (∀ i, i < k → ((fun y => decide (x = y))) (l.getD i default) = false)) _ _ ⟨0, rfl, rfl, z_1, B_5, by omega, fun i hi => by omega⟩ (.cons rfl (.cons rfl (.cons rfl (.cons (loI rfl (by first | omega | rfl | (simp <;> omega))) .nil)))) ?_
  rintro m_9 E_10 w_8 ⟨k, rfl, rfl, z_8, B_5, hk, hg⟩
  have q_11 := z_8.size
  have q_12 := B_5.lt
  refine sq <| rg <| vl (blt rfl rfl) rfl <| nl <| nT <| sq <| ?_
  refine clt rfl (fun h_13 => ?_) (fun h_13 => ?_)
  · refine sk <| nT <| sq <| bk <| sq <| rg <| vl (mv rfl) rfl <| vl (as_ rfl) rfl <| nl <| nT <| sq <| ?_
    refine rd [(0, 0), (4, 0)] [0, 1, 2, 3, 4, 5] (by kernel_rfl) (by kernel_rfl) ?_
    refine fq rfl rfl (fun _ x => ld rfl ((B_5.later x).all MiL_ag_api_Troop MiL_sz_api_Troop)) rfl <| fw rfl rfl (fun _ => mv rfl) rfl <| fw rfl rfl (fun _ => mv rfl) rfl <| fw rfl rfl (fun _ => iA k Try.underlying44 MiL_sz_api_Troop rfl rfl ((hl.keep z_8).adr (Nat.zero_lt_of_lt (show k < _ from (by omega)))) rfl (by omega)) rfl <| fq rfl rfl (fun _ x => ld rfl (Rep.SHas.elt hcT ((hl.keep (Ext.tr z_8 x)).adh (Nat.zero_lt_of_lt (show k < _ from (by omega)))) (get_d (l := l) (u := default) (by omega)) MiL_ag_api_Troop MiL_sz_api_Troop)) rfl <| fw rfl rfl (fun _ => bqS MiL_eqs_api_Troop MiL_eqg_api_Troop (p := x) (q := l.getD k default) rfl rfl) rfl <| fn fun w_14 x_15 => ?_
    have q_16 := x_15.size
    have z_14 := Ext.tr z_8 x_15
    refine nT <| ?_
    refine cb rfl (fun h_17 => ?_) (fun h_17 => ?_)
    · refine sq <| rg <| vl (mv rfl) rfl <| vl (as_ rfl) rfl <| nl <| nT <| rt <| tB <| tT <| tK <| tB <| tT <| tR (.tmp rfl .nil) <| ?_
      exact ⟨by have e := idx_some_dd (p := (fun y => decide (x = y))) (l := l) (d := default) (k := k) (by omega) h_17 hg; rw [e]; rfl, z_14⟩
    · refine sk <| nB <| nT <| rg <| vl (bad rfl rfl (inI (by omega))) rfl <| vl (mv rfl) rfl <| nl <| ?_
      have B_5 := B_5.later x_15
      exact nI _ _ ⟨k + 1, rfl, rfl, z_14, B_5, by omega, lt_succ_all hg h_17⟩ (by omega) (.cons rfl (.cons rfl (.cons rfl (.cons (loI rfl (by first | omega | rfl | (simp <;> omega))) .nil))))
  · refine xt <| xT <| xK <| xB <| nT <| sq <| rg <| vl (as_ rfl) rfl <| nl <| nT <| rt <| tR (.tmp rfl .nil) <| ?_
    exact ⟨by have e := idx_none_dd (p := (fun y => decide (x = y))) (l := l) (d := default) (fun i hi => hg i (by omega)); rw [e]; rfl, z_8⟩
set_option maxRecDepth 100000 in
set_option maxHeartbeats 400000 in
theorem contains_T (x : Trp) (A : Option Addr) (c : Nat) (l : List Trp) (w : World) (hl : Trp.rep.SHas 56 w A c l) :
    Calls Try.prog 28 #[.slice A l.length c, .agg #[.int .i64 x.id, .int .i64 x.owner, .int .i64 x.kind, .int .i64 x.spot.x, .int .i64 x.spot.y, .int .i64 x.life, .int .i64 x.load]] w (fun e w' => e = .returned (.bool (l.any (fun y => decide (x = y)))) ∧ Ext w w') := by
  refine calls_W (n := 9) Try.func28 rfl rfl rfl ?_
  refine sq <| rg <| bx rfl rfl rfl rfl fun w_1 b_2 x_3 l_4 B_5 => ?_
  have q_6 := x_3.size
  have z_1 := Ext.tr (Ext.rf w) x_3
  have q_7 := B_5.lt
  refine vl (as_ rfl) rfl <| nl <| nT <| sq <| rg <| vl (mv rfl) rfl <| vl (ld rfl (B_5.all MiL_ag_api_Troop MiL_sz_api_Troop)) rfl <| ca MiL_en_slices_Index_S_api_Troop_api_Troop_ rfl rfl ((index_T x _ _ l _ (hl.keep z_1)).mono ?_)
  rintro e w_8 ⟨rfl, x_9⟩
  refine ⟨_, rfl, ?_⟩
  have q_10 := x_9.size
  have z_8 := Ext.tr z_1 x_9
  refine vl (bge rfl rfl) rfl <| vl (as_ rfl) rfl <| nl <| nT <| rt <| tR (.tmp rfl .nil) <| ?_
  exact ⟨by rw [idxI_any]; rfl, z_8⟩
set_option maxRecDepth 100000 in
set_option maxHeartbeats 400000 in
theorem mistLives_any  (w : World) :
    Calls Try.prog 26 #[] w (fun e w' => e = .returned (.bool true) ∧ Ext w w') := by
  refine calls_W (n := 37) Try.func26 rfl rfl rfl ?_
  refine sq <| rg <| vl (as_ rfl) rfl <| nl <| nT <| sq <| rg <| ca MiL_en_mustkeep_small rfl rfl ((small_any _).mono ?_)
  rintro e w_4 ⟨a_1, rfl, HO_1, x_5⟩
  refine ⟨_, rfl, ?_⟩
  have q_6 := x_5.size
  have z_4 := Ext.tr (Ext.rf w) x_5
  have u_2 := fun q hq => (HO_1.lt q hq).2
  have lo_3 := fun q hq => (HO_1.lt q hq).1
  refine ca MiL_en_mist_Cells rfl rfl ((cells_any a_1 smallW 0 _ HO_1.has).mono ?_)
  rintro e w_10 ⟨A_7, c_7, rfl, OK_7, x_11⟩
  refine ⟨_, rfl, ?_⟩
  have q_12 := x_11.size
  have z_10 := Ext.tr z_4 x_11
  have u_8 := fun q hq => (OK_7.lt q hq).2
  have lo_9 := fun q hq => (OK_7.lt q hq).1
  refine vl (mv rfl) rfl <| vl (ex rfl rfl) rfl <| vl (ex rfl rfl) rfl <| vl (as_ rfl) rfl <| vl (as_ rfl) rfl <| nl <| nT <| sq <| rg <| ca MiL_en_mustkeep_small rfl rfl ((small_any _).mono ?_)
  rintro e w_16 ⟨a_13, rfl, HO_13, x_17⟩
  refine ⟨_, rfl, ?_⟩
  have q_18 := x_17.size
  have z_16 := Ext.tr z_10 x_17
  have u_14 := fun q hq => (HO_13.lt q hq).2
  have lo_15 := fun q hq => (HO_13.lt q hq).1
  refine ca MiL_en_mist_View rfl rfl ((view_any a_13 smallW 0 _ HO_13.has).mono ?_)
  rintro e w_22 ⟨a_19, rfl, HV_19, x_23⟩
  refine ⟨_, rfl, ?_⟩
  have q_24 := x_23.size
  have z_22 := Ext.tr z_16 x_23
  have u_20 := fun q hq => (HV_19.lt q hq).2
  have lo_21 := fun q hq => (HV_19.lt q hq).1
  refine vl (mv rfl) rfl <| vl (ex rfl rfl) rfl <| vl (ex rfl rfl) rfl <| al rfl MiL_zv_api_World rfl rfl fun w_25 b_26 x_27 l_28 B_29 => ?_
  have q_30 := x_27.size
  have z_25 := Ext.tr z_22 x_27
  have q_31 := B_29.lt
  refine st rfl rfl B_29 rfl MiL_sz_api_World rfl rfl rfl fun w_32 m_33 B_29 => ?_
  have q_35 := m_33.size
  have z_32 := Ext.mod z_25 m_33 (by simp only [List.mem_singleton, forall_eq]; omega)
  have q_34 := m_33.size
  refine vl (as_ rfl) rfl <| nl <| nT <| sq <| rg <| vl (mv rfl) rfl <| vl (beq rfl rfl) rfl <| vl (mv rfl) rfl <| vQ rfl rfl rfl rfl (fun hc => mv rfl) rfl <| vQ rfl rfl rfl rfl (fun hc => beq (gt hc rfl) rfl) rfl <| vl (pA rfl rfl rfl rfl) rfl <| vl (mv rfl) rfl <| vQ rfl rfl rfl rfl (fun hc => mv rfl) rfl <| vQ rfl rfl rfl rfl (fun hc => ln Try.underlying43 (gt hc rfl)) rfl <| vQ rfl rfl rfl rfl (fun hc => beq (gt hc rfl) rfl) rfl <| vl (pA rfl rfl rfl rfl) rfl <| vl (mv rfl) rfl <| vQ rfl rfl rfl rfl (fun hc => fa MiL_fd_api_World_4 rfl) rfl <| vQ rfl rfl rfl rfl (fun hc => ld (gt hc rfl) (B_29.one MiL_ag_S_api_Troop rfl)) rfl <| vQ rfl rfl rfl rfl (fun hc => ln Try.underlying44 (gt hc rfl)) rfl <| vQ rfl rfl rfl rfl (fun hc => beq (gt hc rfl) rfl) rfl <| vl (pA rfl rfl rfl rfl) rfl <| vl (mv rfl) rfl <| vQ rfl rfl rfl rfl (fun hc => fa MiL_fd_api_World_5 rfl) rfl <| ?_
  refine vQ rfl rfl rfl rfl (fun hc => ld (gt hc rfl) (B_29.one MiL_ag_int rfl)) rfl <| vQ rfl rfl rfl rfl (fun hc => beq (gt hc rfl) rfl) rfl <| vl (pA rfl rfl rfl rfl) rfl <| vl (as_ rfl) rfl <| nl <| nT <| rt <| tR (.tmp rfl .nil) <| ?_
  exact ⟨ret_true (by decide +kernel), z_32⟩
end Go.Proofs.Ytkijhejjnlmbmaa
