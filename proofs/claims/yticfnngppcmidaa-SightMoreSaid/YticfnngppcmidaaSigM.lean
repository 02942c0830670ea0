/-
  SightMore. (Printed by bin/sightlaw2.py.)
-/
import Derived.Test.YticfnngppcmidaaSigP
import Derived.Test.YticfnngppcmidaaClone
set_option linter.unusedVariables false
set_option linter.unusedSimpArgs false
namespace Go.Proofs.Yticfnngppcmidaa
open Go.RowKit

theorem SigM_ag_api_Field : Ag Try.prog 24 true := fun _ => by kernel_rfl
theorem SigM_sz_api_Field : Sz Try.prog 24 3 := fun _ => by kernel_rfl
theorem SigM_ag_api_Cell : Ag Try.prog 37 true := fun _ => by kernel_rfl
theorem SigM_sz_api_Cell : Sz Try.prog 37 2 := fun _ => by kernel_rfl
theorem SigM_en_sight_Seen : Enters Try.prog 48 := en Try.func48 (by kernel_rfl) (by kernel_rfl)
theorem SigM_en_mustkeep_sightLives : Enters Try.prog 47 := en Try.func47 (by kernel_rfl) (by kernel_rfl)
theorem SigM_zv_api_Cell : Zv Try.prog 37 (.agg #[.int .i64 0, .int .i64 0]) := fun _ => by kernel_rfl
theorem SigM_en_sight_Sees : Enters Try.prog 46 := en Try.func46 (by kernel_rfl) (by kernel_rfl)
theorem SigM_en_slices_Contains_S_api_Cell_api_Cell_ : Enters Try.prog 49 := en Try.func49 (by kernel_rfl) (by kernel_rfl)
theorem SigM_fd_api_Field_0 : Fd Try.prog 24 0 0 := fun _ _ _ => by kernel_rfl
theorem SigM_ag_int : Ag Try.prog 3 false := fun _ => by kernel_rfl
theorem SigM_fd_api_Field_1 : Fd Try.prog 24 1 1 := fun _ _ _ => by kernel_rfl
theorem SigM_fd_api_Field_2 : Fd Try.prog 24 2 2 := fun _ _ _ => by kernel_rfl
theorem SigM_ag_S_int : Ag Try.prog 22 false := fun _ => by kernel_rfl
theorem SigM_en_slices_Clone_S_int_int_ : Enters Try.prog 26 := en Try.func26 (by kernel_rfl) (by kernel_rfl)
theorem SigM_zv_api_Field : Zv Try.prog 24 (.agg #[.int .i64 0, .int .i64 0, .slice none 0 0]) := fun _ => by kernel_rfl
theorem SigM_en_field_At : Enters Try.prog 50 := en Try.func50 (by kernel_rfl) (by kernel_rfl)
theorem SigM_fd_api_Cell_1 : Fd Try.prog 37 1 1 := fun _ _ _ => by kernel_rfl
theorem SigM_fd_api_Cell_0 : Fd Try.prog 37 0 0 := fun _ _ _ => by kernel_rfl
theorem SigM_sz_int : Sz Try.prog 3 1 := fun _ => by kernel_rfl
theorem seen_len_le (f : Fld) (c : Cel) (r : Int) (hr : 0 ≤ r ∧ r ≤ 12) : (seenL f c r).length ≤ 625 := by
  unfold seenL
  split
  · exact Nat.zero_le _
  · have h1 := seenTo_len f c r (seenH f c r)
    have h2 : seenH f c r * seenW f c r ≤ 25 * 25 := Nat.mul_le_mul (by unfold seenH; omega) (by unfold seenW; omega)
    omega
theorem mem_d {α : Type} [Inhabited α] {l : List α} {k : Nat} (h : k < l.length) : l.getD k default ∈ l := by rw [List.getD_eq_getElem?_getD, List.getElem?_eq_getElem h]; exact List.getElem_mem h
theorem seen_set (f : Fld) (i : Nat) (c : Cel) (r : Int) (A : Option Addr) (cp : Nat) (w : World) (hP : repI.SHas 8 w A cp (f.places.set i 0)) : Calls Try.prog 48 #[.agg #[.int .i64 f.wide, .int .i64 f.high, .slice A f.places.length cp], .agg #[.int .i64 c.x, .int .i64 c.y], .int .i64 r] w
    (fun e w' => ∃ A c', e = .returned (.tuple #[.slice A (seenL (f.plainAt i) c r).length c', .int .i64 (seenE (f.plainAt i) c r)]) ∧ Cel.rep.SOwn 37 16 w' w.heap.size (Rep.blkOf A) A c' (seenL (f.plainAt i) c r) ∧ Ext w w') := by
  have := seen_any (f.plainAt i) c r A cp w hP
  have e : (f.plainAt i).places.length = f.places.length := by unfold Fld.plainAt; rw [List.length_set]
  rw [e] at this
  exact this
set_option maxRecDepth 100000 in
set_option maxHeartbeats 400000 in
theorem sightMore_walk (f : Fld) (c k : Cel) (r q : Int) (A : Option Addr) (cp : Nat) (w : World) (hP : repI.SHas 8 w A cp f.places) :
    Calls Try.prog 14 #[.agg #[.int .i64 f.wide, .int .i64 f.high, .slice A f.places.length cp], .agg #[.int .i64 c.x, .int .i64 c.y], .agg #[.int .i64 k.x, .int .i64 k.y], .int .i64 r, .int .i64 q] w (fun e w' => e = .returned (.bool true) ∧ Ext w w') := by
  refine calls_W (n := 134) Try.func14 rfl rfl rfl ?_
  refine sq <| rg <| bx rfl rfl rfl rfl fun w_1 b_2 x_3 l_4 B_5 => ?_
  have q_6 := x_3.size
  have z_1 := Ext.tr (Ext.rf w) x_3
  have q_7 := B_5.lt
  refine bx rfl rfl rfl rfl fun w_8 b_9 x_10 l_11 B_12 => ?_
  have q_13 := x_10.size
  have z_8 := Ext.tr z_1 x_10
  have q_14 := B_12.lt
  refine bx rfl rfl rfl rfl fun w_15 b_16 x_17 l_18 B_19 => ?_
  have q_20 := x_17.size
  have z_15 := Ext.tr z_8 x_17
  have q_21 := B_19.lt
  refine vl (as_ rfl) rfl <| nl <| nT <| sq <| rg <| ?_
  have B_5 := B_5.later (Ext.tr x_10 x_17)
  refine vl (ld rfl (B_5.all SigM_ag_api_Field SigM_sz_api_Field)) rfl <| ?_
  have B_12 := B_12.later x_17
  refine vl (ld rfl (B_12.all SigM_ag_api_Cell SigM_sz_api_Cell)) rfl <| vl (mv rfl) rfl <| ca SigM_en_sight_Seen rfl rfl ((seen_any f c r _ _ _ (hP.keep z_15)).mono ?_)
  rintro e w_25 ⟨A_22, c_22, rfl, OS_22, x_26⟩
  refine ⟨_, rfl, ?_⟩
  have q_27 := x_26.size
  have z_25 := Ext.tr z_15 x_26
  have u_23 := fun q hq => (OS_22.lt q hq).2
  have lo_24 := fun q hq => (OS_22.lt q hq).1
  refine vl (mv rfl) rfl <| vl (ex rfl rfl) rfl <| vl (ex rfl rfl) rfl <| vl (as_ rfl) rfl <| vl (as_ rfl) rfl <| nl <| nT <| sq <| rg <| ?_
  have B_5 := B_5.later x_26
  refine vl (ld rfl (B_5.all SigM_ag_api_Field SigM_sz_api_Field)) rfl <| ?_
  have B_12 := B_12.later x_26
  refine vl (ld rfl (B_12.all SigM_ag_api_Cell SigM_sz_api_Cell)) rfl <| vl (mv rfl) rfl <| ca SigM_en_sight_Seen rfl rfl ((seen_any f c q _ _ _ (hP.keep z_25)).mono ?_)
  rintro e w_31 ⟨A_28, c_28, rfl, OS_28, x_32⟩
  refine ⟨_, rfl, ?_⟩
  have q_33 := x_32.size
  have z_31 := Ext.tr z_25 x_32
  have u_29 := fun q hq => (OS_28.lt q hq).2
  have lo_30 := fun q hq => (OS_28.lt q hq).1
  refine vl (mv rfl) rfl <| vl (ex rfl rfl) rfl <| vl (ex rfl rfl) rfl <| vl (as_ rfl) rfl <| vl (as_ rfl) rfl <| nl <| nT <| sq <| sq <| rg <| ca SigM_en_mustkeep_sightLives rfl rfl ((sightLives_any _).mono ?_)
  rintro e w_34 ⟨rfl, x_35⟩
  refine ⟨_, rfl, ?_⟩
  have q_36 := x_35.size
  have z_34 := Ext.tr z_31 x_35
  refine vl (nt rfl) rfl <| vl (mv rfl) rfl <| ug rfl rfl rfl <| vl (mv rfl) rfl <| ug rfl rfl rfl <| vl (bne rfl rfl) rfl <| vl (pkF rfl rfl) rfl <| vl (mv rfl) rfl <| vQ rfl rfl rfl rfl (fun hc => mv rfl) rfl <| vQ rfl rfl rfl rfl (fun hc => bne (gt hc rfl) rfl) rfl <| vl (pO rfl rfl rfl rfl) rfl <| vl (mv rfl) rfl <| vQ rfl rfl rfl rfl (fun hc => mv rfl) rfl <| vQ rfl rfl rfl rfl (fun hc => mv rfl) rfl <| vQ rfl rfl rfl rfl (fun hc => bgt (gt hc rfl) (gt hc rfl)) rfl <| vl (pO rfl rfl rfl rfl) rfl <| nl <| nT <| ?_
  refine cb rfl (fun h_37 => ?_) (fun h_37 => ?_)
  · refine sq <| rg <| ca SigM_en_mustkeep_sightLives rfl rfl ((sightLives_any _).mono ?_)
    rintro e w_38 ⟨rfl, x_39⟩
    refine ⟨_, rfl, ?_⟩
    have q_40 := x_39.size
    have z_38 := Ext.tr z_34 x_39
    refine vl (as_ rfl) rfl <| nl <| nT <| rt <| tT <| tR (.tmp rfl .nil) <| ?_
    exact ⟨rfl, z_38⟩
  · simp only [Bool.or_eq_true, Bool.or_eq_false_iff, Bool.and_eq_true, Bool.and_eq_false_iff, decide_eq_true_eq, decide_eq_false_iff_not, beq_iff_eq, bne_iff_ne, beq_eq_false_iff_ne, bne_eq_false_iff_eq, Bool.not_eq_true', Bool.not_eq_false', Bool.not_eq_true, Bool.not_eq_false, Int.not_lt, Int.not_le, Nat.not_lt, Nat.not_le, ne_eq, Classical.not_not] at h_37
    have hE : seenE f c r = 0 := h_37.1.1
    have hE2 : seenE f c q = 0 := h_37.1.2
    have hrq : r ≤ q := h_37.2
    obtain ⟨h0, hr⟩ := seenE_ok hE
    obtain ⟨hc, hn⟩ := atE_chk h0
    obtain ⟨y1, y2, y3, y4, y5, y6⟩ := Fld.good hc
    have hsl := (hP.1)
    have hsn := seen_len_le f c r hr
    refine sk <| nT <| sq <| sq <| rg <| vl (mv rfl) rfl <| vl (ln Try.underlying25 rfl) rfl <| vl (mv rfl) rfl <| nl <| nT <| bk <| ?_
    have B_5 := B_5.later (Ext.tr x_32 x_35)
    have B_12 := B_12.later (Ext.tr x_32 x_35)
    have B_19 := B_19.later (Ext.tr x_26 (Ext.tr x_32 x_35))
    have OS_22 := OS_22.later (Ext.tr x_32 x_35)
    have OS_28 := OS_28.later x_35
    refine lp (fun mI EI wI => ∃ i : Nat, EI = [(3, .int .i64 r), (5, .pointer (some ⟨b_2, 0, none⟩)), (6, .pointer (some ⟨b_9, 0, none⟩)), (7, .pointer (some ⟨b_16, 0, none⟩)), (11, .slice A_22 ((seenL f c r).length) c_22), (13, .slice A_28 ((seenL f c q).length) c_28), (56, .slice A_22 ((seenL f c r).length) c_22), (57, .int .i64 ((((seenL f c r).length : Nat) : Int))), (58, .int .i64 (i : Int))] ∧ mI = (seenL f c r).length - i ∧ Ext w wI ∧ Blk wI b_2 [.int .i64 f.wide, .int .i64 f.high, .slice A f.places.length cp] 24 (0, 0) ∧ Blk wI b_9 [.int .i64 c.x, .int .i64 c.y] 37 (0, 0) ∧ Blk wI b_16 [.int .i64 k.x, .int .i64 k.y] 37 (0, 0) ∧ Cel.rep.SOwn 37 16 wI w_15.heap.size (Rep.blkOf A_22) A_22 c_22 (seenL f c r) ∧ Cel.rep.SOwn 37 16 wI w_25.heap.size (Rep.blkOf A_28) A_28 c_28 (seenL f c q) ∧ (i ≤ (seenL f c r).length)) _ _ ⟨0, rfl, rfl, z_34, B_5, B_12, B_19, OS_22, OS_28, by omega⟩ (.cons rfl (.cons rfl (.cons rfl (.cons rfl (.cons rfl (.cons rfl (.cons rfl (.cons rfl (.cons (loI rfl (by first | omega | rfl | (simp <;> omega))) .nil))))))))) ?_
    rintro m_42 E_43 w_41 ⟨i, rfl, rfl, z_41, B_5, B_12, B_19, OS_22, OS_28, hi⟩
    have q_44 := z_41.size
    have q_45 := B_5.lt
    have q_46 := B_12.lt
    have q_47 := B_19.lt
    have u_48 := fun q hq => (OS_22.lt q hq).2
    have u_49 := fun q hq => (OS_28.lt q hq).2
    refine sq <| rg <| vl (blt rfl rfl) rfl <| nl <| nT <| sq <| ?_
    refine clt rfl (fun h_50 => ?_) (fun h_50 => ?_)
    · refine sk <| nT <| sq <| bk <| sq <| rg <| vl (iA i Try.underlying25 SigM_sz_api_Cell rfl rfl (OS_22.has.adr (Nat.zero_lt_of_lt (show i < _ from (by omega)))) rfl (by omega)) rfl <| vl (ld rfl (Rep.SHas.elt hcC (OS_22.has.adh (Nat.zero_lt_of_lt (show i < _ from (by omega)))) (get_d (l := seenL f c r) (u := default) (by omega)) SigM_ag_api_Cell SigM_sz_api_Cell)) rfl <| al rfl SigM_zv_api_Cell rfl rfl fun w_51 b_52 x_53 l_54 B_55 => ?_
      have q_56 := x_53.size
      have z_51 := Ext.tr z_41 x_53
      have q_57 := B_55.lt
      refine st (new := [.int .i64 (((seenL f c r).getD i default).x), .int .i64 (((seenL f c r).getD i default).y)]) rfl rfl B_55 rfl SigM_sz_api_Cell rfl rfl rfl fun w_58 m_59 B_55 => ?_
      have q_61 := m_59.size
      have z_58 := Ext.mod z_51 m_59 (by simp only [List.mem_singleton, forall_eq]; omega)
      have q_60 := m_59.size
      refine nl <| nT <| sq <| rg <| ?_
      have B_5 := B_5.later x_53
      have B_5 := B_5.mod m_59 (by simp only [List.mem_singleton]; omega)
      refine vl (ld rfl (B_5.all SigM_ag_api_Field SigM_sz_api_Field)) rfl <| ?_
      have B_12 := B_12.later x_53
      have B_12 := B_12.mod m_59 (by simp only [List.mem_singleton]; omega)
      refine vl (ld rfl (B_12.all SigM_ag_api_Cell SigM_sz_api_Cell)) rfl <| vl (ld rfl (B_55.all SigM_ag_api_Cell SigM_sz_api_Cell)) rfl <| ca SigM_en_sight_Sees rfl rfl ((sees_any f c ((seenL f c r).getD i default) _ _ _ (hP.keep z_58)).mono ?_)
      rintro e w_62 ⟨rfl, x_63⟩
      refine ⟨_, rfl, ?_⟩
      have q_64 := x_63.size
      have z_62 := Ext.tr z_58 x_63
      refine vl (mv rfl) rfl <| vl (ex rfl rfl) rfl <| vl (ex rfl rfl) rfl <| vl (as_ rfl) rfl <| vl (as_ rfl) rfl <| nl <| nT <| sq <| rg <| vl (mv rfl) rfl <| vl (bne rfl rfl) rfl <| vl (mv rfl) rfl <| vQ rfl rfl rfl rfl (fun hc => mv rfl) rfl <| vQ rfl rfl rfl rfl (fun hc => nt (gt hc rfl)) rfl <| vl (pO rfl rfl rfl rfl) rfl <| vl (mv rfl) rfl <| vQ rfl rfl rfl rfl (fun hc => mv rfl) rfl <| ?_
      have B_55 := B_55.later x_63
      refine vQ rfl rfl rfl rfl (fun hc => ld rfl (B_55.all SigM_ag_api_Cell SigM_sz_api_Cell)) rfl <| ?_
      have OS_28 := OS_28.later x_53
      have OS_28 := OS_28.mod m_59 (fun q hq h => by have hb := List.mem_singleton.1 h; exfalso; (have := u_49 q hq; have := u_29 q hq; omega))
      have OS_28 := OS_28.later x_63
      refine vC rfl rfl rfl rfl SigM_en_slices_Contains_S_api_Cell_api_Cell_ (fun hc => ec (gt hc rfl) (ec (gt hc rfl) rfl)) (fun hc => contains_C ((seenL f c r).getD i default) _ _ (seenL f c q) _ OS_28.has) rfl fun w_65 x_66 => ?_
      have q_67 := x_66.size
      have z_65 := Ext.tr z_62 x_66
      refine vQ rfl rfl rfl rfl (fun hc => nt (gt hc rfl)) rfl <| vl (pO rfl rfl rfl rfl) rfl <| nl <| nT <| ?_
      have h_68 : ((((seesE f c ((seenL f c r).getD i default)) != 0) || (!(seesV f c ((seenL f c r).getD i default)))) || (!((seenL f c q).any (fun y => decide ((seenL f c r).getD i default = y))))) = false := by have hm := mem_d (l := seenL f c r) (k := i) (by omega); obtain ⟨s1, s2⟩ := seen_sees hE hm; rw [s1, s2, any_mem (seen_far hE hE2 hrq hm)]; rfl
      refine cF (by rw [← h_68]; rfl) <| sk <| nB <| nT <| rg <| vl (bad rfl rfl (inI (by omega))) rfl <| vl (mv rfl) rfl <| nl <| ?_
      have B_5 := B_5.later (Ext.tr x_63 x_66)
      have B_12 := B_12.later (Ext.tr x_63 x_66)
      have B_19 := B_19.later x_53
      have B_19 := B_19.mod m_59 (by simp only [List.mem_singleton]; omega)
      have B_19 := B_19.later (Ext.tr x_63 x_66)
      have OS_22 := OS_22.later x_53
      have OS_22 := OS_22.mod m_59 (fun q hq h => by have hb := List.mem_singleton.1 h; exfalso; (have := u_48 q hq; have := u_23 q hq; omega))
      have OS_22 := OS_22.later (Ext.tr x_63 x_66)
      have OS_28 := OS_28.later x_66
      exact nI _ _ ⟨i + 1, rfl, rfl, z_65, B_5, B_12, B_19, OS_22, OS_28, by omega⟩ (by omega) (.cons rfl (.cons rfl (.cons rfl (.cons rfl (.cons rfl (.cons rfl (.cons rfl (.cons rfl (.cons (loI rfl (by first | omega | rfl | (simp <;> omega))) .nil)))))))))
    · refine xt <| xT <| xK <| xB <| nT <| sq <| ?_
      refine rF [(1, 0), (3, 0), (5, 0), (6, 2), (8, 2), (9, 3)] [0, 1, 2, 3, 4, 5] 6 [7, 8, 9] 8 [6, 7, 9] (by kernel_rfl) (by kernel_rfl) ?_
      refine fw rfl rfl (fun _ => fa SigM_fd_api_Field_0 rfl) rfl <| fq rfl rfl (fun _ x => ld rfl ((B_5.later x).one SigM_ag_int rfl)) rfl <| fw rfl rfl (fun _ => fa SigM_fd_api_Field_1 rfl) rfl <| fq rfl rfl (fun _ x => ld rfl ((B_5.later x).one SigM_ag_int rfl)) rfl <| fw rfl rfl (fun _ => fa SigM_fd_api_Field_2 rfl) rfl <| fq rfl rfl (fun _ x => ld rfl ((B_5.later x).one SigM_ag_S_int rfl)) rfl <| fn fun w_69 x_70 => ?_
      have q_71 := x_70.size
      have z_69 := Ext.tr z_41 x_70
      refine fk ?_ ?_
      · refine fx rfl rfl rfl fun w_72 x_73 Q hK => ca SigM_en_slices_Clone_S_int_int_ rfl rfl ((clone_I _ _ f.places _ (hP.keep (Ext.tr z_69 x_73))).mono ?_)
        rintro e w_77 ⟨A_74, c_74, rfl, OC_74, hn_74, x_78⟩
        refine ⟨_, rfl, hK _ _ ⟨Ext.tr x_73 x_78, ?_⟩⟩
        have q_79 := x_73.size
        have z_72 := Ext.tr z_69 x_73
        have q_80 := x_78.size
        have z_77 := Ext.tr z_72 x_78
        have u_75 := fun q hq => (OC_74.lt q hq).2
        have lo_76 := fun q hq => (OC_74.lt q hq).1
        refine fw (v := .agg #[.int .i64 f.wide, .int .i64 f.high, .slice A_74 ((f.places).length) c_74]) rfl rfl (fun _ => bd rfl (by kernel_rfl)) rfl <| fx rfl rfl rfl fun w_81 x_82 Q hK => al rfl SigM_zv_api_Field rfl rfl fun w_83 b_84 x_85 l_86 B_87 => hK _ _ ⟨Ext.tr x_82 x_85, ?_⟩
        have q_88 := x_82.size
        have z_81 := Ext.tr z_77 x_82
        have q_89 := x_85.size
        have z_83 := Ext.tr z_81 x_85
        have q_90 := B_87.lt
        refine fb rfl rfl rfl fun w_91 x_92 Q hK => st (new := [.int .i64 f.wide, .int .i64 f.high, .slice A_74 ((f.places).length) c_74]) rfl rfl (B_87.later x_92) rfl SigM_sz_api_Field rfl rfl rfl fun w_93 m_94 B_87 => hK _ _ ?_
        have q_96 := x_92.size
        have z_91 := Ext.tr z_83 x_92
        have q_97 := m_94.size
        have z_93 := Ext.mod z_91 m_94 (by simp only [List.mem_singleton, forall_eq]; omega)
        have q_95 := m_94.size
        refine fn fun w_98 x_99 => ?_
        have q_100 := x_99.size
        have z_98 := Ext.tr z_93 x_99
        refine nT <| sq <| sq <| rg <| ?_
        have B_5 := B_5.later (Ext.tr x_70 (Ext.tr x_73 (Ext.tr x_78 (Ext.tr x_82 (Ext.tr x_85 x_92)))))
        have B_5 := B_5.mod m_94 (by simp only [List.mem_singleton]; omega)
        have B_5 := B_5.later x_99
        refine vl (ld rfl (B_5.all SigM_ag_api_Field SigM_sz_api_Field)) rfl <| ?_
        have B_19 := B_19.later (Ext.tr x_70 (Ext.tr x_73 (Ext.tr x_78 (Ext.tr x_82 (Ext.tr x_85 x_92)))))
        have B_19 := B_19.mod m_94 (by simp only [List.mem_singleton]; omega)
        have B_19 := B_19.later x_99
        refine vl (ld rfl (B_19.all SigM_ag_api_Cell SigM_sz_api_Cell)) rfl <| ca SigM_en_field_At rfl rfl ((fldAt2 f k _ _ _ (hP.keep z_98)).mono ?_)
        rintro e w_101 ⟨rfl, x_102⟩
        refine ⟨_, rfl, ?_⟩
        have q_103 := x_102.size
        have z_101 := Ext.tr z_98 x_102
        refine vl (mv rfl) rfl <| vl (ex rfl rfl) rfl <| vl (ex rfl rfl) rfl <| vl (as_ rfl) rfl <| vl (as_ rfl) rfl <| nl <| nT <| sq <| rg <| vl (mv rfl) rfl <| vl (beq rfl rfl) rfl <| nl <| nT <| ?_
        refine ceq rfl (fun h_104 => ?_) (fun h_104 => ?_)
        · obtain ⟨_, hk1, hk2, hk3, hk4⟩ := atE_chk h_104
          obtain ⟨i1, i2, _⟩ := Fld.idx hc (atE_zero hc h_104)
          have hm1 : 0 ≤ k.y * f.wide := Int.mul_nonneg hk3 (by omega)
          have hm2 : k.y * f.wide ≤ 40 * 40 := Int.mul_le_mul (by omega) (by omega) (by omega) (by omega)
          refine rg <| vl (fa SigM_fd_api_Field_2 rfl) rfl <| ?_
          have B_87 := B_87.later (Ext.tr x_99 x_102)
          refine vl (ld rfl (B_87.one SigM_ag_S_int rfl)) rfl <| vl (fa SigM_fd_api_Cell_1 rfl) rfl <| ?_
          have B_19 := B_19.later x_102
          refine vl (ld rfl (B_19.one SigM_ag_int rfl)) rfl <| vl (fa SigM_fd_api_Field_0 rfl) rfl <| ?_
          have B_5 := B_5.later x_102
          refine vl (ld rfl (B_5.one SigM_ag_int rfl)) rfl <| vl (bmu rfl rfl (inI (by omega))) rfl <| vl (fa SigM_fd_api_Cell_0 rfl) rfl <| vl (ld rfl (B_19.one SigM_ag_int rfl)) rfl <| vl (bad rfl rfl (inI (by omega))) rfl <| ?_
          have OC_74 := OC_74.later (Ext.tr x_82 (Ext.tr x_85 x_92))
          have OC_74 := OC_74.mod m_94 (fun q hq h => by have hb := List.mem_singleton.1 h; exfalso; (have := u_75 q hq; omega))
          have OC_74 := OC_74.later (Ext.tr x_99 x_102)
          refine vl (iA (((k.y * f.wide) + k.x).toNat) Try.underlying22 SigM_sz_int rfl rfl (OC_74.has.adr (Nat.zero_lt_of_lt (show ((k.y * f.wide) + k.x).toNat < _ from (show (k.y * f.wide + k.x).toNat < f.places.length by omega)))) (by omega) (show (k.y * f.wide + k.x).toNat < f.places.length by omega)) rfl <| so (q' := 0) (j := 0) (i := (((k.y * f.wide) + k.x).toNat)) OC_74 Rep.flat_bare (get_d (l := f.places) (u := 0) (show (k.y * f.wide + k.x).toNat < f.places.length by omega)) rfl rfl rfl rfl (fun _ cs h => by have ok_ := (show _ ∧ _ from h).2; obtain rfl := hcI h; exact ⟨rfl, okI_iff.2 (by decide)⟩) rfl rfl SigM_sz_int fun w_105 m_106 O_107 => ?_
          have q_108 := m_106.size
          have z_105 := Ext.mod z_101 m_106 (fun q hq => Nat.le_trans (by omega) (OC_74.lt q hq).1)
          have q_109 := m_106.size
          refine nl <| nT <| sq <| rg <| ?_
          have d_110 : ∀ q ∈ Rep.blkOf A_74, q = b_84 → False := fun q hq hb => by (have := u_75 q hq; omega)
          have B_87 := B_87.mod m_106 (fun hq => d_110 _ hq rfl)
          refine vl (ld rfl (B_87.all SigM_ag_api_Field SigM_sz_api_Field)) rfl <| ?_
          have B_12 := B_12.later (Ext.tr x_70 (Ext.tr x_73 (Ext.tr x_78 (Ext.tr x_82 (Ext.tr x_85 x_92)))))
          have B_12 := B_12.mod m_94 (by simp only [List.mem_singleton]; omega)
          have B_12 := B_12.later (Ext.tr x_99 x_102)
          have d_111 : ∀ q ∈ Rep.blkOf A_74, q = b_9 → False := fun q hq hb => by (have := lo_76 q hq; omega)
          have B_12 := B_12.mod m_106 (fun hq => d_111 _ hq rfl)
          refine vl (ld rfl (B_12.all SigM_ag_api_Cell SigM_sz_api_Cell)) rfl <| vl (mv rfl) rfl <| ca SigM_en_sight_Seen rfl rfl ((seen_set f (((k.y * f.wide) + k.x).toNat) c r _ _ _ O_107.has).mono ?_)
          rintro e w_115 ⟨A_112, c_112, rfl, OS_112, x_116⟩
          refine ⟨_, rfl, ?_⟩
          have q_117 := x_116.size
          have z_115 := Ext.tr z_105 x_116
          have u_113 := fun q hq => (OS_112.lt q hq).2
          have lo_114 := fun q hq => (OS_112.lt q hq).1
          refine vl (mv rfl) rfl <| vl (ex rfl rfl) rfl <| vl (ex rfl rfl) rfl <| vl (as_ rfl) rfl <| vl (as_ rfl) rfl <| nl <| nT <| sq <| sq <| rg <| vl (mv rfl) rfl <| vl (ln Try.underlying25 rfl) rfl <| vl (mv rfl) rfl <| nl <| nT <| bk <| ?_
          have B_12 := B_12.later x_116
          have OS_22 := OS_22.later (Ext.tr x_70 (Ext.tr x_73 (Ext.tr x_78 (Ext.tr x_82 (Ext.tr x_85 x_92)))))
          have OS_22 := OS_22.mod m_94 (fun q hq h => by have hb := List.mem_singleton.1 h; exfalso; (have := u_48 q hq; have := u_23 q hq; omega))
          have OS_22 := OS_22.later (Ext.tr x_99 x_102)
          have OS_22 := OS_22.mod m_106 (fun q hq h => by exfalso; (have := lo_76 q h; (have := u_48 q hq; have := u_23 q hq; omega)))
          have OS_22 := OS_22.later x_116
          have O_107 := O_107.later x_116
          refine lp (fun mI EI wI => ∃ i : Nat, EI = [(6, .pointer (some ⟨b_9, 0, none⟩)), (11, .slice A_22 ((seenL f c r).length) c_22), (22, .slice A_112 ((seenL (f.plainAt (((k.y * f.wide) + k.x).toNat)) c r).length) c_112), (23, .int .i64 (seenE (f.plainAt (((k.y * f.wide) + k.x).toNat)) c r)), (116, .slice A_22 ((seenL f c r).length) c_22), (117, .int .i64 ((((seenL f c r).length : Nat) : Int))), (118, .int .i64 (i : Int))] ∧ mI = (seenL f c r).length - i ∧ Ext w wI ∧ Blk wI b_9 [.int .i64 c.x, .int .i64 c.y] 37 (0, 0) ∧ Cel.rep.SOwn 37 16 wI w_15.heap.size (Rep.blkOf A_22) A_22 c_22 (seenL f c r) ∧ repI.SOwn 3 8 wI w_72.heap.size (Rep.blkOf A_74) A_74 c_74 ((f.places).set (((k.y * f.wide) + k.x).toNat) 0) ∧ Cel.rep.SOwn 37 16 wI w_105.heap.size (Rep.blkOf A_112) A_112 c_112 (seenL (f.plainAt (((k.y * f.wide) + k.x).toNat)) c r) ∧ (i ≤ (seenL f c r).length)) _ _ ⟨0, rfl, rfl, z_115, B_12, OS_22, O_107, OS_112, by omega⟩ (.cons rfl (.cons rfl (.cons rfl (.cons rfl (.cons rfl (.cons rfl (.cons (loI rfl (by first | omega | rfl | (simp <;> omega))) .nil))))))) ?_
          rintro m_119 E_120 w_118 ⟨i, rfl, rfl, z_118, B_12, OS_22, O_107, OS_112, hi⟩
          have q_121 := z_118.size
          have q_122 := B_12.lt
          have u_123 := fun q hq => (OS_22.lt q hq).2
          have u_124 := fun q hq => (O_107.lt q hq).2
          have u_125 := fun q hq => (OS_112.lt q hq).2
          refine sq <| rg <| vl (blt rfl rfl) rfl <| nl <| nT <| sq <| ?_
          refine clt rfl (fun h_126 => ?_) (fun h_126 => ?_)
          · refine sk <| nT <| sq <| bk <| sq <| rg <| vl (iA i Try.underlying25 SigM_sz_api_Cell rfl rfl (OS_22.has.adr (Nat.zero_lt_of_lt (show i < _ from (by omega)))) rfl (by omega)) rfl <| vl (ld rfl (Rep.SHas.elt hcC (OS_22.has.adh (Nat.zero_lt_of_lt (show i < _ from (by omega)))) (get_d (l := seenL f c r) (u := default) (by omega)) SigM_ag_api_Cell SigM_sz_api_Cell)) rfl <| al rfl SigM_zv_api_Cell rfl rfl fun w_127 b_128 x_129 l_130 B_131 => ?_
            have q_132 := x_129.size
            have z_127 := Ext.tr z_118 x_129
            have q_133 := B_131.lt
            refine st (new := [.int .i64 (((seenL f c r).getD i default).x), .int .i64 (((seenL f c r).getD i default).y)]) rfl rfl B_131 rfl SigM_sz_api_Cell rfl rfl rfl fun w_134 m_135 B_131 => ?_
            have q_137 := m_135.size
            have z_134 := Ext.mod z_127 m_135 (by simp only [List.mem_singleton, forall_eq]; omega)
            have q_136 := m_135.size
            refine nl <| nT <| sq <| rg <| vl (mv rfl) rfl <| vl (ld rfl (B_131.all SigM_ag_api_Cell SigM_sz_api_Cell)) rfl <| ?_
            have OS_112 := OS_112.later x_129
            have OS_112 := OS_112.mod m_135 (fun q hq h => by have hb := List.mem_singleton.1 h; exfalso; (have := u_125 q hq; have := u_113 q hq; omega))
            refine ca SigM_en_slices_Contains_S_api_Cell_api_Cell_ rfl rfl ((contains_C ((seenL f c r).getD i default) _ _ (seenL (f.plainAt (((k.y * f.wide) + k.x).toNat)) c r) _ OS_112.has).mono ?_)
            rintro e w_138 ⟨rfl, x_139⟩
            refine ⟨_, rfl, ?_⟩
            have q_140 := x_139.size
            have z_138 := Ext.tr z_134 x_139
            refine vl (nt rfl) rfl <| nl <| nT <| ?_
            have h_141 : (!((seenL (f.plainAt (((k.y * f.wide) + k.x).toNat)) c r).any (fun y => decide ((seenL f c r).getD i default = y)))) = false := by have hm := mem_d (l := seenL f c r) (k := i) (by omega); rw [any_mem (plain_seen _ hE hm)]; rfl
            refine cF (by rw [← h_141]; rfl) <| sk <| nB <| nT <| rg <| vl (bad rfl rfl (inI (by omega))) rfl <| vl (mv rfl) rfl <| nl <| ?_
            have B_12 := B_12.later x_129
            have B_12 := B_12.mod m_135 (by simp only [List.mem_singleton]; omega)
            have B_12 := B_12.later x_139
            have OS_22 := OS_22.later x_129
            have OS_22 := OS_22.mod m_135 (fun q hq h => by have hb := List.mem_singleton.1 h; exfalso; (have := u_123 q hq; have := u_23 q hq; have := u_48 q hq; omega))
            have OS_22 := OS_22.later x_139
            have O_107 := O_107.later x_129
            have O_107 := O_107.mod m_135 (fun q hq h => by have hb := List.mem_singleton.1 h; exfalso; (have := u_124 q hq; have := u_75 q hq; omega))
            have O_107 := O_107.later x_139
            have OS_112 := OS_112.later x_139
            exact nI _ _ ⟨i + 1, rfl, rfl, z_138, B_12, OS_22, O_107, OS_112, by omega⟩ (by omega) (.cons rfl (.cons rfl (.cons rfl (.cons rfl (.cons rfl (.cons rfl (.cons (loI rfl (by first | omega | rfl | (simp <;> omega))) .nil)))))))
          · refine xt <| xT <| xK <| xB <| nT <| sq <| rg <| vl (mv rfl) rfl <| vl (beq rfl rfl) rfl <| vl (mv rfl) rfl <| vQ rfl rfl rfl rfl (fun hc => mv rfl) rfl <| vQ rfl rfl rfl rfl (fun hc => ld rfl (B_12.all SigM_ag_api_Cell SigM_sz_api_Cell)) rfl <| vC rfl rfl rfl rfl SigM_en_slices_Contains_S_api_Cell_api_Cell_ (fun hc => ec (gt hc rfl) (ec (gt hc rfl) rfl)) (fun hc => contains_C c _ _ (seenL f c r) _ OS_22.has) rfl fun w_142 x_143 => ?_
            have q_144 := x_143.size
            have z_142 := Ext.tr z_118 x_143
            refine vl (pA rfl rfl rfl rfl) rfl <| vl (as_ rfl) rfl <| nl <| nT <| rt <| tR (.tmp rfl .nil) <| ?_
            exact ⟨ret_true (by rw [plain_seenE hc]; rw [hE, any_mem (seen_self hE)]; rfl), z_142⟩
        · refine sk <| nT <| sq <| rg <| ?_
          have B_87 := B_87.later (Ext.tr x_99 x_102)
          refine vl (ld rfl (B_87.all SigM_ag_api_Field SigM_sz_api_Field)) rfl <| ?_
          have B_12 := B_12.later (Ext.tr x_70 (Ext.tr x_73 (Ext.tr x_78 (Ext.tr x_82 (Ext.tr x_85 x_92)))))
          have B_12 := B_12.mod m_94 (by simp only [List.mem_singleton]; omega)
          have B_12 := B_12.later (Ext.tr x_99 x_102)
          refine vl (ld rfl (B_12.all SigM_ag_api_Cell SigM_sz_api_Cell)) rfl <| vl (mv rfl) rfl <| ?_
          have OC_74 := OC_74.later (Ext.tr x_82 (Ext.tr x_85 x_92))
          have OC_74 := OC_74.mod m_94 (fun q hq h => by have hb := List.mem_singleton.1 h; exfalso; (have := u_75 q hq; omega))
          have OC_74 := OC_74.later (Ext.tr x_99 x_102)
          refine ca SigM_en_sight_Seen rfl rfl ((seen_any f c r _ _ _ OC_74.has).mono ?_)
          rintro e w_148 ⟨A_145, c_145, rfl, OS_145, x_149⟩
          refine ⟨_, rfl, ?_⟩
          have q_150 := x_149.size
          have z_148 := Ext.tr z_101 x_149
          have u_146 := fun q hq => (OS_145.lt q hq).2
          have lo_147 := fun q hq => (OS_145.lt q hq).1
          refine vl (mv rfl) rfl <| vl (ex rfl rfl) rfl <| vl (ex rfl rfl) rfl <| vl (as_ rfl) rfl <| vl (as_ rfl) rfl <| nl <| nT <| sq <| sq <| rg <| vl (mv rfl) rfl <| vl (ln Try.underlying25 rfl) rfl <| vl (mv rfl) rfl <| nl <| nT <| bk <| ?_
          have B_12 := B_12.later x_149
          have OS_22 := OS_22.later (Ext.tr x_70 (Ext.tr x_73 (Ext.tr x_78 (Ext.tr x_82 (Ext.tr x_85 x_92)))))
          have OS_22 := OS_22.mod m_94 (fun q hq h => by have hb := List.mem_singleton.1 h; exfalso; (have := u_48 q hq; have := u_23 q hq; omega))
          have OS_22 := OS_22.later (Ext.tr x_99 (Ext.tr x_102 x_149))
          have OC_74 := OC_74.later x_149
          refine lp (fun mI EI wI => ∃ i : Nat, EI = [(6, .pointer (some ⟨b_9, 0, none⟩)), (11, .slice A_22 ((seenL f c r).length) c_22), (22, .slice A_145 ((seenL f c r).length) c_145), (23, .int .i64 (seenE f c r)), (116, .slice A_22 ((seenL f c r).length) c_22), (117, .int .i64 ((((seenL f c r).length : Nat) : Int))), (118, .int .i64 (i : Int))] ∧ mI = (seenL f c r).length - i ∧ Ext w wI ∧ Blk wI b_9 [.int .i64 c.x, .int .i64 c.y] 37 (0, 0) ∧ Cel.rep.SOwn 37 16 wI w_15.heap.size (Rep.blkOf A_22) A_22 c_22 (seenL f c r) ∧ repI.SOwn 3 8 wI w_72.heap.size (Rep.blkOf A_74) A_74 c_74 (f.places) ∧ Cel.rep.SOwn 37 16 wI w_101.heap.size (Rep.blkOf A_145) A_145 c_145 (seenL f c r) ∧ (i ≤ (seenL f c r).length)) _ _ ⟨0, rfl, rfl, z_148, B_12, OS_22, OC_74, OS_145, by omega⟩ (.cons rfl (.cons rfl (.cons rfl (.cons rfl (.cons rfl (.cons rfl (.cons (loI rfl (by first | omega | rfl | (simp <;> omega))) .nil))))))) ?_
          rintro m_152 E_153 w_151 ⟨i, rfl, rfl, z_151, B_12, OS_22, OC_74, OS_145, hi⟩
          have q_154 := z_151.size
          have q_155 := B_12.lt
          have u_156 := fun q hq => (OS_22.lt q hq).2
          have u_157 := fun q hq => (OC_74.lt q hq).2
          have u_158 := fun q hq => (OS_145.lt q hq).2
          refine sq <| rg <| vl (blt rfl rfl) rfl <| nl <| nT <| sq <| ?_
          refine clt rfl (fun h_159 => ?_) (fun h_159 => ?_)
          · refine sk <| nT <| sq <| bk <| sq <| rg <| vl (iA i Try.underlying25 SigM_sz_api_Cell rfl rfl (OS_22.has.adr (Nat.zero_lt_of_lt (show i < _ from (by omega)))) rfl (by omega)) rfl <| vl (ld rfl (Rep.SHas.elt hcC (OS_22.has.adh (Nat.zero_lt_of_lt (show i < _ from (by omega)))) (get_d (l := seenL f c r) (u := default) (by omega)) SigM_ag_api_Cell SigM_sz_api_Cell)) rfl <| al rfl SigM_zv_api_Cell rfl rfl fun w_160 b_161 x_162 l_163 B_164 => ?_
            have q_165 := x_162.size
            have z_160 := Ext.tr z_151 x_162
            have q_166 := B_164.lt
            refine st (new := [.int .i64 (((seenL f c r).getD i default).x), .int .i64 (((seenL f c r).getD i default).y)]) rfl rfl B_164 rfl SigM_sz_api_Cell rfl rfl rfl fun w_167 m_168 B_164 => ?_
            have q_170 := m_168.size
            have z_167 := Ext.mod z_160 m_168 (by simp only [List.mem_singleton, forall_eq]; omega)
            have q_169 := m_168.size
            refine nl <| nT <| sq <| rg <| vl (mv rfl) rfl <| vl (ld rfl (B_164.all SigM_ag_api_Cell SigM_sz_api_Cell)) rfl <| ?_
            have OS_145 := OS_145.later x_162
            have OS_145 := OS_145.mod m_168 (fun q hq h => by have hb := List.mem_singleton.1 h; exfalso; (have := u_158 q hq; have := u_146 q hq; omega))
            refine ca SigM_en_slices_Contains_S_api_Cell_api_Cell_ rfl rfl ((contains_C ((seenL f c r).getD i default) _ _ (seenL f c r) _ OS_145.has).mono ?_)
            rintro e w_171 ⟨rfl, x_172⟩
            refine ⟨_, rfl, ?_⟩
            have q_173 := x_172.size
            have z_171 := Ext.tr z_167 x_172
            refine vl (nt rfl) rfl <| nl <| nT <| ?_
            have h_174 : (!((seenL f c r).any (fun y => decide ((seenL f c r).getD i default = y)))) = false := by have hm := mem_d (l := seenL f c r) (k := i) (by omega); rw [any_mem (hm)]; rfl
            refine cF (by rw [← h_174]; rfl) <| sk <| nB <| nT <| rg <| vl (bad rfl rfl (inI (by omega))) rfl <| vl (mv rfl) rfl <| nl <| ?_
            have B_12 := B_12.later x_162
            have B_12 := B_12.mod m_168 (by simp only [List.mem_singleton]; omega)
            have B_12 := B_12.later x_172
            have OS_22 := OS_22.later x_162
            have OS_22 := OS_22.mod m_168 (fun q hq h => by have hb := List.mem_singleton.1 h; exfalso; (have := u_156 q hq; have := u_23 q hq; have := u_48 q hq; omega))
            have OS_22 := OS_22.later x_172
            have OC_74 := OC_74.later x_162
            have OC_74 := OC_74.mod m_168 (fun q hq h => by have hb := List.mem_singleton.1 h; exfalso; (have := u_157 q hq; have := u_75 q hq; omega))
            have OC_74 := OC_74.later x_172
            have OS_145 := OS_145.later x_172
            exact nI _ _ ⟨i + 1, rfl, rfl, z_171, B_12, OS_22, OC_74, OS_145, by omega⟩ (by omega) (.cons rfl (.cons rfl (.cons rfl (.cons rfl (.cons rfl (.cons rfl (.cons (loI rfl (by first | omega | rfl | (simp <;> omega))) .nil)))))))
          · refine xt <| xT <| xK <| xB <| nT <| sq <| rg <| vl (mv rfl) rfl <| vl (beq rfl rfl) rfl <| vl (mv rfl) rfl <| vQ rfl rfl rfl rfl (fun hc => mv rfl) rfl <| vQ rfl rfl rfl rfl (fun hc => ld rfl (B_12.all SigM_ag_api_Cell SigM_sz_api_Cell)) rfl <| vC rfl rfl rfl rfl SigM_en_slices_Contains_S_api_Cell_api_Cell_ (fun hc => ec (gt hc rfl) (ec (gt hc rfl) rfl)) (fun hc => contains_C c _ _ (seenL f c r) _ OS_22.has) rfl fun w_175 x_176 => ?_
            have q_177 := x_176.size
            have z_175 := Ext.tr z_151 x_176
            refine vl (pA rfl rfl rfl rfl) rfl <| vl (as_ rfl) rfl <| nl <| nT <| rt <| tR (.tmp rfl .nil) <| ?_
            exact ⟨ret_true (by rw [hE, any_mem (seen_self hE)]; rfl), z_175⟩
      · refine fx rfl rfl rfl fun w_178 x_179 Q hK => al rfl SigM_zv_api_Field rfl rfl fun w_180 b_181 x_182 l_183 B_184 => hK _ _ ⟨Ext.tr x_179 x_182, ?_⟩
        have q_185 := x_179.size
        have z_178 := Ext.tr z_69 x_179
        have q_186 := x_182.size
        have z_180 := Ext.tr z_178 x_182
        have q_187 := B_184.lt
        refine fx rfl rfl rfl fun w_188 x_189 Q hK => ca SigM_en_slices_Clone_S_int_int_ rfl rfl ((clone_I _ _ f.places _ (hP.keep (Ext.tr z_180 x_189))).mono ?_)
        rintro e w_193 ⟨A_190, c_190, rfl, OC_190, hn_190, x_194⟩
        refine ⟨_, rfl, hK _ _ ⟨Ext.tr x_189 x_194, ?_⟩⟩
        have q_195 := x_189.size
        have z_188 := Ext.tr z_180 x_189
        have q_196 := x_194.size
        have z_193 := Ext.tr z_188 x_194
        have u_191 := fun q hq => (OC_190.lt q hq).2
        have lo_192 := fun q hq => (OC_190.lt q hq).1
        refine fw (v := .agg #[.int .i64 f.wide, .int .i64 f.high, .slice A_190 ((f.places).length) c_190]) rfl rfl (fun _ => bd rfl (by kernel_rfl)) rfl <| ?_
        have B_184 := B_184.later (Ext.tr x_189 x_194)
        refine fb rfl rfl rfl fun w_197 x_198 Q hK => st (new := [.int .i64 f.wide, .int .i64 f.high, .slice A_190 ((f.places).length) c_190]) rfl rfl (B_184.later x_198) rfl SigM_sz_api_Field rfl rfl rfl fun w_199 m_200 B_184 => hK _ _ ?_
        have q_202 := x_198.size
        have z_197 := Ext.tr z_193 x_198
        have q_203 := m_200.size
        have z_199 := Ext.mod z_197 m_200 (by simp only [List.mem_singleton, forall_eq]; omega)
        have q_201 := m_200.size
        refine fn fun w_204 x_205 => ?_
        have q_206 := x_205.size
        have z_204 := Ext.tr z_199 x_205
        refine nT <| sq <| sq <| rg <| ?_
        have B_5 := B_5.later (Ext.tr x_70 (Ext.tr x_179 (Ext.tr x_182 (Ext.tr x_189 (Ext.tr x_194 x_198)))))
        have B_5 := B_5.mod m_200 (by simp only [List.mem_singleton]; omega)
        have B_5 := B_5.later x_205
        refine vl (ld rfl (B_5.all SigM_ag_api_Field SigM_sz_api_Field)) rfl <| ?_
        have B_19 := B_19.later (Ext.tr x_70 (Ext.tr x_179 (Ext.tr x_182 (Ext.tr x_189 (Ext.tr x_194 x_198)))))
        have B_19 := B_19.mod m_200 (by simp only [List.mem_singleton]; omega)
        have B_19 := B_19.later x_205
        refine vl (ld rfl (B_19.all SigM_ag_api_Cell SigM_sz_api_Cell)) rfl <| ca SigM_en_field_At rfl rfl ((fldAt2 f k _ _ _ (hP.keep z_204)).mono ?_)
        rintro e w_207 ⟨rfl, x_208⟩
        refine ⟨_, rfl, ?_⟩
        have q_209 := x_208.size
        have z_207 := Ext.tr z_204 x_208
        refine vl (mv rfl) rfl <| vl (ex rfl rfl) rfl <| vl (ex rfl rfl) rfl <| vl (as_ rfl) rfl <| vl (as_ rfl) rfl <| nl <| nT <| sq <| rg <| vl (mv rfl) rfl <| vl (beq rfl rfl) rfl <| nl <| nT <| ?_
        refine ceq rfl (fun h_210 => ?_) (fun h_210 => ?_)
        · obtain ⟨_, hk1, hk2, hk3, hk4⟩ := atE_chk h_210
          obtain ⟨i1, i2, _⟩ := Fld.idx hc (atE_zero hc h_210)
          have hm1 : 0 ≤ k.y * f.wide := Int.mul_nonneg hk3 (by omega)
          have hm2 : k.y * f.wide ≤ 40 * 40 := Int.mul_le_mul (by omega) (by omega) (by omega) (by omega)
          refine rg <| vl (fa SigM_fd_api_Field_2 rfl) rfl <| ?_
          have B_184 := B_184.later (Ext.tr x_205 x_208)
          refine vl (ld rfl (B_184.one SigM_ag_S_int rfl)) rfl <| vl (fa SigM_fd_api_Cell_1 rfl) rfl <| ?_
          have B_19 := B_19.later x_208
          refine vl (ld rfl (B_19.one SigM_ag_int rfl)) rfl <| vl (fa SigM_fd_api_Field_0 rfl) rfl <| ?_
          have B_5 := B_5.later x_208
          refine vl (ld rfl (B_5.one SigM_ag_int rfl)) rfl <| vl (bmu rfl rfl (inI (by omega))) rfl <| vl (fa SigM_fd_api_Cell_0 rfl) rfl <| vl (ld rfl (B_19.one SigM_ag_int rfl)) rfl <| vl (bad rfl rfl (inI (by omega))) rfl <| ?_
          have OC_190 := OC_190.later x_198
          have OC_190 := OC_190.mod m_200 (fun q hq h => by have hb := List.mem_singleton.1 h; exfalso; (have := lo_192 q hq; omega))
          have OC_190 := OC_190.later (Ext.tr x_205 x_208)
          refine vl (iA (((k.y * f.wide) + k.x).toNat) Try.underlying22 SigM_sz_int rfl rfl (OC_190.has.adr (Nat.zero_lt_of_lt (show ((k.y * f.wide) + k.x).toNat < _ from (show (k.y * f.wide + k.x).toNat < f.places.length by omega)))) (by omega) (show (k.y * f.wide + k.x).toNat < f.places.length by omega)) rfl <| so (q' := 0) (j := 0) (i := (((k.y * f.wide) + k.x).toNat)) OC_190 Rep.flat_bare (get_d (l := f.places) (u := 0) (show (k.y * f.wide + k.x).toNat < f.places.length by omega)) rfl rfl rfl rfl (fun _ cs h => by have ok_ := (show _ ∧ _ from h).2; obtain rfl := hcI h; exact ⟨rfl, okI_iff.2 (by decide)⟩) rfl rfl SigM_sz_int fun w_211 m_212 O_213 => ?_
          have q_214 := m_212.size
          have z_211 := Ext.mod z_207 m_212 (fun q hq => Nat.le_trans (by omega) (OC_190.lt q hq).1)
          have q_215 := m_212.size
          refine nl <| nT <| sq <| rg <| ?_
          have d_216 : ∀ q ∈ Rep.blkOf A_190, q = b_181 → False := fun q hq hb => by (have := lo_192 q hq; omega)
          have B_184 := B_184.mod m_212 (fun hq => d_216 _ hq rfl)
          refine vl (ld rfl (B_184.all SigM_ag_api_Field SigM_sz_api_Field)) rfl <| ?_
          have B_12 := B_12.later (Ext.tr x_70 (Ext.tr x_179 (Ext.tr x_182 (Ext.tr x_189 (Ext.tr x_194 x_198)))))
          have B_12 := B_12.mod m_200 (by simp only [List.mem_singleton]; omega)
          have B_12 := B_12.later (Ext.tr x_205 x_208)
          have d_217 : ∀ q ∈ Rep.blkOf A_190, q = b_9 → False := fun q hq hb => by (have := lo_192 q hq; omega)
          have B_12 := B_12.mod m_212 (fun hq => d_217 _ hq rfl)
          refine vl (ld rfl (B_12.all SigM_ag_api_Cell SigM_sz_api_Cell)) rfl <| vl (mv rfl) rfl <| ca SigM_en_sight_Seen rfl rfl ((seen_set f (((k.y * f.wide) + k.x).toNat) c r _ _ _ O_213.has).mono ?_)
          rintro e w_221 ⟨A_218, c_218, rfl, OS_218, x_222⟩
          refine ⟨_, rfl, ?_⟩
          have q_223 := x_222.size
          have z_221 := Ext.tr z_211 x_222
          have u_219 := fun q hq => (OS_218.lt q hq).2
          have lo_220 := fun q hq => (OS_218.lt q hq).1
          refine vl (mv rfl) rfl <| vl (ex rfl rfl) rfl <| vl (ex rfl rfl) rfl <| vl (as_ rfl) rfl <| vl (as_ rfl) rfl <| nl <| nT <| sq <| sq <| rg <| vl (mv rfl) rfl <| vl (ln Try.underlying25 rfl) rfl <| vl (mv rfl) rfl <| nl <| nT <| bk <| ?_
          have B_12 := B_12.later x_222
          have OS_22 := OS_22.later (Ext.tr x_70 (Ext.tr x_179 (Ext.tr x_182 (Ext.tr x_189 (Ext.tr x_194 x_198)))))
          have OS_22 := OS_22.mod m_200 (fun q hq h => by have hb := List.mem_singleton.1 h; exfalso; (have := u_48 q hq; have := u_23 q hq; omega))
          have OS_22 := OS_22.later (Ext.tr x_205 x_208)
          have OS_22 := OS_22.mod m_212 (fun q hq h => by exfalso; (have := lo_192 q h; (have := u_48 q hq; have := u_23 q hq; omega)))
          have OS_22 := OS_22.later x_222
          have O_213 := O_213.later x_222
          refine lp (fun mI EI wI => ∃ i : Nat, EI = [(6, .pointer (some ⟨b_9, 0, none⟩)), (11, .slice A_22 ((seenL f c r).length) c_22), (22, .slice A_218 ((seenL (f.plainAt (((k.y * f.wide) + k.x).toNat)) c r).length) c_218), (23, .int .i64 (seenE (f.plainAt (((k.y * f.wide) + k.x).toNat)) c r)), (116, .slice A_22 ((seenL f c r).length) c_22), (117, .int .i64 ((((seenL f c r).length : Nat) : Int))), (118, .int .i64 (i : Int))] ∧ mI = (seenL f c r).length - i ∧ Ext w wI ∧ Blk wI b_9 [.int .i64 c.x, .int .i64 c.y] 37 (0, 0) ∧ Cel.rep.SOwn 37 16 wI w_15.heap.size (Rep.blkOf A_22) A_22 c_22 (seenL f c r) ∧ repI.SOwn 3 8 wI w_188.heap.size (Rep.blkOf A_190) A_190 c_190 ((f.places).set (((k.y * f.wide) + k.x).toNat) 0) ∧ Cel.rep.SOwn 37 16 wI w_211.heap.size (Rep.blkOf A_218) A_218 c_218 (seenL (f.plainAt (((k.y * f.wide) + k.x).toNat)) c r) ∧ (i ≤ (seenL f c r).length)) _ _ ⟨0, rfl, rfl, z_221, B_12, OS_22, O_213, OS_218, by omega⟩ (.cons rfl (.cons rfl (.cons rfl (.cons rfl (.cons rfl (.cons rfl (.cons (loI rfl (by first | omega | rfl | (simp <;> omega))) .nil))))))) ?_
          rintro m_225 E_226 w_224 ⟨i, rfl, rfl, z_224, B_12, OS_22, O_213, OS_218, hi⟩
          have q_227 := z_224.size
          have q_228 := B_12.lt
          have u_229 := fun q hq => (OS_22.lt q hq).2
          have u_230 := fun q hq => (O_213.lt q hq).2
          have u_231 := fun q hq => (OS_218.lt q hq).2
          refine sq <| rg <| vl (blt rfl rfl) rfl <| nl <| nT <| sq <| ?_
          refine clt rfl (fun h_232 => ?_) (fun h_232 => ?_)
          · refine sk <| nT <| sq <| bk <| sq <| rg <| vl (iA i Try.underlying25 SigM_sz_api_Cell rfl rfl (OS_22.has.adr (Nat.zero_lt_of_lt (show i < _ from (by omega)))) rfl (by omega)) rfl <| vl (ld rfl (Rep.SHas.elt hcC (OS_22.has.adh (Nat.zero_lt_of_lt (show i < _ from (by omega)))) (get_d (l := seenL f c r) (u := default) (by omega)) SigM_ag_api_Cell SigM_sz_api_Cell)) rfl <| al rfl SigM_zv_api_Cell rfl rfl fun w_233 b_234 x_235 l_236 B_237 => ?_
            have q_238 := x_235.size
            have z_233 := Ext.tr z_224 x_235
            have q_239 := B_237.lt
            refine st (new := [.int .i64 (((seenL f c r).getD i default).x), .int .i64 (((seenL f c r).getD i default).y)]) rfl rfl B_237 rfl SigM_sz_api_Cell rfl rfl rfl fun w_240 m_241 B_237 => ?_
            have q_243 := m_241.size
            have z_240 := Ext.mod z_233 m_241 (by simp only [List.mem_singleton, forall_eq]; omega)
            have q_242 := m_241.size
            refine nl <| nT <| sq <| rg <| vl (mv rfl) rfl <| vl (ld rfl (B_237.all SigM_ag_api_Cell SigM_sz_api_Cell)) rfl <| ?_
            have OS_218 := OS_218.later x_235
            have OS_218 := OS_218.mod m_241 (fun q hq h => by have hb := List.mem_singleton.1 h; exfalso; (have := u_231 q hq; have := u_219 q hq; omega))
            refine ca SigM_en_slices_Contains_S_api_Cell_api_Cell_ rfl rfl ((contains_C ((seenL f c r).getD i default) _ _ (seenL (f.plainAt (((k.y * f.wide) + k.x).toNat)) c r) _ OS_218.has).mono ?_)
            rintro e w_244 ⟨rfl, x_245⟩
            refine ⟨_, rfl, ?_⟩
            have q_246 := x_245.size
            have z_244 := Ext.tr z_240 x_245
            refine vl (nt rfl) rfl <| nl <| nT <| ?_
            have h_247 : (!((seenL (f.plainAt (((k.y * f.wide) + k.x).toNat)) c r).any (fun y => decide ((seenL f c r).getD i default = y)))) = false := by have hm := mem_d (l := seenL f c r) (k := i) (by omega); rw [any_mem (plain_seen _ hE hm)]; rfl
            refine cF (by rw [← h_247]; rfl) <| sk <| nB <| nT <| rg <| vl (bad rfl rfl (inI (by omega))) rfl <| vl (mv rfl) rfl <| nl <| ?_
            have B_12 := B_12.later x_235
            have B_12 := B_12.mod m_241 (by simp only [List.mem_singleton]; omega)
            have B_12 := B_12.later x_245
            have OS_22 := OS_22.later x_235
            have OS_22 := OS_22.mod m_241 (fun q hq h => by have hb := List.mem_singleton.1 h; exfalso; (have := u_229 q hq; have := u_23 q hq; have := u_48 q hq; omega))
            have OS_22 := OS_22.later x_245
            have O_213 := O_213.later x_235
            have O_213 := O_213.mod m_241 (fun q hq h => by have hb := List.mem_singleton.1 h; exfalso; (have := u_230 q hq; have := u_191 q hq; omega))
            have O_213 := O_213.later x_245
            have OS_218 := OS_218.later x_245
            exact nI _ _ ⟨i + 1, rfl, rfl, z_244, B_12, OS_22, O_213, OS_218, by omega⟩ (by omega) (.cons rfl (.cons rfl (.cons rfl (.cons rfl (.cons rfl (.cons rfl (.cons (loI rfl (by first | omega | rfl | (simp <;> omega))) .nil)))))))
          · refine xt <| xT <| xK <| xB <| nT <| sq <| rg <| vl (mv rfl) rfl <| vl (beq rfl rfl) rfl <| vl (mv rfl) rfl <| vQ rfl rfl rfl rfl (fun hc => mv rfl) rfl <| vQ rfl rfl rfl rfl (fun hc => ld rfl (B_12.all SigM_ag_api_Cell SigM_sz_api_Cell)) rfl <| vC rfl rfl rfl rfl SigM_en_slices_Contains_S_api_Cell_api_Cell_ (fun hc => ec (gt hc rfl) (ec (gt hc rfl) rfl)) (fun hc => contains_C c _ _ (seenL f c r) _ OS_22.has) rfl fun w_248 x_249 => ?_
            have q_250 := x_249.size
            have z_248 := Ext.tr z_224 x_249
            refine vl (pA rfl rfl rfl rfl) rfl <| vl (as_ rfl) rfl <| nl <| nT <| rt <| tR (.tmp rfl .nil) <| ?_
            exact ⟨ret_true (by rw [plain_seenE hc]; rw [hE, any_mem (seen_self hE)]; rfl), z_248⟩
        · refine sk <| nT <| sq <| rg <| ?_
          have B_184 := B_184.later (Ext.tr x_205 x_208)
          refine vl (ld rfl (B_184.all SigM_ag_api_Field SigM_sz_api_Field)) rfl <| ?_
          have B_12 := B_12.later (Ext.tr x_70 (Ext.tr x_179 (Ext.tr x_182 (Ext.tr x_189 (Ext.tr x_194 x_198)))))
          have B_12 := B_12.mod m_200 (by simp only [List.mem_singleton]; omega)
          have B_12 := B_12.later (Ext.tr x_205 x_208)
          refine vl (ld rfl (B_12.all SigM_ag_api_Cell SigM_sz_api_Cell)) rfl <| vl (mv rfl) rfl <| ?_
          have OC_190 := OC_190.later x_198
          have OC_190 := OC_190.mod m_200 (fun q hq h => by have hb := List.mem_singleton.1 h; exfalso; (have := lo_192 q hq; omega))
          have OC_190 := OC_190.later (Ext.tr x_205 x_208)
          refine ca SigM_en_sight_Seen rfl rfl ((seen_any f c r _ _ _ OC_190.has).mono ?_)
          rintro e w_254 ⟨A_251, c_251, rfl, OS_251, x_255⟩
          refine ⟨_, rfl, ?_⟩
          have q_256 := x_255.size
          have z_254 := Ext.tr z_207 x_255
          have u_252 := fun q hq => (OS_251.lt q hq).2
          have lo_253 := fun q hq => (OS_251.lt q hq).1
          refine vl (mv rfl) rfl <| vl (ex rfl rfl) rfl <| vl (ex rfl rfl) rfl <| vl (as_ rfl) rfl <| vl (as_ rfl) rfl <| nl <| nT <| sq <| sq <| rg <| vl (mv rfl) rfl <| vl (ln Try.underlying25 rfl) rfl <| vl (mv rfl) rfl <| nl <| nT <| bk <| ?_
          have B_12 := B_12.later x_255
          have OS_22 := OS_22.later (Ext.tr x_70 (Ext.tr x_179 (Ext.tr x_182 (Ext.tr x_189 (Ext.tr x_194 x_198)))))
          have OS_22 := OS_22.mod m_200 (fun q hq h => by have hb := List.mem_singleton.1 h; exfalso; (have := u_48 q hq; have := u_23 q hq; omega))
          have OS_22 := OS_22.later (Ext.tr x_205 (Ext.tr x_208 x_255))
          have OC_190 := OC_190.later x_255
          refine lp (fun mI EI wI => ∃ i : Nat, EI = [(6, .pointer (some ⟨b_9, 0, none⟩)), (11, .slice A_22 ((seenL f c r).length) c_22), (22, .slice A_251 ((seenL f c r).length) c_251), (23, .int .i64 (seenE f c r)), (116, .slice A_22 ((seenL f c r).length) c_22), (117, .int .i64 ((((seenL f c r).length : Nat) : Int))), (118, .int .i64 (i : Int))] ∧ mI = (seenL f c r).length - i ∧ Ext w wI ∧ Blk wI b_9 [.int .i64 c.x, .int .i64 c.y] 37 (0, 0) ∧ Cel.rep.SOwn 37 16 wI w_15.heap.size (Rep.blkOf A_22) A_22 c_22 (seenL f c r) ∧ repI.SOwn 3 8 wI w_188.heap.size (Rep.blkOf A_190) A_190 c_190 (f.places) ∧ Cel.rep.SOwn 37 16 wI w_207.heap.size (Rep.blkOf A_251) A_251 c_251 (seenL f c r) ∧ (i ≤ (seenL f c r).length)) _ _ ⟨0, rfl, rfl, z_254, B_12, OS_22, OC_190, OS_251, by omega⟩ (.cons rfl (.cons rfl (.cons rfl (.cons rfl (.cons rfl (.cons rfl (.cons (loI rfl (by first | omega | rfl | (simp <;> omega))) .nil))))))) ?_
          rintro m_258 E_259 w_257 ⟨i, rfl, rfl, z_257, B_12, OS_22, OC_190, OS_251, hi⟩
          have q_260 := z_257.size
          have q_261 := B_12.lt
          have u_262 := fun q hq => (OS_22.lt q hq).2
          have u_263 := fun q hq => (OC_190.lt q hq).2
          have u_264 := fun q hq => (OS_251.lt q hq).2
          refine sq <| rg <| vl (blt rfl rfl) rfl <| nl <| nT <| sq <| ?_
          refine clt rfl (fun h_265 => ?_) (fun h_265 => ?_)
          · refine sk <| nT <| sq <| bk <| sq <| rg <| vl (iA i Try.underlying25 SigM_sz_api_Cell rfl rfl (OS_22.has.adr (Nat.zero_lt_of_lt (show i < _ from (by omega)))) rfl (by omega)) rfl <| vl (ld rfl (Rep.SHas.elt hcC (OS_22.has.adh (Nat.zero_lt_of_lt (show i < _ from (by omega)))) (get_d (l := seenL f c r) (u := default) (by omega)) SigM_ag_api_Cell SigM_sz_api_Cell)) rfl <| al rfl SigM_zv_api_Cell rfl rfl fun w_266 b_267 x_268 l_269 B_270 => ?_
            have q_271 := x_268.size
            have z_266 := Ext.tr z_257 x_268
            have q_272 := B_270.lt
            refine st (new := [.int .i64 (((seenL f c r).getD i default).x), .int .i64 (((seenL f c r).getD i default).y)]) rfl rfl B_270 rfl SigM_sz_api_Cell rfl rfl rfl fun w_273 m_274 B_270 => ?_
            have q_276 := m_274.size
            have z_273 := Ext.mod z_266 m_274 (by simp only [List.mem_singleton, forall_eq]; omega)
            have q_275 := m_274.size
            refine nl <| nT <| sq <| rg <| vl (mv rfl) rfl <| vl (ld rfl (B_270.all SigM_ag_api_Cell SigM_sz_api_Cell)) rfl <| ?_
            have OS_251 := OS_251.later x_268
            have OS_251 := OS_251.mod m_274 (fun q hq h => by have hb := List.mem_singleton.1 h; exfalso; (have := u_264 q hq; have := u_252 q hq; omega))
            refine ca SigM_en_slices_Contains_S_api_Cell_api_Cell_ rfl rfl ((contains_C ((seenL f c r).getD i default) _ _ (seenL f c r) _ OS_251.has).mono ?_)
            rintro e w_277 ⟨rfl, x_278⟩
            refine ⟨_, rfl, ?_⟩
            have q_279 := x_278.size
            have z_277 := Ext.tr z_273 x_278
            refine vl (nt rfl) rfl <| nl <| nT <| ?_
            have h_280 : (!((seenL f c r).any (fun y => decide ((seenL f c r).getD i default = y)))) = false := by have hm := mem_d (l := seenL f c r) (k := i) (by omega); rw [any_mem (hm)]; rfl
            refine cF (by rw [← h_280]; rfl) <| sk <| nB <| nT <| rg <| vl (bad rfl rfl (inI (by omega))) rfl <| vl (mv rfl) rfl <| nl <| ?_
            have B_12 := B_12.later x_268
            have B_12 := B_12.mod m_274 (by simp only [List.mem_singleton]; omega)
            have B_12 := B_12.later x_278
            have OS_22 := OS_22.later x_268
            have OS_22 := OS_22.mod m_274 (fun q hq h => by have hb := List.mem_singleton.1 h; exfalso; (have := u_262 q hq; have := u_23 q hq; have := u_48 q hq; omega))
            have OS_22 := OS_22.later x_278
            have OC_190 := OC_190.later x_268
            have OC_190 := OC_190.mod m_274 (fun q hq h => by have hb := List.mem_singleton.1 h; exfalso; (have := u_263 q hq; have := u_191 q hq; omega))
            have OC_190 := OC_190.later x_278
            have OS_251 := OS_251.later x_278
            exact nI _ _ ⟨i + 1, rfl, rfl, z_277, B_12, OS_22, OC_190, OS_251, by omega⟩ (by omega) (.cons rfl (.cons rfl (.cons rfl (.cons rfl (.cons rfl (.cons rfl (.cons (loI rfl (by first | omega | rfl | (simp <;> omega))) .nil)))))))
          · refine xt <| xT <| xK <| xB <| nT <| sq <| rg <| vl (mv rfl) rfl <| vl (beq rfl rfl) rfl <| vl (mv rfl) rfl <| vQ rfl rfl rfl rfl (fun hc => mv rfl) rfl <| vQ rfl rfl rfl rfl (fun hc => ld rfl (B_12.all SigM_ag_api_Cell SigM_sz_api_Cell)) rfl <| vC rfl rfl rfl rfl SigM_en_slices_Contains_S_api_Cell_api_Cell_ (fun hc => ec (gt hc rfl) (ec (gt hc rfl) rfl)) (fun hc => contains_C c _ _ (seenL f c r) _ OS_22.has) rfl fun w_281 x_282 => ?_
            have q_283 := x_282.size
            have z_281 := Ext.tr z_257 x_282
            refine vl (pA rfl rfl rfl rfl) rfl <| vl (as_ rfl) rfl <| nl <| nT <| rt <| tR (.tmp rfl .nil) <| ?_
            exact ⟨ret_true (by rw [hE, any_mem (seen_self hE)]; rfl), z_281⟩
theorem sightMore_any (c0 : Array Value) (c1 : Array Value) (c2 : Array Value) (a3 : Int) (a4 : Int) (w : World) (h0 : (.cons (.int .i64) (.cons (.int .i64) (.cons (.slice (.int .i64) 8) .nil)) : Sh).Ok w c0.toList) (h1 : (.cons (.int .i64) (.cons (.int .i64) .nil) : Sh).Ok w c1.toList) (h2 : (.cons (.int .i64) (.cons (.int .i64) .nil) : Sh).Ok w c2.toList) (w3 : (Lit.int .i64 a3).wf = true) (w4 : (Lit.int .i64 a4).wf = true) :
    Calls Try.prog 14 #[.agg c0, .agg c1, .agg c2, .int .i64 a3, .int .i64 a4] w fun e w' => e = .returned (.bool true) ∧ Below w.heap.size w w' := by
  obtain ⟨f, A, cp, e0, hP, hkw, hkh⟩ := Fld.opens w _ (show Wd.fsh.Ok w c0.toList from h0)
  have hc : c0 = #[.int .i64 f.wide, .int .i64 f.high, .slice A f.places.length cp] := by rw [← e0]
  subst hc
  obtain ⟨c, e1⟩ := Cel.opens_v w _ (show Cel.sh.Ok w c1.toList from h1)
  have hc1 : c1 = #[.int .i64 c.x, .int .i64 c.y] := by rw [← e1]
  subst hc1
  obtain ⟨k, e2⟩ := Cel.opens_v w _ (show Cel.sh.Ok w c2.toList from h2)
  have hc2 : c2 = #[.int .i64 k.x, .int .i64 k.y] := by rw [← e2]
  subst hc2
  exact sightMore_walk f c k a3 a4 A cp w hP
end Go.Proofs.Yticfnngppcmidaa
