/-
  MistHides. (Printed by bin/misth.py.)
-/
import Derived.Test.YtkijhejjnlmbmaaMiL
import Derived.Test.YtkijhejjnlmbmaaFnd
set_option linter.unusedVariables false
set_option linter.unusedSimpArgs false
namespace Go.Proofs.Ytkijhejjnlmbmaa
open Go.RowKit

theorem MiH_ag_api_World : Ag Try.prog 46 true := fun _ => by kernel_rfl
theorem MiH_sz_api_World : Sz Try.prog 46 9 := fun _ => by kernel_rfl
theorem MiH_en_mist_View : Enters Try.prog 25 := en Try.func25 (by kernel_rfl) (by kernel_rfl)
theorem MiH_zv_api_World : Zv Try.prog 46 (.agg #[.int .i64 0, .int .i64 0, .slice none 0 0, .slice none 0 0, .slice none 0 0, .slice none 0 0, .slice none 0 0, .int .i64 0, .int .i64 0]) := fun _ => by kernel_rfl
theorem MiH_en_mustkeep_mistLives : Enters Try.prog 26 := en Try.func26 (by kernel_rfl) (by kernel_rfl)
theorem MiH_fd_api_World_4 : Fd Try.prog 46 4 6 := fun _ _ _ => by kernel_rfl
theorem MiH_ag_S_api_Troop : Ag Try.prog 44 false := fun _ => by kernel_rfl
theorem MiH_sz_api_Troop : Sz Try.prog 51 7 := fun _ => by kernel_rfl
theorem MiH_ag_api_Troop : Ag Try.prog 51 true := fun _ => by kernel_rfl
theorem MiH_en_slices_Contains_S_api_Troop_api_Troop_ : Enters Try.prog 28 := en Try.func28 (by kernel_rfl) (by kernel_rfl)
theorem MiH_en_slices_Clone_S_api_Troop_api_Troop_ : Enters Try.prog 32 := en Try.func32 (by kernel_rfl) (by kernel_rfl)
theorem MiH_sz_S_api_Troop : Sz Try.prog 44 1 := fun _ => by kernel_rfl
theorem MiH_fd_api_Troop_4 : Fd Try.prog 51 4 5 := fun _ _ _ => by kernel_rfl
theorem MiH_ag_int : Ag Try.prog 3 false := fun _ => by kernel_rfl
theorem MiH_sz_int : Sz Try.prog 3 1 := fun _ => by kernel_rfl
theorem MiH_en_slices_Delete_S_api_Troop_api_Troop_ : Enters Try.prog 37 := en Try.func37 (by kernel_rfl) (by kernel_rfl)
theorem MiH_en_mustref_SameWorld : Enters Try.prog 31 := en Try.func31 (by kernel_rfl) (by kernel_rfl)
theorem view_T (a : Wd.At) (W : Wd) (p : Int) (w : World) (A : Option Addr) (c : Nat) (l : List Trp) (n : Nat) (hn : n = l.length) (hW : Wd.Has w a W) (hl : Trp.rep.SHas 56 w A c l) :
    Calls Try.prog 25 #[.agg #[.int .i64 W.field.wide, .int .i64 W.field.high, .slice a.P W.field.places.length a.p, .slice a.B W.bases.length a.b, .slice a.S W.stocks.length a.s, .slice a.M W.mines.length a.m, .slice A n c, .int .i64 W.next, .int .i64 W.now], .int .i64 p] w (fun e w' => ∃ a' : Wd.At, e = .returned (.tuple #[.agg (Wd.cells a' (viewW { W with troops := l } p)).toArray, .int .i64 (mistE { W with troops := l } p)]) ∧ WOwn w' w.heap.size a' (viewW { W with troops := l } p) ∧ Ext w w') := by
  subst hn
  exact view_any { a with T := A, t := c } { W with troops := l } p w ⟨hW.P, hW.B, hW.S, hW.M, hl, hW.nums⟩
theorem delZ_T (w0 : World) (A : Option Addr) (c i j : Nat) (l : List Trp) (x y : Int) (hx : x = (i : Int)) (hy : y = (j : Int)) {w : World} (hx0 : Ext w0 w) (hO : Trp.rep.SOwn 51 56 w w0.heap.size (Rep.blkOf A) A c l) (hij : i < j) (hj : j ≤ l.length) :
    Calls Try.prog 37 #[.slice A l.length c, .int .i64 x, .int .i64 y] w (fun e w' => e = .returned (.slice A (l.take i ++ l.drop j).length c) ∧ Trp.rep.SOwn 51 56 w' w0.heap.size (Rep.blkOf A) A c (l.take i ++ l.drop j) ∧ Mod (Rep.blkOf A) w w') := by
  subst hx; subst hy
  exact delAt_T w0 A c i j l w hx0 hO hij hj
set_option maxRecDepth 100000 in
set_option maxHeartbeats 1000000 in
theorem mistHides_walk (a : Wd.At) (W : Wd) (p q life : Int) (w : World) (hW : Wd.Has w a W) :
    Calls Try.prog 9 #[.agg ((Wd.cells a W).toArray), .int .i64 p, .int .i64 q, .int .i64 life] w (fun e w' => e = .returned (.bool true) ∧ Ext w w') := by
  refine calls_W (n := 107) Try.func9 rfl rfl rfl ?_
  refine sq <| rg <| bx rfl rfl rfl rfl fun w_1 b_2 x_3 l_4 B_5 => ?_
  have q_6 := x_3.size
  have z_1 := Ext.tr (Ext.rf w) x_3
  have q_7 := B_5.lt
  refine vl (as_ rfl) rfl <| nl <| nT <| sq <| rg <| vl (ld rfl (B_5.all MiH_ag_api_World MiH_sz_api_World)) rfl <| vl (mv rfl) rfl <| ca MiH_en_mist_View rfl rfl ((view_any a W p _ (hW.keep z_1)).mono ?_)
  rintro e w_11 ⟨a_8, rfl, HV_8, x_12⟩
  refine ⟨_, rfl, ?_⟩
  have q_13 := x_12.size
  have z_11 := Ext.tr z_1 x_12
  have u_9 := fun q hq => (HV_8.lt q hq).2
  have lo_10 := fun q hq => (HV_8.lt q hq).1
  refine vl (mv rfl) rfl <| vl (ex rfl rfl) rfl <| vl (ex rfl rfl) rfl <| al rfl MiH_zv_api_World rfl rfl fun w_14 b_15 x_16 l_17 B_18 => ?_
  have q_19 := x_16.size
  have z_14 := Ext.tr z_11 x_16
  have q_20 := B_18.lt
  refine st rfl rfl B_18 rfl MiH_sz_api_World rfl rfl rfl fun w_21 m_22 B_18 => ?_
  have q_24 := m_22.size
  have z_21 := Ext.mod z_14 m_22 (by simp only [List.mem_singleton, forall_eq]; omega)
  have q_23 := m_22.size
  refine vl (as_ rfl) rfl <| nl <| nT <| sq <| sq <| ?_
  refine rd [(0, 0), (13, 0), (19, 0), (21, 0), (24, 0), (25, 0)] [0, 1, 2, 3, 4, 5, 6, 7, 8, 9, 10, 11, 12, 13, 14, 15, 16, 17, 18, 19, 20, 21, 22, 23, 24, 25, 26] (by kernel_rfl) (by kernel_rfl) ?_
  refine fc rfl rfl MiH_en_mustkeep_mistLives rfl (fun _ x => mistLives_any _) rfl <| fw rfl rfl (fun _ => nt rfl) rfl <| fw rfl rfl (fun _ => mv rfl) rfl <| fW rfl rfl rfl rfl rfl rfl (fun hc _ => mv rfl) rfl <| fW rfl rfl rfl rfl rfl rfl (fun hc _ => bne rfl rfl) rfl <| fw rfl rfl (fun _ => pkF rfl rfl) rfl <| fw rfl rfl (fun _ => mv rfl) rfl <| fW rfl rfl rfl rfl rfl rfl (fun hc _ => mv rfl) rfl <| fW rfl rfl rfl rfl rfl rfl (fun hc _ => blt (gt hc rfl) rfl) rfl <| fw rfl rfl (fun _ => pO rfl rfl rfl rfl) rfl <| fw rfl rfl (fun _ => mv rfl) rfl <| fW rfl rfl rfl rfl rfl rfl (fun hc _ => mv rfl) rfl <| fW rfl rfl rfl rfl rfl rfl (fun hc _ => fa MiH_fd_api_World_4 rfl) rfl <| ?_
  have B_5 := B_5.later (Ext.tr x_12 x_16)
  have B_5 := B_5.mod m_22 (by simp only [List.mem_singleton]; omega)
  refine fQ rfl rfl rfl rfl rfl rfl (fun hc _ x => ld (gt hc rfl) ((B_5.later x).one MiH_ag_S_api_Troop rfl)) rfl <| fW rfl rfl rfl rfl rfl rfl (fun hc _ => ln Try.underlying44 (gt hc rfl)) rfl <| fW rfl rfl rfl rfl rfl rfl (fun hc _ => bge (gt hc rfl) (gt hc rfl)) rfl <| fw rfl rfl (fun _ => pO rfl rfl rfl rfl) rfl <| fw rfl rfl (fun _ => mv rfl) rfl <| fW rfl rfl rfl rfl rfl rfl (fun hc _ => fa MiH_fd_api_World_4 rfl) rfl <| fQ rfl rfl rfl rfl rfl rfl (fun hc _ x => ld (gt hc rfl) ((B_18.later x).one MiH_ag_S_api_Troop rfl)) rfl <| fW rfl rfl rfl rfl rfl rfl (fun hc _ => fa MiH_fd_api_World_4 rfl) rfl <| fQ rfl rfl rfl rfl rfl rfl (fun hc _ x => ld (gt hc rfl) ((B_5.later x).one MiH_ag_S_api_Troop rfl)) rfl <| fW rfl rfl rfl rfl rfl rfl (fun hc _ => mv rfl) rfl <| fW rfl rfl rfl rfl rfl rfl (fun hc _ => iA q.toNat Try.underlying44 MiH_sz_api_Troop (gt hc rfl) (gt hc rfl) ((hW.T.keep z_21).adr (Nat.zero_lt_of_lt (show q.toNat < _ from (by (try simp only [Bool.or_eq_true, Bool.or_eq_false_iff, Bool.and_eq_true, Bool.and_eq_false_iff, decide_eq_true_eq, decide_eq_false_iff_not, beq_iff_eq, bne_iff_ne, beq_eq_false_iff_ne, bne_eq_false_iff_eq, Bool.not_eq_true', Bool.not_eq_false', Bool.not_eq_true, Bool.not_eq_false, Int.not_lt, Int.not_le, Nat.not_lt, Nat.not_le, ne_eq, Classical.not_not] at hc); omega)))) (by (try simp only [Bool.or_eq_true, Bool.or_eq_false_iff, Bool.and_eq_true, Bool.and_eq_false_iff, decide_eq_true_eq, decide_eq_false_iff_not, beq_iff_eq, bne_iff_ne, beq_eq_false_iff_ne, bne_eq_false_iff_eq, Bool.not_eq_true', Bool.not_eq_false', Bool.not_eq_true, Bool.not_eq_false, Int.not_lt, Int.not_le, Nat.not_lt, Nat.not_le, ne_eq, Classical.not_not] at hc); omega) (by (try simp only [Bool.or_eq_true, Bool.or_eq_false_iff, Bool.and_eq_true, Bool.and_eq_false_iff, decide_eq_true_eq, decide_eq_false_iff_not, beq_iff_eq, bne_iff_ne, beq_eq_false_iff_ne, bne_eq_false_iff_eq, Bool.not_eq_true', Bool.not_eq_false', Bool.not_eq_true, Bool.not_eq_false, Int.not_lt, Int.not_le, Nat.not_lt, Nat.not_le, ne_eq, Classical.not_not] at hc); omega)) rfl <| fQ rfl rfl rfl rfl rfl rfl (fun hc _ x => ld (gt hc rfl) (Rep.SHas.elt hcT ((hW.T.keep (Ext.tr z_21 x)).adh (Nat.zero_lt_of_lt (show q.toNat < _ from (by (try simp only [Bool.or_eq_true, Bool.or_eq_false_iff, Bool.and_eq_true, Bool.and_eq_false_iff, decide_eq_true_eq, decide_eq_false_iff_not, beq_iff_eq, bne_iff_ne, beq_eq_false_iff_ne, bne_eq_false_iff_eq, Bool.not_eq_true', Bool.not_eq_false', Bool.not_eq_true, Bool.not_eq_false, Int.not_lt, Int.not_le, Nat.not_lt, Nat.not_le, ne_eq, Classical.not_not] at hc); omega)))) (get_d (l := W.troops) (u := default) (by (try simp only [Bool.or_eq_true, Bool.or_eq_false_iff, Bool.and_eq_true, Bool.and_eq_false_iff, decide_eq_true_eq, decide_eq_false_iff_not, beq_iff_eq, bne_iff_ne, beq_eq_false_iff_ne, bne_eq_false_iff_eq, Bool.not_eq_true', Bool.not_eq_false', Bool.not_eq_true, Bool.not_eq_false, Int.not_lt, Int.not_le, Nat.not_lt, Nat.not_le, ne_eq, Classical.not_not] at hc); omega)) MiH_ag_api_Troop MiH_sz_api_Troop)) rfl <| ?_
  have HV_8 := HV_8.later x_16
  have HV_8 := HV_8.mod m_22 (fun q hq h => by have hb := List.mem_singleton.1 h; exfalso; (have := u_9 q hq; omega))
  refine fC rfl rfl rfl rfl rfl rfl MiH_en_slices_Contains_S_api_Troop_api_Troop_ (fun hc => ec (gt hc rfl) (ec (gt hc rfl) rfl)) (fun hc _ x => contains_T (W.troops.getD q.toNat default) _ _ ((viewW W p).troops) _ (HV_8.later x).T.has) rfl <| fw rfl rfl (fun _ => pO rfl rfl rfl rfl) rfl <| fn fun w_25 x_26 => ?_
  have q_27 := x_26.size
  have z_25 := Ext.tr z_21 x_26
  refine nT <| ?_
  refine cb rfl (fun h_28 => ?_) (fun h_28 => ?_)
  · refine sq <| rg <| ca MiH_en_mustkeep_mistLives rfl rfl ((mistLives_any _).mono ?_)
    rintro e w_29 ⟨rfl, x_30⟩
    refine ⟨_, rfl, ?_⟩
    have q_31 := x_30.size
    have z_29 := Ext.tr z_25 x_30
    refine vl (as_ rfl) rfl <| nl <| nT <| rt <| tT <| tR (.tmp rfl .nil) <| ?_
    exact ⟨rfl, z_29⟩
  · simp only [Bool.or_eq_true, Bool.or_eq_false_iff, Bool.and_eq_true, Bool.and_eq_false_iff, decide_eq_true_eq, decide_eq_false_iff_not, beq_iff_eq, bne_iff_ne, beq_eq_false_iff_ne, bne_eq_false_iff_eq, Bool.not_eq_true', Bool.not_eq_false', Bool.not_eq_true, Bool.not_eq_false, Int.not_lt, Int.not_le, Nat.not_lt, Nat.not_le, ne_eq, Classical.not_not] at h_28
    obtain ⟨⟨⟨e0, hq0⟩, hq1⟩, hnot⟩ := h_28
    obtain ⟨i, hqi⟩ : ∃ i : Nat, q = (i : Int) := ⟨q.toNat, by omega⟩
    have hqt : q.toNat = i := by omega
    have hi : i < W.troops.length := by omega
    rw [hqt] at hnot
    have hn : W.troops.getD i default ∉ (viewW W p).troops := fun hm => by rw [anyT hm] at hnot; exact nomatch hnot
    obtain ⟨hs1, hs2⟩ := hides_set e0 hi life hn
    obtain ⟨he1, he2⟩ := hides_erase e0 hi hn
    have hG := Good.of_chk (mistE_ok e0).1
    obtain ⟨_, _, htr⟩ := hG.each (mem_dd (d := default) hi)
    have hlf := htr.life
    have hlk : Wd.lifeOf (W.troops.getD i default).kind ≤ 20 := by unfold Wd.lifeOf; split <;> (try split) <;> omega
    have hnt := hG.nt
    have hq2 : q ≤ 100 := by omega
    have hlf1 : 1 ≤ (W.troops.getD q.toNat default).life ∧ (W.troops.getD q.toNat default).life ≤ 20 := by rw [hqt]; omega
    refine sk <| nT <| sq <| rg <| ?_
    have B_5 := B_5.later x_26
    refine vl (ld rfl (B_5.all MiH_ag_api_World MiH_sz_api_World)) rfl <| al rfl MiH_zv_api_World rfl rfl fun w_32 b_33 x_34 l_35 B_36 => ?_
    have q_37 := x_34.size
    have z_32 := Ext.tr z_25 x_34
    have q_38 := B_36.lt
    refine st rfl rfl B_36 rfl MiH_sz_api_World rfl rfl rfl fun w_39 m_40 B_36 => ?_
    have q_42 := m_40.size
    have z_39 := Ext.mod z_32 m_40 (by simp only [List.mem_singleton, forall_eq]; omega)
    have q_41 := m_40.size
    refine nl <| nT <| sq <| rg <| vl (fa MiH_fd_api_World_4 rfl) rfl <| ?_
    have B_5 := B_5.later x_34
    have B_5 := B_5.mod m_40 (by simp only [List.mem_singleton]; omega)
    refine vl (ld rfl (B_5.one MiH_ag_S_api_Troop rfl)) rfl <| ca MiH_en_slices_Clone_S_api_Troop_api_Troop_ rfl rfl ((clone_T _ _ W.troops _ (hW.T.keep z_39)).mono ?_)
    rintro e w_46 ⟨A_43, c_43, rfl, OC_43, hn_43, x_47⟩
    refine ⟨_, rfl, ?_⟩
    have q_48 := x_47.size
    have z_46 := Ext.tr z_39 x_47
    have u_44 := fun q hq => (OC_43.lt q hq).2
    have lo_45 := fun q hq => (OC_43.lt q hq).1
    refine vl (fa MiH_fd_api_World_4 rfl) rfl <| ?_
    have B_36 := B_36.later x_47
    refine st (new := [.int .i64 W.field.wide, .int .i64 W.field.high, .slice a.P W.field.places.length a.p, .slice a.B W.bases.length a.b, .slice a.S W.stocks.length a.s, .slice a.M W.mines.length a.m, .slice A_43 ((W.troops).length) c_43, .int .i64 W.next, .int .i64 W.now]) rfl rfl B_36 rfl MiH_sz_S_api_Troop rfl rfl rfl fun w_49 m_50 B_36 => ?_
    have q_52 := m_50.size
    have z_49 := Ext.mod z_46 m_50 (by simp only [List.mem_singleton, forall_eq]; omega)
    have q_51 := m_50.size
    refine nl <| nT <| sq <| ?_
    refine rd [(1, 0), (5, 0), (9, 0), (14, 3)] [0, 1, 2, 3, 4, 5, 6, 7, 8, 9, 10, 11, 12, 13, 14] (by kernel_rfl) (by kernel_rfl) ?_
    refine fw rfl rfl (fun _ => fa MiH_fd_api_World_4 rfl) rfl <| fq rfl rfl (fun _ x => ld rfl ((B_36.later x).one MiH_ag_S_api_Troop rfl)) rfl <| fw rfl rfl (fun _ => mv rfl) rfl <| fw rfl rfl (fun _ => mv rfl) rfl <| fw rfl rfl (fun _ => fa MiH_fd_api_World_4 rfl) rfl <| ?_
    have B_5 := B_5.later x_47
    have B_5 := B_5.mod m_50 (by simp only [List.mem_singleton]; omega)
    refine fq rfl rfl (fun _ x => ld rfl ((B_5.later x).one MiH_ag_S_api_Troop rfl)) rfl <| fw rfl rfl (fun _ => mv rfl) rfl <| fw rfl rfl (fun _ => iA q.toNat Try.underlying44 MiH_sz_api_Troop rfl rfl ((hW.T.keep z_49).adr (Nat.zero_lt_of_lt (show q.toNat < _ from (by omega)))) (by omega) (by omega)) rfl <| fw rfl rfl (fun _ => fa MiH_fd_api_Troop_4 rfl) rfl <| fq rfl rfl (fun _ x => ld rfl (Rep.SHas.fld hcT ((hW.T.keep (Ext.tr z_49 x)).adh (Nat.zero_lt_of_lt (show q.toNat < _ from (by omega)))) 5 (get_d (l := W.troops) (u := default) (by omega)) rfl MiH_ag_int)) rfl <| fw rfl rfl (fun _ => mn rfl rfl) rfl <| fw rfl rfl (fun _ => mx rfl rfl) rfl <| ?_
    have OC_43 := OC_43.mod m_50 (fun q hq h => by have hb := List.mem_singleton.1 h; exfalso; (have := lo_45 q hq; omega))
    refine fw rfl rfl (fun _ => iA q.toNat Try.underlying44 MiH_sz_api_Troop rfl rfl (OC_43.has.adr (Nat.zero_lt_of_lt (show q.toNat < _ from (by omega)))) (by omega) (by omega)) rfl <| fw rfl rfl (fun _ => fa MiH_fd_api_Troop_4 rfl) rfl <| fb rfl rfl rfl fun w_53 x_54 Q hK => so (q' := (⟨((W.troops).getD q.toNat default).id, ((W.troops).getD q.toNat default).owner, ((W.troops).getD q.toNat default).kind, ⟨((W.troops).getD q.toNat default).spot.x, ((W.troops).getD q.toNat default).spot.y⟩, max 1 (min life ((W.troops.getD q.toNat default).life)), ((W.troops).getD q.toNat default).load⟩ : Trp)) (j := 5) (i := q.toNat) (OC_43.later x_54) Rep.flat_bare (get_d (l := W.troops) (u := default) (by omega)) rfl rfl rfl rfl (fun _ cs h => by have ok_ := (show _ ∧ _ from h).2; obtain rfl := hcT h; exact ⟨rfl, (by obtain ⟨o_0, o_1, o_2, o_3, o_4, o_5, o_6⟩ := ok_; exact ⟨o_0, o_1, o_2, o_3, o_4, okI_iff.2 (by (try dsimp only); omega), o_6⟩)⟩) rfl rfl MiH_sz_int fun w_55 m_56 O_57 => hK _ _ ?_
    have q_58 := x_54.size
    have z_53 := Ext.tr z_49 x_54
    have q_59 := m_56.size
    have z_55 := Ext.mod z_53 m_56 (fun q hq => Nat.le_trans (by omega) ((OC_43.later x_54).lt q hq).1)
    have q_60 := m_56.size
    refine fn fun w_61 x_62 => ?_
    have q_63 := x_62.size
    have z_61 := Ext.tr z_55 x_62
    refine nT <| sq <| rg <| ?_
    have B_5 := B_5.later x_54
    have d_64 : ∀ q ∈ Rep.blkOf A_43, q = b_2 → False := fun q hq hb => by (have := lo_45 q hq; omega)
    have B_5 := B_5.mod m_56 (fun hq => d_64 _ hq rfl)
    have B_5 := B_5.later x_62
    refine vl (ld rfl (B_5.all MiH_ag_api_World MiH_sz_api_World)) rfl <| al rfl MiH_zv_api_World rfl rfl fun w_65 b_66 x_67 l_68 B_69 => ?_
    have q_70 := x_67.size
    have z_65 := Ext.tr z_61 x_67
    have q_71 := B_69.lt
    refine st rfl rfl B_69 rfl MiH_sz_api_World rfl rfl rfl fun w_72 m_73 B_69 => ?_
    have q_75 := m_73.size
    have z_72 := Ext.mod z_65 m_73 (by simp only [List.mem_singleton, forall_eq]; omega)
    have q_74 := m_73.size
    refine nl <| nT <| sq <| rg <| vl (fa MiH_fd_api_World_4 rfl) rfl <| ?_
    have B_5 := B_5.later x_67
    have B_5 := B_5.mod m_73 (by simp only [List.mem_singleton]; omega)
    refine vl (ld rfl (B_5.one MiH_ag_S_api_Troop rfl)) rfl <| ca MiH_en_slices_Clone_S_api_Troop_api_Troop_ rfl rfl ((clone_T _ _ W.troops _ (hW.T.keep z_72)).mono ?_)
    rintro e w_79 ⟨A_76, c_76, rfl, OC_76, hn_76, x_80⟩
    refine ⟨_, rfl, ?_⟩
    have q_81 := x_80.size
    have z_79 := Ext.tr z_72 x_80
    have u_77 := fun q hq => (OC_76.lt q hq).2
    have lo_78 := fun q hq => (OC_76.lt q hq).1
    refine vl (mv rfl) rfl <| vl (mv rfl) rfl <| vl (bad rfl rfl (inI (by omega))) rfl <| ca MiH_en_slices_Delete_S_api_Troop_api_Troop_ rfl rfl ((delZ_T w_72 _ _ i (i + 1) _ _ _ hqi (by omega) (by first | exact Ext.rf _ | assumption) OC_76 (by omega) (by omega)).mono ?_)
    rintro e w_84 ⟨rfl, OE_82, m_83⟩
    refine ⟨_, rfl, ?_⟩
    have q_85 := m_83.size
    have z_84 := Ext.mod z_79 m_83 (fun q hq => by have := (OC_76.lt q hq).1; omega)
    refine vl (fa MiH_fd_api_World_4 rfl) rfl <| ?_
    have B_69 := B_69.later x_80
    have d_86 : ∀ q ∈ Rep.blkOf A_76, q = b_66 → False := fun q hq hb => by (have := lo_78 q hq; omega)
    have B_69 := B_69.mod m_83 (fun hq => d_86 _ hq rfl)
    refine st (new := [.int .i64 W.field.wide, .int .i64 W.field.high, .slice a.P W.field.places.length a.p, .slice a.B W.bases.length a.b, .slice a.S W.stocks.length a.s, .slice a.M W.mines.length a.m, .slice A_76 ((W.troops.take i ++ W.troops.drop (i + 1)).length) c_76, .int .i64 W.next, .int .i64 W.now]) rfl rfl B_69 rfl MiH_sz_S_api_Troop rfl rfl rfl fun w_87 m_88 B_69 => ?_
    have q_90 := m_88.size
    have z_87 := Ext.mod z_84 m_88 (by simp only [List.mem_singleton, forall_eq]; omega)
    have q_89 := m_88.size
    refine nl <| nT <| sq <| rg <| ?_
    have B_36 := B_36.later x_54
    have d_91 : ∀ q ∈ Rep.blkOf A_43, q = b_33 → False := fun q hq hb => by (have := lo_45 q hq; omega)
    have B_36 := B_36.mod m_56 (fun hq => d_91 _ hq rfl)
    have B_36 := B_36.later (Ext.tr x_62 x_67)
    have B_36 := B_36.mod m_73 (by simp only [List.mem_singleton]; omega)
    have B_36 := B_36.later x_80
    have d_92 : ∀ q ∈ Rep.blkOf A_76, q = b_33 → False := fun q hq hb => by (have := lo_78 q hq; omega)
    have B_36 := B_36.mod m_83 (fun hq => d_92 _ hq rfl)
    have B_36 := B_36.mod m_88 (by simp only [List.mem_singleton]; omega)
    refine vl (ld rfl (B_36.all MiH_ag_api_World MiH_sz_api_World)) rfl <| vl (mv rfl) rfl <| ?_
    have O_57 := O_57.later (Ext.tr x_62 x_67)
    have O_57 := O_57.mod m_73 (fun q hq h => by have hb := List.mem_singleton.1 h; exfalso; (have := u_44 q hq; omega))
    have O_57 := O_57.later x_80
    have O_57 := O_57.mod m_83 (fun q hq h => by exfalso; (have := lo_78 q h; (have := u_44 q hq; omega)))
    have O_57 := O_57.mod m_88 (fun q hq h => by have hb := List.mem_singleton.1 h; exfalso; (have := u_44 q hq; omega))
    refine ca MiH_en_mist_View rfl rfl ((view_T a W p _ A_43 c_43 (W.troops.set i (hurt (W.troops.getD i default) life)) _ (by rw [List.length_set]) (hW.keep z_87) (show Trp.rep.SHas 56 _ _ _ (W.troops.set i (hurt (W.troops.getD i default) life)) from (by have h_ := O_57.has; rw [hqt] at h_; exact h_))).mono ?_)
    rintro e w_96 ⟨a_93, rfl, HV_93, x_97⟩
    refine ⟨_, rfl, ?_⟩
    have q_98 := x_97.size
    have z_96 := Ext.tr z_87 x_97
    have u_94 := fun q hq => (HV_93.lt q hq).2
    have lo_95 := fun q hq => (HV_93.lt q hq).1
    refine vl (mv rfl) rfl <| vl (ex rfl rfl) rfl <| vl (ex rfl rfl) rfl <| al rfl MiH_zv_api_World rfl rfl fun w_99 b_100 x_101 l_102 B_103 => ?_
    have q_104 := x_101.size
    have z_99 := Ext.tr z_96 x_101
    have q_105 := B_103.lt
    refine st rfl rfl B_103 rfl MiH_sz_api_World rfl rfl rfl fun w_106 m_107 B_103 => ?_
    have q_109 := m_107.size
    have z_106 := Ext.mod z_99 m_107 (by simp only [List.mem_singleton, forall_eq]; omega)
    have q_108 := m_107.size
    refine vl (as_ rfl) rfl <| nl <| nT <| sq <| rg <| ?_
    have B_69 := B_69.later (Ext.tr x_97 x_101)
    have B_69 := B_69.mod m_107 (by simp only [List.mem_singleton]; omega)
    refine vl (ld rfl (B_69.all MiH_ag_api_World MiH_sz_api_World)) rfl <| vl (mv rfl) rfl <| ?_
    have OE_82 := OE_82.mod m_88 (fun q hq h => by have hb := List.mem_singleton.1 h; exfalso; (exact d_86 q hq hb))
    have OE_82 := OE_82.later (Ext.tr x_97 x_101)
    have OE_82 := OE_82.mod m_107 (fun q hq h => by have hb := List.mem_singleton.1 h; exfalso; (have := u_77 q hq; omega))
    refine ca MiH_en_mist_View rfl rfl ((view_T a W p _ A_76 c_76 (W.troops.eraseIdx i) _ (by rw [List.eraseIdx_eq_take_drop_succ]) (hW.keep z_106) (show Trp.rep.SHas 56 _ _ _ (W.troops.eraseIdx i) from (by rw [List.eraseIdx_eq_take_drop_succ]; exact OE_82.has))).mono ?_)
    rintro e w_113 ⟨a_110, rfl, HV_110, x_114⟩
    refine ⟨_, rfl, ?_⟩
    have q_115 := x_114.size
    have z_113 := Ext.tr z_106 x_114
    have u_111 := fun q hq => (HV_110.lt q hq).2
    have lo_112 := fun q hq => (HV_110.lt q hq).1
    refine vl (mv rfl) rfl <| vl (ex rfl rfl) rfl <| vl (ex rfl rfl) rfl <| al rfl MiH_zv_api_World rfl rfl fun w_116 b_117 x_118 l_119 B_120 => ?_
    have q_121 := x_118.size
    have z_116 := Ext.tr z_113 x_118
    have q_122 := B_120.lt
    refine st rfl rfl B_120 rfl MiH_sz_api_World rfl rfl rfl fun w_123 m_124 B_120 => ?_
    have q_126 := m_124.size
    have z_123 := Ext.mod z_116 m_124 (by simp only [List.mem_singleton, forall_eq]; omega)
    have q_125 := m_124.size
    refine vl (as_ rfl) rfl <| nl <| nT <| sq <| rg <| vl (mv rfl) rfl <| vl (beq rfl rfl) rfl <| vl (mv rfl) rfl <| vQ rfl rfl rfl rfl (fun hc => mv rfl) rfl <| vQ rfl rfl rfl rfl (fun hc => beq (gt hc rfl) rfl) rfl <| vl (pA rfl rfl rfl rfl) rfl <| vl (mv rfl) rfl <| ?_
    have B_103 := B_103.later (Ext.tr x_114 x_118)
    have B_103 := B_103.mod m_124 (by simp only [List.mem_singleton]; omega)
    refine vQ rfl rfl rfl rfl (fun hc => ld rfl (B_103.all MiH_ag_api_World MiH_sz_api_World)) rfl <| ?_
    have B_18 := B_18.later (Ext.tr x_26 x_34)
    have B_18 := B_18.mod m_40 (by simp only [List.mem_singleton]; omega)
    have B_18 := B_18.later x_47
    have B_18 := B_18.mod m_50 (by simp only [List.mem_singleton]; omega)
    have B_18 := B_18.later x_54
    have d_127 : ∀ q ∈ Rep.blkOf A_43, q = b_15 → False := fun q hq hb => by (have := lo_45 q hq; omega)
    have B_18 := B_18.mod m_56 (fun hq => d_127 _ hq rfl)
    have B_18 := B_18.later (Ext.tr x_62 x_67)
    have B_18 := B_18.mod m_73 (by simp only [List.mem_singleton]; omega)
    have B_18 := B_18.later x_80
    have d_128 : ∀ q ∈ Rep.blkOf A_76, q = b_15 → False := fun q hq hb => by (have := lo_78 q hq; omega)
    have B_18 := B_18.mod m_83 (fun hq => d_128 _ hq rfl)
    have B_18 := B_18.mod m_88 (by simp only [List.mem_singleton]; omega)
    have B_18 := B_18.later (Ext.tr x_97 x_101)
    have B_18 := B_18.mod m_107 (by simp only [List.mem_singleton]; omega)
    have B_18 := B_18.later (Ext.tr x_114 x_118)
    have B_18 := B_18.mod m_124 (by simp only [List.mem_singleton]; omega)
    refine vQ rfl rfl rfl rfl (fun hc => ld rfl (B_18.all MiH_ag_api_World MiH_sz_api_World)) rfl <| ?_
    have HV_93 := HV_93.later x_101
    have HV_93 := HV_93.mod m_107 (fun q hq h => by have hb := List.mem_singleton.1 h; exfalso; (have := u_94 q hq; omega))
    have HV_93 := HV_93.later (Ext.tr x_114 x_118)
    have HV_93 := HV_93.mod m_124 (fun q hq h => by have hb := List.mem_singleton.1 h; exfalso; (have := u_94 q hq; omega))
    have HV_8 := HV_8.later (Ext.tr x_26 x_34)
    have HV_8 := HV_8.mod m_40 (fun q hq h => by have hb := List.mem_singleton.1 h; exfalso; (have := u_9 q hq; omega))
    have HV_8 := HV_8.later x_47
    have HV_8 := HV_8.mod m_50 (fun q hq h => by have hb := List.mem_singleton.1 h; exfalso; (have := u_9 q hq; omega))
    have HV_8 := HV_8.later x_54
    have HV_8 := HV_8.mod m_56 (fun q hq h => by exfalso; (have := lo_45 q h; (have := u_9 q hq; omega)))
    have HV_8 := HV_8.later (Ext.tr x_62 x_67)
    have HV_8 := HV_8.mod m_73 (fun q hq h => by have hb := List.mem_singleton.1 h; exfalso; (have := u_9 q hq; omega))
    have HV_8 := HV_8.later x_80
    have HV_8 := HV_8.mod m_83 (fun q hq h => by exfalso; (have := lo_78 q h; (have := u_9 q hq; omega)))
    have HV_8 := HV_8.mod m_88 (fun q hq h => by have hb := List.mem_singleton.1 h; exfalso; (have := u_9 q hq; omega))
    have HV_8 := HV_8.later (Ext.tr x_97 x_101)
    have HV_8 := HV_8.mod m_107 (fun q hq h => by have hb := List.mem_singleton.1 h; exfalso; (have := u_9 q hq; omega))
    have HV_8 := HV_8.later (Ext.tr x_114 x_118)
    have HV_8 := HV_8.mod m_124 (fun q hq h => by have hb := List.mem_singleton.1 h; exfalso; (have := u_9 q hq; omega))
    refine vC rfl rfl rfl rfl MiH_en_mustref_SameWorld (fun hc => ec (gt hc rfl) (ec (gt hc rfl) rfl)) (fun hc => sameWorld_any _ a_93 (viewW { W with troops := W.troops.set i (hurt (W.troops.getD i default) life) } p) a_8 (viewW W p) HV_93.has HV_8.has) rfl fun w_129 x_130 => ?_
    have q_131 := x_130.size
    have z_129 := Ext.tr z_123 x_130
    refine vl (pA rfl rfl rfl rfl) rfl <| vl (mv rfl) rfl <| ?_
    have B_120 := B_120.later x_130
    refine vQ rfl rfl rfl rfl (fun hc => ld rfl (B_120.all MiH_ag_api_World MiH_sz_api_World)) rfl <| ?_
    have B_18 := B_18.later x_130
    refine vQ rfl rfl rfl rfl (fun hc => ld rfl (B_18.all MiH_ag_api_World MiH_sz_api_World)) rfl <| ?_
    have HV_110 := HV_110.later x_118
    have HV_110 := HV_110.mod m_124 (fun q hq h => by have hb := List.mem_singleton.1 h; exfalso; (have := u_111 q hq; omega))
    have HV_110 := HV_110.later x_130
    have HV_8 := HV_8.later x_130
    refine vC rfl rfl rfl rfl MiH_en_mustref_SameWorld (fun hc => ec (gt hc rfl) (ec (gt hc rfl) rfl)) (fun hc => sameWorld_any _ a_110 (viewW { W with troops := W.troops.eraseIdx i } p) a_8 (viewW W p) HV_110.has HV_8.has) rfl fun w_132 x_133 => ?_
    have q_134 := x_133.size
    have z_132 := Ext.tr z_129 x_133
    refine vl (pA rfl rfl rfl rfl) rfl <| vl (as_ rfl) rfl <| nl <| nT <| rt <| tR (.tmp rfl .nil) <| ?_
    exact ⟨ret_true (by rw [hs1, hs2, he1, he2]; simp), z_132⟩
theorem mistHides_any (c0 : Array Value) (a1 : Int) (a2 : Int) (a3 : Int) (w : World) (h0 : (.cons (.cons (.int .i64) (.cons (.int .i64) (.cons (.slice (.int .i64) 8) .nil))) (.cons (.slice (.cons (.int .i64) (.cons (.int .i64) .nil)) 16) (.cons (.slice (.int .i64) 8) (.cons (.slice (.int .i64) 8) (.cons (.slice (.cons (.int .i64) (.cons (.int .i64) (.cons (.int .i64) (.cons (.cons (.int .i64) (.cons (.int .i64) .nil)) (.cons (.int .i64) (.cons (.int .i64) .nil)))))) 56) (.cons (.int .i64) (.cons (.int .i64) .nil)))))) : Sh).Ok w c0.toList) (w1 : (Lit.int .i64 a1).wf = true) (w2 : (Lit.int .i64 a2).wf = true) (w3 : (Lit.int .i64 a3).wf = true) :
    Calls Try.prog 9 #[.agg c0, .int .i64 a1, .int .i64 a2, .int .i64 a3] w fun e w' => e = .returned (.bool true) ∧ Below w.heap.size w w' := by
  obtain ⟨a, W, e, hW⟩ := Wd.opens w _ (show Wd.sh.Ok w c0.toList from h0)
  have hc : c0 = (Wd.cells a W).toArray := by rw [← e]
  subst hc
  exact mistHides_walk a W a1 a2 a3 w hW
end Go.Proofs.Ytkijhejjnlmbmaa
