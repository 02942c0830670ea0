import Derived.Test.YtffjpfpbpnhmcaaClone
import Derived.Test.YtffjpfpbpnhmcaaWOwn2
import Derived.Test.YtffjpfpbpnhmcaaBas
import Derived.Test.YtffjpfpbpnhmcaaProg
import Derived.Test.YtffjpfpbpnhmcaaWld
import Derived.Test.YtffjpfpbpnhmcaaGol
set_option linter.unusedVariables false
set_option linter.unusedSimpArgs false
namespace Go.Proofs.Ytffjpfpbpnhmcaa
open Go.RowKit

theorem Mrs_zv_api_World : Zv Try.prog 49 (.agg #[.int .i64 0, .int .i64 0, .slice none 0 0, .slice none 0 0, .slice none 0 0, .slice none 0 0, .slice none 0 0, .int .i64 0, .int .i64 0]) := fun _ => by kernel_rfl
theorem Mrs_fd_api_World_0 : Fd Try.prog 49 0 0 := fun _ _ _ => by kernel_rfl
theorem Mrs_fd_api_Field_2 : Fd Try.prog 24 2 2 := fun _ _ _ => by kernel_rfl
theorem Mrs_ag_S_int : Ag Try.prog 22 false := fun _ => by kernel_rfl
theorem Mrs_en_slices_Clone_S_int_int_ : Enters Try.prog 41 := en Try.func41 (by kernel_rfl) (by kernel_rfl)
theorem Mrs_sz_S_int : Sz Try.prog 22 1 := fun _ => by kernel_rfl
theorem Mrs_fd_api_World_1 : Fd Try.prog 49 1 3 := fun _ _ _ => by kernel_rfl
theorem Mrs_ag_S_api_Cell : Ag Try.prog 25 false := fun _ => by kernel_rfl
theorem Mrs_fd_api_World_2 : Fd Try.prog 49 2 4 := fun _ _ _ => by kernel_rfl
theorem Mrs_en_slices_Clone_S_api_Cell_api_Cell_ : Enters Try.prog 19 := en Try.func19 (by kernel_rfl) (by kernel_rfl)
theorem Mrs_sz_S_api_Cell : Sz Try.prog 25 1 := fun _ => by kernel_rfl
theorem Mrs_fd_api_World_3 : Fd Try.prog 49 3 5 := fun _ _ _ => by kernel_rfl
theorem Mrs_fd_api_World_4 : Fd Try.prog 49 4 6 := fun _ _ _ => by kernel_rfl
theorem Mrs_ag_S_api_Troop : Ag Try.prog 47 false := fun _ => by kernel_rfl
theorem Mrs_en_slices_Clone_S_api_Troop_api_Troop_ : Enters Try.prog 40 := en Try.func40 (by kernel_rfl) (by kernel_rfl)
theorem Mrs_sz_S_api_Troop : Sz Try.prog 47 1 := fun _ => by kernel_rfl
theorem Mrs_ag_api_World : Ag Try.prog 49 true := fun _ => by kernel_rfl
theorem Mrs_sz_api_World : Sz Try.prog 49 9 := fun _ => by kernel_rfl
theorem Mrs_en_troop_Check : Enters Try.prog 34 := en Try.func34 (by kernel_rfl) (by kernel_rfl)
theorem Mrs_en_march_own : Enters Try.prog 62 := en Try.func62 (by kernel_rfl) (by kernel_rfl)
theorem Mrs_en_march_stepped : Enters Try.prog 63 := en Try.func63 (by kernel_rfl) (by kernel_rfl)
theorem Mrs_en_troop_Find : Enters Try.prog 71 := en Try.func71 (by kernel_rfl) (by kernel_rfl)
theorem Mrs_ag_api_Cell : Ag Try.prog 32 true := fun _ => by kernel_rfl
theorem Mrs_sz_api_Cell : Sz Try.prog 32 2 := fun _ => by kernel_rfl
theorem WOwn.modT {w w1 : World} {Z : Nat} {a : Wd.At} {W : Wd} {l : List Trp} (h : WOwn w Z a W) (m : Mod (Rep.blkOf a.T) w w1) (hT : Trp.rep.SOwn 65 56 w1 Z (Rep.blkOf a.T) a.T a.t l) : WOwn w1 Z a { W with troops := l } := by
  have hn := (List.nodup_append.1 h.apart).2.2
  have d : ∀ q ∈ Rep.blkOf a.P ++ Rep.blkOf a.B ++ Rep.blkOf a.S ++ Rep.blkOf a.M, q ∉ Rep.blkOf a.T := fun q hq ht => hn q hq q ht rfl
  exact ⟨h.P.mod m (fun q hq => d q (by simp [hq])), h.B.mod m (fun q hq => d q (by simp [hq])), h.S.mod m (fun q hq => d q (by simp [hq])), h.M.mod m (fun q hq => d q (by simp [hq])), hT, h.apart, h.nums⟩
theorem foot_PT {w : World} {Z : Nat} {a : Wd.At} {W : Wd} (h : WOwn w Z a W) : ∀ q ∈ Rep.blkOf a.P, q ∉ Rep.blkOf a.T := fun q hq ht => (List.nodup_append.1 h.apart).2.2 q (by simp [hq]) q ht rfl
/-- A world's troops go, in place. -/
theorem mstep_own (w0 : World) (a : Wd.At) (W : Wd) (A : Option Addr) (c : Nat) (l : List Gox) (w : World) (hO : WOwn w w0.heap.size a W) (hl : Gox.rep.SHas 24 w A c l) (hdl : 0 < l.length → ∀ q ∈ Rep.blkOf A, q ∉ Rep.blkOf a.T) (hnt : W.troops.length ≤ 100000) :
    Calls Try.prog 63 #[.agg (Wd.cells a W).toArray, .slice A l.length c] w (fun e w' => ∃ A' c', e = .returned (.slice A' (W.stepped l).2.length c') ∧ repI.SOwn 3 8 w' w.heap.size (Rep.blkOf A') A' c' (W.stepped l).2 ∧ WOwn w' w0.heap.size a (W.stepped l).1 ∧ Mod (Rep.blkOf a.T) w w') := by
  refine (stepped_any w0 a W A c l w hO.P.has hO.T (foot_PT hO) hl hdl hnt).mono ?_
  rintro e w' ⟨A', c', rfl, h1, h2, h3⟩
  exact ⟨A', c', rfl, h1, hO.modT h3 h2, h3⟩
theorem stepped_len (W : Wd) (l : List Gox) : (W.stepped l).1.troops.length = W.troops.length := (stS_len _).1
theorem stepped_cells (a : Wd.At) (W : Wd) (l : List Gox) : Wd.cells a W = Wd.cells a (W.stepped l).1 := by
  unfold Wd.cells; rw [stepped_len]; rfl
def marchE (W : Wd) (l : List Gox) : Int := if W.chk ≠ 0 then W.chk else if 200 < l.length then 2 else 0
noncomputable def marchW (W : Wd) (l : List Gox) : Wd := if marchE W l ≠ 0 then Wd.zero else (W.stepped l).1
noncomputable def marchM (W : Wd) (l : List Gox) : List Int := if marchE W l ≠ 0 then [] else (W.stepped l).2
theorem march_bad {W : Wd} {l : List Gox} (h : ¬ W.chk = 0) : marchE W l = W.chk ∧ marchW W l = Wd.zero ∧ marchM W l = [] := by
  have e : marchE W l = W.chk := by unfold marchE; rw [if_pos h]
  unfold marchW marchM; rw [e, if_pos h, if_pos h]; exact ⟨rfl, rfl, rfl⟩
theorem march_many {W : Wd} {l : List Gox} (h : W.chk = 0) (hl : (200 : Int) < (l.length : Int)) : marchE W l = 2 ∧ marchW W l = Wd.zero ∧ marchM W l = [] := by
  have e : marchE W l = 2 := by unfold marchE; rw [if_neg (by omega), if_pos (by omega)]
  unfold marchW marchM; rw [e]; exact ⟨rfl, rfl, rfl⟩
theorem march_ok {W : Wd} {l : List Gox} (h : W.chk = 0) (hl : (l.length : Int) ≤ 200) : marchE W l = 0 ∧ marchW W l = (W.stepped l).1 ∧ marchM W l = (W.stepped l).2 := by
  have e : marchE W l = 0 := by unfold marchE; rw [if_neg (by omega), if_neg (by omega)]
  unfold marchW marchM; rw [e]; exact ⟨rfl, rfl, rfl⟩
noncomputable def reachK (g : Gox) : Nat → Wd → Nat
  | 0, _ => 0
  | n + 1, W => if (W.stepped [g]).2.length = 0 then 0 else reachK g n (W.stepped [g]).1 + 1
noncomputable def reachV (g : Gox) : Nat → Wd → Wd
  | 0, W => W
  | n + 1, W => if (W.stepped [g]).2.length = 0 then (W.stepped [g]).1 else reachV g n (W.stepped [g]).1
def reachE (W : Wd) (id n : Int) : Int := if W.chk ≠ 0 then W.chk else if n < 0 ∨ 200 < n then 1 else if whichB W (isId id) = false then 7 else 0
noncomputable def reachW (W : Wd) (id : Int) (to : Cel) (n : Int) : Wd := if reachE W id n ≠ 0 then Wd.zero else reachV ⟨id, ⟨to.x, to.y⟩⟩ n.toNat W
noncomputable def reachN (W : Wd) (id : Int) (to : Cel) (n : Int) : Nat := if reachE W id n ≠ 0 then 0 else reachK ⟨id, ⟨to.x, to.y⟩⟩ n.toNat W
theorem reach_more {g : Gox} {V : Wd} {n k : Nat} (hk : k < n) (h : ¬ (V.stepped [g]).2.length = 0) : reachK g (n - k) V = reachK g (n - (k + 1)) (V.stepped [g]).1 + 1 ∧ reachV g (n - k) V = reachV g (n - (k + 1)) (V.stepped [g]).1 := by
  obtain ⟨m, hm⟩ : ∃ m, n - k = m + 1 := ⟨n - k - 1, by omega⟩
  rw [hm, show n - (k + 1) = m from by omega]
  simp only [reachK, reachV, if_neg h, and_self]
theorem reach_stop {g : Gox} {V : Wd} {n k : Nat} (hk : k < n) (h : (V.stepped [g]).2.length = 0) : reachK g (n - k) V = 0 ∧ reachV g (n - k) V = (V.stepped [g]).1 := by
  obtain ⟨m, hm⟩ : ∃ m, n - k = m + 1 := ⟨n - k - 1, by omega⟩
  rw [hm]
  simp only [reachK, reachV, if_pos h, and_self]
theorem reach_end {g : Gox} {V : Wd} {n k : Nat} (hk : n ≤ k) : reachK g (n - k) V = 0 ∧ reachV g (n - k) V = V := by
  rw [show n - k = 0 from by omega]; exact ⟨rfl, rfl⟩
theorem reach_bad {W : Wd} {id n : Int} {to : Cel} (h : ¬ W.chk = 0) : reachE W id n = W.chk ∧ reachW W id to n = Wd.zero ∧ reachN W id to n = 0 := by
  have e : reachE W id n = W.chk := by unfold reachE; rw [if_pos h]
  unfold reachW reachN; rw [e, if_pos h, if_pos h]; exact ⟨rfl, rfl, rfl⟩
theorem reach_out {W : Wd} {id n : Int} {to : Cel} (h : W.chk = 0) (hn : n < 0 ∨ 200 < n) : reachE W id n = 1 ∧ reachW W id to n = Wd.zero ∧ reachN W id to n = 0 := by
  have e : reachE W id n = 1 := by unfold reachE; rw [if_neg (by omega), if_pos hn]
  unfold reachW reachN; rw [e]; exact ⟨rfl, rfl, rfl⟩
theorem reach_gone {W : Wd} {id n : Int} {to : Cel} (h : W.chk = 0) (hn : 0 ≤ n ∧ n ≤ 200) (hw : whichB W (isId id) = false) : reachE W id n = 7 ∧ reachW W id to n = Wd.zero ∧ reachN W id to n = 0 := by
  have e : reachE W id n = 7 := by unfold reachE; rw [if_neg (by omega), if_neg (by omega), if_pos hw]
  unfold reachW reachN; rw [e]; exact ⟨rfl, rfl, rfl⟩
theorem reach_let {W : Wd} {id n : Int} (h : W.chk = 0) (h1 : 0 ≤ n) (h2 : n ≤ 200) (hw : whichB W (isId id) = true) : reachE W id n = 0 := by
  unfold reachE; rw [if_neg (by omega), if_neg (by omega), if_neg (by rw [hw]; decide)]
theorem reach_ok {W : Wd} {id n : Int} {to : Cel} (h : reachE W id n = 0) : reachE W id n = 0 ∧ reachW W id to n = reachV ⟨id, ⟨to.x, to.y⟩⟩ n.toNat W ∧ reachN W id to n = reachK ⟨id, ⟨to.x, to.y⟩⟩ n.toNat W := by
  unfold reachW reachN; rw [h]; exact ⟨rfl, rfl, rfl⟩
set_option maxRecDepth 100000 in
set_option maxHeartbeats 400000 in
theorem mown_any (a : Wd.At) (W : Wd) (w : World) (hW : Wd.Has w a W) :
    Calls Try.prog 62 #[.agg ((Wd.cells a W).toArray)] w (fun e w' => ∃ a' : Wd.At, e = .returned (.agg (Wd.cells a' W).toArray) ∧ WOwn w' w.heap.size a' W ∧ Ext w w') := by
  refine calls_W (n := 26) Try.func62 rfl rfl rfl ?_
  refine sq <| rg <| bx rfl rfl rfl rfl fun w_1 b_2 x_3 l_4 B_5 => ?_
  have q_6 := x_3.size
  have z_1 := Ext.tr (Ext.rf w) x_3
  have q_7 := B_5.lt
  refine al rfl Mrs_zv_api_World rfl rfl fun w_8 b_9 x_10 l_11 B_12 => ?_
  have q_13 := x_10.size
  have z_8 := Ext.tr z_1 x_10
  have q_14 := B_12.lt
  refine nl <| nT <| sq <| rg <| vl (fa Mrs_fd_api_World_0 rfl) rfl <| vl (fa Mrs_fd_api_Field_2 rfl) rfl <| ?_
  have B_5 := B_5.later x_10
  refine vl (ld rfl (B_5.one Mrs_ag_S_int rfl)) rfl <| ca Mrs_en_slices_Clone_S_int_int_ rfl rfl ((clone_I _ _ W.field.places _ (hW.P.keep z_8)).mono ?_)
  rintro e w_18 ⟨A_15, c_15, rfl, OC_15, hn_15, x_19⟩
  refine ⟨_, rfl, ?_⟩
  have q_20 := x_19.size
  have z_18 := Ext.tr z_8 x_19
  have u_16 := fun q hq => (OC_15.lt q hq).2
  have lo_17 := fun q hq => (OC_15.lt q hq).1
  refine vl (fa Mrs_fd_api_World_0 rfl) rfl <| vl (fa Mrs_fd_api_Field_2 rfl) rfl <| ?_
  have B_5 := B_5.later x_19
  refine st (new := [.int .i64 W.field.wide, .int .i64 W.field.high, .slice A_15 ((W.field.places).length) c_15, .slice a.B W.bases.length a.b, .slice a.S W.stocks.length a.s, .slice a.M W.mines.length a.m, .slice a.T W.troops.length a.t, .int .i64 W.next, .int .i64 W.now]) rfl rfl B_5 rfl Mrs_sz_S_int rfl rfl rfl fun w_21 m_22 B_5 => ?_
  have q_24 := m_22.size
  have z_21 := Ext.mod z_18 m_22 (by simp only [List.mem_singleton, forall_eq]; omega)
  have q_23 := m_22.size
  refine nl <| nT <| sq <| ?_
  refine rd [(1, 0), (2, 2), (4, 0), (5, 2), (7, 3), (9, 3)] [0, 1, 3, 4, 2, 6, 5, 7, 8, 9] (by kernel_rfl) (by kernel_rfl) ?_
  refine fw rfl rfl (fun _ => fa Mrs_fd_api_World_1 rfl) rfl <| fq rfl rfl (fun _ x => ld rfl ((B_5.later x).one Mrs_ag_S_api_Cell rfl)) rfl <| fw rfl rfl (fun _ => fa Mrs_fd_api_World_2 rfl) rfl <| fq rfl rfl (fun _ x => ld rfl ((B_5.later x).one Mrs_ag_S_int rfl)) rfl <| fx rfl rfl rfl fun w_25 x_26 Q hK => ca Mrs_en_slices_Clone_S_api_Cell_api_Cell_ rfl rfl ((clone_C _ _ W.bases _ (hW.B.keep (Ext.tr z_21 x_26))).mono ?_)
  rintro e w_30 ⟨A_27, c_27, rfl, OC_27, hn_27, x_31⟩
  refine ⟨_, rfl, hK _ _ ⟨Ext.tr x_26 x_31, ?_⟩⟩
  have q_32 := x_26.size
  have z_25 := Ext.tr z_21 x_26
  have q_33 := x_31.size
  have z_30 := Ext.tr z_25 x_31
  have u_28 := fun q hq => (OC_27.lt q hq).2
  have lo_29 := fun q hq => (OC_27.lt q hq).1
  refine fw rfl rfl (fun _ => fa Mrs_fd_api_World_1 rfl) rfl <| fx rfl rfl rfl fun w_34 x_35 Q hK => ca Mrs_en_slices_Clone_S_int_int_ rfl rfl ((clone_I _ _ W.stocks _ (hW.S.keep (Ext.tr z_30 x_35))).mono ?_)
  rintro e w_39 ⟨A_36, c_36, rfl, OC_36, hn_36, x_40⟩
  refine ⟨_, rfl, hK _ _ ⟨Ext.tr x_35 x_40, ?_⟩⟩
  have q_41 := x_35.size
  have z_34 := Ext.tr z_30 x_35
  have q_42 := x_40.size
  have z_39 := Ext.tr z_34 x_40
  have u_37 := fun q hq => (OC_36.lt q hq).2
  have lo_38 := fun q hq => (OC_36.lt q hq).1
  have B_5 := B_5.later (Ext.tr x_26 (Ext.tr x_31 (Ext.tr x_35 x_40)))
  refine fb rfl rfl rfl fun w_43 x_44 Q hK => st (new := [.int .i64 W.field.wide, .int .i64 W.field.high, .slice A_15 ((W.field.places).length) c_15, .slice A_27 ((W.bases).length) c_27, .slice a.S W.stocks.length a.s, .slice a.M W.mines.length a.m, .slice a.T W.troops.length a.t, .int .i64 W.next, .int .i64 W.now]) rfl rfl (B_5.later x_44) rfl Mrs_sz_S_api_Cell rfl rfl rfl fun w_45 m_46 B_5 => hK _ _ ?_
  have q_48 := x_44.size
  have z_43 := Ext.tr z_39 x_44
  have q_49 := m_46.size
  have z_45 := Ext.mod z_43 m_46 (by simp only [List.mem_singleton, forall_eq]; omega)
  have q_47 := m_46.size
  refine fw rfl rfl (fun _ => fa Mrs_fd_api_World_2 rfl) rfl <| fb rfl rfl rfl fun w_50 x_51 Q hK => st (new := [.int .i64 W.field.wide, .int .i64 W.field.high, .slice A_15 ((W.field.places).length) c_15, .slice A_27 ((W.bases).length) c_27, .slice A_36 ((W.stocks).length) c_36, .slice a.M W.mines.length a.m, .slice a.T W.troops.length a.t, .int .i64 W.next, .int .i64 W.now]) rfl rfl (B_5.later x_51) rfl Mrs_sz_S_int rfl rfl rfl fun w_52 m_53 B_5 => hK _ _ ?_
  have q_55 := x_51.size
  have z_50 := Ext.tr z_45 x_51
  have q_56 := m_53.size
  have z_52 := Ext.mod z_50 m_53 (by simp only [List.mem_singleton, forall_eq]; omega)
  have q_54 := m_53.size
  refine fn fun w_57 x_58 => ?_
  have q_59 := x_58.size
  have z_57 := Ext.tr z_52 x_58
  refine nT <| sq <| ?_
  refine rd [(1, 0), (2, 2), (4, 0), (5, 2), (7, 3), (9, 3)] [0, 1, 3, 4, 2, 6, 5, 7, 8, 9] (by kernel_rfl) (by kernel_rfl) ?_
  refine fw rfl rfl (fun _ => fa Mrs_fd_api_World_3 rfl) rfl <| ?_
  have B_5 := B_5.later x_58
  refine fq rfl rfl (fun _ x => ld rfl ((B_5.later x).one Mrs_ag_S_int rfl)) rfl <| fw rfl rfl (fun _ => fa Mrs_fd_api_World_4 rfl) rfl <| fq rfl rfl (fun _ x => ld rfl ((B_5.later x).one Mrs_ag_S_api_Troop rfl)) rfl <| fx rfl rfl rfl fun w_60 x_61 Q hK => ca Mrs_en_slices_Clone_S_int_int_ rfl rfl ((clone_I _ _ W.mines _ (hW.M.keep (Ext.tr z_57 x_61))).mono ?_)
  rintro e w_65 ⟨A_62, c_62, rfl, OC_62, hn_62, x_66⟩
  refine ⟨_, rfl, hK _ _ ⟨Ext.tr x_61 x_66, ?_⟩⟩
  have q_67 := x_61.size
  have z_60 := Ext.tr z_57 x_61
  have q_68 := x_66.size
  have z_65 := Ext.tr z_60 x_66
  have u_63 := fun q hq => (OC_62.lt q hq).2
  have lo_64 := fun q hq => (OC_62.lt q hq).1
  refine fw rfl rfl (fun _ => fa Mrs_fd_api_World_3 rfl) rfl <| fx rfl rfl rfl fun w_69 x_70 Q hK => ca Mrs_en_slices_Clone_S_api_Troop_api_Troop_ rfl rfl ((clone_T _ _ W.troops _ (hW.T.keep (Ext.tr z_65 x_70))).mono ?_)
  rintro e w_74 ⟨A_71, c_71, rfl, OC_71, hn_71, x_75⟩
  refine ⟨_, rfl, hK _ _ ⟨Ext.tr x_70 x_75, ?_⟩⟩
  have q_76 := x_70.size
  have z_69 := Ext.tr z_65 x_70
  have q_77 := x_75.size
  have z_74 := Ext.tr z_69 x_75
  have u_72 := fun q hq => (OC_71.lt q hq).2
  have lo_73 := fun q hq => (OC_71.lt q hq).1
  have B_5 := B_5.later (Ext.tr x_61 (Ext.tr x_66 (Ext.tr x_70 x_75)))
  refine fb rfl rfl rfl fun w_78 x_79 Q hK => st (new := [.int .i64 W.field.wide, .int .i64 W.field.high, .slice A_15 ((W.field.places).length) c_15, .slice A_27 ((W.bases).length) c_27, .slice A_36 ((W.stocks).length) c_36, .slice A_62 ((W.mines).length) c_62, .slice a.T W.troops.length a.t, .int .i64 W.next, .int .i64 W.now]) rfl rfl (B_5.later x_79) rfl Mrs_sz_S_int rfl rfl rfl fun w_80 m_81 B_5 => hK _ _ ?_
  have q_83 := x_79.size
  have z_78 := Ext.tr z_74 x_79
  have q_84 := m_81.size
  have z_80 := Ext.mod z_78 m_81 (by simp only [List.mem_singleton, forall_eq]; omega)
  have q_82 := m_81.size
  refine fw rfl rfl (fun _ => fa Mrs_fd_api_World_4 rfl) rfl <| fb rfl rfl rfl fun w_85 x_86 Q hK => st (new := [.int .i64 W.field.wide, .int .i64 W.field.high, .slice A_15 ((W.field.places).length) c_15, .slice A_27 ((W.bases).length) c_27, .slice A_36 ((W.stocks).length) c_36, .slice A_62 ((W.mines).length) c_62, .slice A_71 ((W.troops).length) c_71, .int .i64 W.next, .int .i64 W.now]) rfl rfl (B_5.later x_86) rfl Mrs_sz_S_api_Troop rfl rfl rfl fun w_87 m_88 B_5 => hK _ _ ?_
  have q_90 := x_86.size
  have z_85 := Ext.tr z_80 x_86
  have q_91 := m_88.size
  have z_87 := Ext.mod z_85 m_88 (by simp only [List.mem_singleton, forall_eq]; omega)
  have q_89 := m_88.size
  refine fn fun w_92 x_93 => ?_
  have q_94 := x_93.size
  have z_92 := Ext.tr z_87 x_93
  refine nT <| sq <| rg <| ?_
  have B_5 := B_5.later x_93
  refine vl (ld rfl (B_5.all Mrs_ag_api_World Mrs_sz_api_World)) rfl <| ?_
  have B_12 := B_12.later x_19
  have B_12 := B_12.mod m_22 (by simp only [List.mem_singleton]; omega)
  have B_12 := B_12.later (Ext.tr x_26 (Ext.tr x_31 (Ext.tr x_35 (Ext.tr x_40 x_44))))
  have B_12 := B_12.mod m_46 (by simp only [List.mem_singleton]; omega)
  have B_12 := B_12.later x_51
  have B_12 := B_12.mod m_53 (by simp only [List.mem_singleton]; omega)
  have B_12 := B_12.later (Ext.tr x_58 (Ext.tr x_61 (Ext.tr x_66 (Ext.tr x_70 (Ext.tr x_75 x_79)))))
  have B_12 := B_12.mod m_81 (by simp only [List.mem_singleton]; omega)
  have B_12 := B_12.later x_86
  have B_12 := B_12.mod m_88 (by simp only [List.mem_singleton]; omega)
  have B_12 := B_12.later x_93
  refine st (new := [.int .i64 W.field.wide, .int .i64 W.field.high, .slice A_15 ((W.field.places).length) c_15, .slice A_27 ((W.bases).length) c_27, .slice A_36 ((W.stocks).length) c_36, .slice A_62 ((W.mines).length) c_62, .slice A_71 ((W.troops).length) c_71, .int .i64 W.next, .int .i64 W.now]) rfl rfl B_12 rfl Mrs_sz_api_World rfl rfl rfl fun w_95 m_96 B_12 => ?_
  have q_98 := m_96.size
  have z_95 := Ext.mod z_92 m_96 (by simp only [List.mem_singleton, forall_eq]; omega)
  have q_97 := m_96.size
  refine nl <| nT <| rt <| tR (.cell rfl (B_12.all Mrs_ag_api_World Mrs_sz_api_World) .nil) <| ?_
  have OC_15 := OC_15.mod m_22 (fun q hq h => by have hb := List.mem_singleton.1 h; exfalso; (have := lo_17 q hq; omega))
  have OC_15 := OC_15.later (Ext.tr x_26 (Ext.tr x_31 (Ext.tr x_35 (Ext.tr x_40 x_44))))
  have OC_15 := OC_15.mod m_46 (fun q hq h => by have hb := List.mem_singleton.1 h; exfalso; (have := lo_17 q hq; omega))
  have OC_15 := OC_15.later x_51
  have OC_15 := OC_15.mod m_53 (fun q hq h => by have hb := List.mem_singleton.1 h; exfalso; (have := lo_17 q hq; omega))
  have OC_15 := OC_15.later (Ext.tr x_58 (Ext.tr x_61 (Ext.tr x_66 (Ext.tr x_70 (Ext.tr x_75 x_79)))))
  have OC_15 := OC_15.mod m_81 (fun q hq h => by have hb := List.mem_singleton.1 h; exfalso; (have := lo_17 q hq; omega))
  have OC_15 := OC_15.later x_86
  have OC_15 := OC_15.mod m_88 (fun q hq h => by have hb := List.mem_singleton.1 h; exfalso; (have := lo_17 q hq; omega))
  have OC_15 := OC_15.later x_93
  have OC_15 := OC_15.mod m_96 (fun q hq h => by have hb := List.mem_singleton.1 h; exfalso; (have := lo_17 q hq; omega))
  have OC_27 := OC_27.later (Ext.tr x_35 (Ext.tr x_40 x_44))
  have OC_27 := OC_27.mod m_46 (fun q hq h => by have hb := List.mem_singleton.1 h; exfalso; (have := lo_29 q hq; omega))
  have OC_27 := OC_27.later x_51
  have OC_27 := OC_27.mod m_53 (fun q hq h => by have hb := List.mem_singleton.1 h; exfalso; (have := lo_29 q hq; omega))
  have OC_27 := OC_27.later (Ext.tr x_58 (Ext.tr x_61 (Ext.tr x_66 (Ext.tr x_70 (Ext.tr x_75 x_79)))))
  have OC_27 := OC_27.mod m_81 (fun q hq h => by have hb := List.mem_singleton.1 h; exfalso; (have := lo_29 q hq; omega))
  have OC_27 := OC_27.later x_86
  have OC_27 := OC_27.mod m_88 (fun q hq h => by have hb := List.mem_singleton.1 h; exfalso; (have := lo_29 q hq; omega))
  have OC_27 := OC_27.later x_93
  have OC_27 := OC_27.mod m_96 (fun q hq h => by have hb := List.mem_singleton.1 h; exfalso; (have := lo_29 q hq; omega))
  have OC_36 := OC_36.later x_44
  have OC_36 := OC_36.mod m_46 (fun q hq h => by have hb := List.mem_singleton.1 h; exfalso; (have := lo_38 q hq; omega))
  have OC_36 := OC_36.later x_51
  have OC_36 := OC_36.mod m_53 (fun q hq h => by have hb := List.mem_singleton.1 h; exfalso; (have := lo_38 q hq; omega))
  have OC_36 := OC_36.later (Ext.tr x_58 (Ext.tr x_61 (Ext.tr x_66 (Ext.tr x_70 (Ext.tr x_75 x_79)))))
  have OC_36 := OC_36.mod m_81 (fun q hq h => by have hb := List.mem_singleton.1 h; exfalso; (have := lo_38 q hq; omega))
  have OC_36 := OC_36.later x_86
  have OC_36 := OC_36.mod m_88 (fun q hq h => by have hb := List.mem_singleton.1 h; exfalso; (have := lo_38 q hq; omega))
  have OC_36 := OC_36.later x_93
  have OC_36 := OC_36.mod m_96 (fun q hq h => by have hb := List.mem_singleton.1 h; exfalso; (have := lo_38 q hq; omega))
  have OC_62 := OC_62.later (Ext.tr x_70 (Ext.tr x_75 x_79))
  have OC_62 := OC_62.mod m_81 (fun q hq h => by have hb := List.mem_singleton.1 h; exfalso; (have := lo_64 q hq; omega))
  have OC_62 := OC_62.later x_86
  have OC_62 := OC_62.mod m_88 (fun q hq h => by have hb := List.mem_singleton.1 h; exfalso; (have := lo_64 q hq; omega))
  have OC_62 := OC_62.later x_93
  have OC_62 := OC_62.mod m_96 (fun q hq h => by have hb := List.mem_singleton.1 h; exfalso; (have := lo_64 q hq; omega))
  have OC_71 := OC_71.later x_79
  have OC_71 := OC_71.mod m_81 (fun q hq h => by have hb := List.mem_singleton.1 h; exfalso; (have := lo_73 q hq; omega))
  have OC_71 := OC_71.later x_86
  have OC_71 := OC_71.mod m_88 (fun q hq h => by have hb := List.mem_singleton.1 h; exfalso; (have := lo_73 q hq; omega))
  have OC_71 := OC_71.later x_93
  have OC_71 := OC_71.mod m_96 (fun q hq h => by have hb := List.mem_singleton.1 h; exfalso; (have := lo_73 q hq; omega))
  have hR := WOwn.of5 (Z := w.heap.size) (OC_15.down (by omega)) (OC_27.down (by omega)) (OC_36.down (by omega)) (OC_62.down (by omega)) (OC_71.down (by omega)) (fun q h1 h2 => by exfalso; (have := lo_29 q h1; (have := u_16 q h2; omega))) (fun q h1 h2 => by exfalso; (have := lo_38 q h1; (have := u_16 q h2; omega))) (fun q h1 h2 => by exfalso; (have := lo_38 q h1; (have := u_28 q h2; omega))) (fun q h1 h2 => by exfalso; (have := lo_64 q h1; (have := u_16 q h2; omega))) (fun q h1 h2 => by exfalso; (have := lo_64 q h1; (have := u_28 q h2; omega))) (fun q h1 h2 => by exfalso; (have := lo_64 q h1; (have := u_37 q h2; omega))) (fun q h1 h2 => by exfalso; (have := lo_73 q h1; (have := u_16 q h2; omega))) (fun q h1 h2 => by exfalso; (have := lo_73 q h1; (have := u_28 q h2; omega))) (fun q h1 h2 => by exfalso; (have := lo_73 q h1; (have := u_37 q h2; omega))) (fun q h1 h2 => by exfalso; (have := lo_73 q h1; (have := u_63 q h2; omega))) hW.nums
  exact ⟨⟨A_15, A_27, A_36, A_62, A_71, c_15, c_27, c_36, c_62, c_71⟩, rfl, hR, z_95⟩
set_option maxRecDepth 100000 in
set_option maxHeartbeats 400000 in
theorem mstep_any (a : Wd.At) (W : Wd) (A : Option Addr) (c : Nat) (l : List Gox) (w : World) (hW : Wd.Has w a W) (hl : Gox.rep.SHas 24 w A c l) :
    Calls Try.prog 28 #[.agg ((Wd.cells a W).toArray), .slice A l.length c] w (fun e w' => ∃ a' A' c', e = .returned (.tuple #[.agg (Wd.cells a' (marchW W l)).toArray, .slice A' (marchM W l).length c', .int .i64 (marchE W l)]) ∧ WOwn w' w.heap.size a' (marchW W l) ∧ repI.SOwn 3 8 w' w.heap.size (Rep.blkOf A') A' c' (marchM W l) ∧ (∀ q ∈ Rep.blkOf A', q ∉ WOwn.foot a') ∧ Ext w w') := by
  refine calls_W (n := 26) Try.func28 rfl rfl rfl ?_
  refine sq <| rg <| bx rfl rfl rfl rfl fun w_1 b_2 x_3 l_4 B_5 => ?_
  have q_6 := x_3.size
  have z_1 := Ext.tr (Ext.rf w) x_3
  have q_7 := B_5.lt
  refine al rfl Mrs_zv_api_World rfl rfl fun w_8 b_9 x_10 l_11 B_12 => ?_
  have q_13 := x_10.size
  have z_8 := Ext.tr z_1 x_10
  have q_14 := B_12.lt
  refine vl (as_ rfl) rfl <| vl (as_ rfl) rfl <| nl <| nT <| sq <| sq <| rg <| ?_
  have B_5 := B_5.later x_10
  refine vl (ld rfl (B_5.all Mrs_ag_api_World Mrs_sz_api_World)) rfl <| ca Mrs_en_troop_Check rfl rfl ((check_any a W _ (hW.keep z_8)).mono ?_)
  rintro e w_15 ⟨rfl, x_16⟩
  refine ⟨_, rfl, ?_⟩
  have q_17 := x_16.size
  have z_15 := Ext.tr z_8 x_16
  refine vl (as_ rfl) rfl <| nl <| nT <| sq <| rg <| vl (mv rfl) rfl <| vl (bne rfl rfl) rfl <| nl <| nT <| ?_
  refine cne rfl (fun h_18 => ?_) (fun h_18 => ?_)
  · refine sq <| rg <| vl (v := .agg #[.int .i64 0, .int .i64 0, .slice none 0 0, .slice none 0 0, .slice none 0 0, .slice none 0 0, .slice none 0 0, .int .i64 0, .int .i64 0]) (bd rfl (by kernel_rfl)) rfl <| vl (mv rfl) rfl <| ?_
    have B_12 := B_12.later x_16
    refine st (new := [.int .i64 0, .int .i64 0, .slice none 0 0, .slice none 0 0, .slice none 0 0, .slice none 0 0, .slice none 0 0, .int .i64 0, .int .i64 0]) rfl rfl B_12 rfl Mrs_sz_api_World rfl rfl rfl fun w_19 m_20 B_12 => ?_
    have q_22 := m_20.size
    have z_19 := Ext.mod z_15 m_20 (by simp only [List.mem_singleton, forall_eq]; omega)
    have q_21 := m_20.size
    refine vl (as_ rfl) rfl <| vl (as_ rfl) rfl <| nl <| nT <| rt <| tT <| tR (.cell rfl (B_12.all Mrs_ag_api_World Mrs_sz_api_World) (.tmp rfl (.tmp rfl .nil))) <| ?_
    obtain ⟨e1, e2, e3⟩ := march_bad (l := l) h_18
    exact ⟨⟨none, none, none, none, none, 0, 0, 0, 0, 0⟩, none, 0, by rw [e1, e2, e3]; rfl, by rw [e2]; exact WOwn.zero _ _, by rw [e3]; exact Rep.SOwn.nil _, fun q hq => by simp [Rep.blkOf] at hq, z_19⟩
  · have hG := Good.of_chk h_18
    have hnt := hG.nt
    refine sk <| nT <| sq <| sq <| rg <| vl (mv rfl) rfl <| vl (ln Try.underlying50 rfl) rfl <| vl (bgt rfl rfl) rfl <| nl <| nT <| ?_
    refine clt rfl (fun h_23 => ?_) (fun h_23 => ?_)
    · refine sq <| rg <| vl (v := .agg #[.int .i64 0, .int .i64 0, .slice none 0 0, .slice none 0 0, .slice none 0 0, .slice none 0 0, .slice none 0 0, .int .i64 0, .int .i64 0]) (bd rfl (by kernel_rfl)) rfl <| ?_
      have B_12 := B_12.later x_16
      refine st (new := [.int .i64 0, .int .i64 0, .slice none 0 0, .slice none 0 0, .slice none 0 0, .slice none 0 0, .slice none 0 0, .int .i64 0, .int .i64 0]) rfl rfl B_12 rfl Mrs_sz_api_World rfl rfl rfl fun w_24 m_25 B_12 => ?_
      have q_27 := m_25.size
      have z_24 := Ext.mod z_15 m_25 (by simp only [List.mem_singleton, forall_eq]; omega)
      have q_26 := m_25.size
      refine vl (as_ rfl) rfl <| vl (as_ rfl) rfl <| nl <| nT <| rt <| tT <| tR (.cell rfl (B_12.all Mrs_ag_api_World Mrs_sz_api_World) (.tmp rfl (.tmp rfl .nil))) <| ?_
      obtain ⟨e1, e2, e3⟩ := march_many (l := l) h_18 (by omega)
      exact ⟨⟨none, none, none, none, none, 0, 0, 0, 0, 0⟩, none, 0, by rw [e1, e2, e3]; rfl, by rw [e2]; exact WOwn.zero _ _, by rw [e3]; exact Rep.SOwn.nil _, fun q hq => by simp [Rep.blkOf] at hq, z_24⟩
    · refine sk <| nT <| sq <| rg <| ?_
      have B_5 := B_5.later x_16
      refine vl (ld rfl (B_5.all Mrs_ag_api_World Mrs_sz_api_World)) rfl <| ca Mrs_en_march_own rfl rfl ((mown_any a W _ (hW.keep z_15)).mono ?_)
      rintro e w_31 ⟨a28, rfl, HO28, x_32⟩
      refine ⟨_, rfl, ?_⟩
      have q_33 := x_32.size
      have z_31 := Ext.tr z_15 x_32
      have u_29 := fun q hq => (HO28.lt q hq).2
      have lo_30 := fun q hq => (HO28.lt q hq).1
      have B_5 := B_5.later x_32
      refine st rfl rfl B_5 rfl Mrs_sz_api_World rfl rfl rfl fun w_34 m_35 B_5 => ?_
      have q_37 := m_35.size
      have z_34 := Ext.mod z_31 m_35 (by simp only [List.mem_singleton, forall_eq]; omega)
      have q_36 := m_35.size
      refine nl <| nT <| sq <| rg <| vl (ld rfl (B_5.all Mrs_ag_api_World Mrs_sz_api_World)) rfl <| vl (mv rfl) rfl <| ?_
      have HO28 := HO28.mod m_35 (fun q hq h => by have hb := List.mem_singleton.1 h; exfalso; (have := lo_30 q hq; omega))
      refine ca Mrs_en_march_stepped rfl rfl ((mstep_own _ a28 W _ _ l _ HO28 (hl.keep z_34) (fun h0 q hq hb => by have h1 := hl.ltb (by decide) h0 q hq; have h2 := lo_30 q (foot_T hb); omega) (by omega)).mono ?_)
      rintro e w_42 ⟨A38, c38, rfl, OM38, HS38, m_41⟩
      refine ⟨_, rfl, ?_⟩
      have q_43 := m_41.size
      have z_42 := Ext.mod z_34 m_41 (fun q hq => by have h_ := lo_30 q (foot_T hq); omega)
      rw [stepped_cells a28 W l] at B_5
      have u_39 := fun q hq => (OM38.lt q hq).2
      have lo_40 := fun q hq => (OM38.lt q hq).1
      have u_38 := fun q hq => (HS38.lt q hq).2
      have hln38 := stepped_len W l
      refine vl (as_ rfl) rfl <| nl <| nT <| sq <| rg <| ?_
      have d_44 : ∀ q ∈ Rep.blkOf a28.T, q = b_2 → False := fun q hq hb => by (have := lo_30 q (foot_T hq); omega)
      have B_5 := B_5.mod m_41 (fun hq => d_44 _ hq rfl)
      refine vl (ld rfl (B_5.all Mrs_ag_api_World Mrs_sz_api_World)) rfl <| vl (mv rfl) rfl <| ?_
      have B_12 := B_12.later (Ext.tr x_16 x_32)
      have B_12 := B_12.mod m_35 (by simp only [List.mem_singleton]; omega)
      have d_45 : ∀ q ∈ Rep.blkOf a28.T, q = b_9 → False := fun q hq hb => by (have := lo_30 q (foot_T hq); omega)
      have B_12 := B_12.mod m_41 (fun hq => d_45 _ hq rfl)
      refine st rfl rfl B_12 rfl Mrs_sz_api_World rfl rfl rfl fun w_46 m_47 B_12 => ?_
      have q_49 := m_47.size
      have z_46 := Ext.mod z_42 m_47 (by simp only [List.mem_singleton, forall_eq]; omega)
      have q_48 := m_47.size
      refine vl (as_ rfl) rfl <| vl (as_ rfl) rfl <| nl <| nT <| rt <| tR (.cell rfl (B_12.all Mrs_ag_api_World Mrs_sz_api_World) (.tmp rfl (.tmp rfl .nil))) <| ?_
      have HS38 := HS38.mod m_47 (fun q hq h => by have hb := List.mem_singleton.1 h; exfalso; (have := lo_30 q hq; omega))
      have OM38 := OM38.mod m_47 (fun q hq h => by have hb := List.mem_singleton.1 h; exfalso; (have := lo_40 q hq; omega))
      obtain ⟨e1, e2, e3⟩ := march_ok (l := l) h_18 (by omega)
      exact ⟨a28, A38, c38, by rw [e1, e2, e3]; rfl, by rw [e2]; exact HS38.down (by omega), by rw [e3]; exact OM38.down (by omega), fun q hq hf => by (have := lo_40 q hq; (have := u_29 q hf; omega)), z_46⟩
set_option maxRecDepth 100000 in
set_option maxHeartbeats 400000 in
theorem mreach_any (a : Wd.At) (W : Wd) (id n : Int) (to : Cel) (w : World) (hW : Wd.Has w a W) (hid : okI id) (hto : to.ok) :
    Calls Try.prog 39 #[.agg ((Wd.cells a W).toArray), .int .i64 id, .agg #[.int .i64 to.x, .int .i64 to.y], .int .i64 n] w (fun e w' => ∃ a', e = .returned (.tuple #[.agg (Wd.cells a' (reachW W id to n)).toArray, .int .i64 (reachN W id to n : Int), .int .i64 (reachE W id n)]) ∧ WOwn w' w.heap.size a' (reachW W id to n) ∧ Ext w w') := by
  refine calls_W (n := 58) Try.func39 rfl rfl rfl ?_
  refine sq <| rg <| bx rfl rfl rfl rfl fun w_1 b_2 x_3 l_4 B_5 => ?_
  have q_6 := x_3.size
  have z_1 := Ext.tr (Ext.rf w) x_3
  have q_7 := B_5.lt
  refine bx rfl rfl rfl rfl fun w_8 b_9 x_10 l_11 B_12 => ?_
  have q_13 := x_10.size
  have z_8 := Ext.tr z_1 x_10
  have q_14 := B_12.lt
  refine al rfl Mrs_zv_api_World rfl rfl fun w_15 b_16 x_17 l_18 B_19 => ?_
  have q_20 := x_17.size
  have z_15 := Ext.tr z_8 x_17
  have q_21 := B_19.lt
  refine vl (as_ rfl) rfl <| vl (as_ rfl) rfl <| nl <| nT <| sq <| rg <| ?_
  have B_5 := B_5.later (Ext.tr x_10 x_17)
  refine vl (ld rfl (B_5.all Mrs_ag_api_World Mrs_sz_api_World)) rfl <| vl (mv rfl) rfl <| ca Mrs_en_troop_Find rfl rfl ((find_any id a W _ (hW.keep z_15)).mono ?_)
  rintro e w_22 ⟨rfl, x_23⟩
  refine ⟨_, rfl, ?_⟩
  have q_24 := x_23.size
  have z_22 := Ext.tr z_15 x_23
  refine vl (mv rfl) rfl <| vl (ex rfl rfl) rfl <| vl (ex rfl rfl) rfl <| vl (ex rfl rfl) rfl <| vl (as_ rfl) rfl <| vl (as_ rfl) rfl <| vl (as_ rfl) rfl <| nl <| nT <| sq <| bk <| sq <| rg <| vl (mv rfl) rfl <| vl (bne rfl rfl) rfl <| vl (as_ rfl) rfl <| nl <| nT <| ?_
  refine cne rfl (fun h_25 => ?_) (fun h_25 => ?_)
  · have k_26 : (W.chk != 0) = true := by simpa using h_25
    refine sk <| nB <| nT <| sq <| sq <| rg <| vl (mv rfl) rfl <| vl (bne rfl rfl) rfl <| nl <| nT <| cT (evb rfl k_26) <| sq <| rg <| vl (v := .agg #[.int .i64 0, .int .i64 0, .slice none 0 0, .slice none 0 0, .slice none 0 0, .slice none 0 0, .slice none 0 0, .int .i64 0, .int .i64 0]) (bd rfl (by kernel_rfl)) rfl <| vl (mv rfl) rfl <| ?_
    have B_19 := B_19.later x_23
    refine st (new := [.int .i64 0, .int .i64 0, .slice none 0 0, .slice none 0 0, .slice none 0 0, .slice none 0 0, .slice none 0 0, .int .i64 0, .int .i64 0]) rfl rfl B_19 rfl Mrs_sz_api_World rfl rfl rfl fun w_27 m_28 B_19 => ?_
    have q_30 := m_28.size
    have z_27 := Ext.mod z_22 m_28 (by simp only [List.mem_singleton, forall_eq]; omega)
    have q_29 := m_28.size
    refine vl (as_ rfl) rfl <| vl (as_ rfl) rfl <| nl <| nT <| rt <| tT <| tR (.cell rfl (B_19.all Mrs_ag_api_World Mrs_sz_api_World) (.tmp rfl (.tmp rfl .nil))) <| ?_
    obtain ⟨e1, e2, e3⟩ := reach_bad (to := to) (id := id) (n := n) h_25
    exact ⟨⟨none, none, none, none, none, 0, 0, 0, 0, 0⟩, by rw [e1, e2, e3]; rfl, by rw [e2]; exact WOwn.zero _ _, z_27⟩
  · have k_31 : (W.chk != 0) = false := by simpa using h_25
    have hG := Good.of_chk h_25
    have hnt := hG.nt
    refine sq <| rg <| vl (mv rfl) rfl <| vl (blt rfl rfl) rfl <| vl (mv rfl) rfl <| vQ rfl rfl rfl rfl (fun hc => mv rfl) rfl <| vQ rfl rfl rfl rfl (fun hc => bgt (gt hc rfl) rfl) rfl <| vl (pO rfl rfl rfl rfl) rfl <| vl (as_ rfl) rfl <| nl <| nT <| ?_
    refine cb rfl (fun h_32 => ?_) (fun h_32 => ?_)
    · simp only [Bool.or_eq_true, Bool.or_eq_false_iff, Bool.and_eq_true, Bool.and_eq_false_iff, decide_eq_true_eq, decide_eq_false_iff_not, beq_iff_eq, bne_iff_ne, beq_eq_false_iff_ne, bne_eq_false_iff_eq, Bool.not_eq_true', Bool.not_eq_false', Bool.not_eq_true, Bool.not_eq_false, Int.not_lt, Int.not_le, Nat.not_lt, Nat.not_le, ne_eq, Classical.not_not] at h_32
      refine rg <| vl (as_ rfl) rfl <| nl <| nB <| nT <| sq <| sq <| rg <| vl (mv rfl) rfl <| vl (bne rfl rfl) rfl <| nl <| nT <| cT rfl <| sq <| rg <| vl (v := .agg #[.int .i64 0, .int .i64 0, .slice none 0 0, .slice none 0 0, .slice none 0 0, .slice none 0 0, .slice none 0 0, .int .i64 0, .int .i64 0]) (bd rfl (by kernel_rfl)) rfl <| vl (mv rfl) rfl <| ?_
      have B_19 := B_19.later x_23
      refine st (new := [.int .i64 0, .int .i64 0, .slice none 0 0, .slice none 0 0, .slice none 0 0, .slice none 0 0, .slice none 0 0, .int .i64 0, .int .i64 0]) rfl rfl B_19 rfl Mrs_sz_api_World rfl rfl rfl fun w_33 m_34 B_19 => ?_
      have q_36 := m_34.size
      have z_33 := Ext.mod z_22 m_34 (by simp only [List.mem_singleton, forall_eq]; omega)
      have q_35 := m_34.size
      refine vl (as_ rfl) rfl <| vl (as_ rfl) rfl <| nl <| nT <| rt <| tT <| tR (.cell rfl (B_19.all Mrs_ag_api_World Mrs_sz_api_World) (.tmp rfl (.tmp rfl .nil))) <| ?_
      obtain ⟨e1, e2, e3⟩ := reach_out (n := n) (to := to) (id := id) h_25 (by omega)
      exact ⟨⟨none, none, none, none, none, 0, 0, 0, 0, 0⟩, by rw [e1, e2, e3]; rfl, by rw [e2]; exact WOwn.zero _ _, z_33⟩
    · simp only [Bool.or_eq_true, Bool.or_eq_false_iff, Bool.and_eq_true, Bool.and_eq_false_iff, decide_eq_true_eq, decide_eq_false_iff_not, beq_iff_eq, bne_iff_ne, beq_eq_false_iff_ne, bne_eq_false_iff_eq, Bool.not_eq_true', Bool.not_eq_false', Bool.not_eq_true, Bool.not_eq_false, Int.not_lt, Int.not_le, Nat.not_lt, Nat.not_le, ne_eq, Classical.not_not] at h_32
      refine sq <| rg <| vl (mv rfl) rfl <| vl (nt rfl) rfl <| vl (as_ rfl) rfl <| nl <| nT <| ?_
      refine cb rfl (fun h_37 => ?_) (fun h_37 => ?_)
      · simp only [Bool.or_eq_true, Bool.or_eq_false_iff, Bool.and_eq_true, Bool.and_eq_false_iff, decide_eq_true_eq, decide_eq_false_iff_not, beq_iff_eq, bne_iff_ne, beq_eq_false_iff_ne, bne_eq_false_iff_eq, Bool.not_eq_true', Bool.not_eq_false', Bool.not_eq_true, Bool.not_eq_false, Int.not_lt, Int.not_le, Nat.not_lt, Nat.not_le, ne_eq, Classical.not_not] at h_37
        refine rg <| vl (as_ rfl) rfl <| nl <| nB <| nT <| sq <| sq <| rg <| vl (mv rfl) rfl <| vl (bne rfl rfl) rfl <| nl <| nT <| cT rfl <| sq <| rg <| vl (v := .agg #[.int .i64 0, .int .i64 0, .slice none 0 0, .slice none 0 0, .slice none 0 0, .slice none 0 0, .slice none 0 0, .int .i64 0, .int .i64 0]) (bd rfl (by kernel_rfl)) rfl <| vl (mv rfl) rfl <| ?_
        have B_19 := B_19.later x_23
        refine st (new := [.int .i64 0, .int .i64 0, .slice none 0 0, .slice none 0 0, .slice none 0 0, .slice none 0 0, .slice none 0 0, .int .i64 0, .int .i64 0]) rfl rfl B_19 rfl Mrs_sz_api_World rfl rfl rfl fun w_38 m_39 B_19 => ?_
        have q_41 := m_39.size
        have z_38 := Ext.mod z_22 m_39 (by simp only [List.mem_singleton, forall_eq]; omega)
        have q_40 := m_39.size
        refine vl (as_ rfl) rfl <| vl (as_ rfl) rfl <| nl <| nT <| rt <| tT <| tR (.cell rfl (B_19.all Mrs_ag_api_World Mrs_sz_api_World) (.tmp rfl (.tmp rfl .nil))) <| ?_
        obtain ⟨e1, e2, e3⟩ := reach_gone (n := n) (to := to) (id := id) h_25 (by omega) h_37
        exact ⟨⟨none, none, none, none, none, 0, 0, 0, 0, 0⟩, by rw [e1, e2, e3]; rfl, by rw [e2]; exact WOwn.zero _ _, z_38⟩
      · simp only [Bool.or_eq_true, Bool.or_eq_false_iff, Bool.and_eq_true, Bool.and_eq_false_iff, decide_eq_true_eq, decide_eq_false_iff_not, beq_iff_eq, bne_iff_ne, beq_eq_false_iff_ne, bne_eq_false_iff_eq, Bool.not_eq_true', Bool.not_eq_false', Bool.not_eq_true, Bool.not_eq_false, Int.not_lt, Int.not_le, Nat.not_lt, Nat.not_le, ne_eq, Classical.not_not] at h_37
        refine sk <| nB <| nT <| sq <| sq <| rg <| vl (mv rfl) rfl <| vl (bne rfl rfl) rfl <| nl <| nT <| cF (evb rfl k_31) <| sk <| nT <| sq <| rg <| ?_
        have B_5 := B_5.later x_23
        refine vl (ld rfl (B_5.all Mrs_ag_api_World Mrs_sz_api_World)) rfl <| ca Mrs_en_march_own rfl rfl ((mown_any a W _ (hW.keep z_22)).mono ?_)
        rintro e w_45 ⟨a42, rfl, HO42, x_46⟩
        refine ⟨_, rfl, ?_⟩
        have q_47 := x_46.size
        have z_45 := Ext.tr z_22 x_46
        have u_43 := fun q hq => (HO42.lt q hq).2
        have lo_44 := fun q hq => (HO42.lt q hq).1
        have B_5 := B_5.later x_46
        refine st rfl rfl B_5 rfl Mrs_sz_api_World rfl rfl rfl fun w_48 m_49 B_5 => ?_
        have q_51 := m_49.size
        have z_48 := Ext.mod z_45 m_49 (by simp only [List.mem_singleton, forall_eq]; omega)
        have q_50 := m_49.size
        refine nl <| nT <| sq <| rg <| vl (as_ rfl) rfl <| nl <| nT <| sq <| bk <| ?_
        have hre := reach_let (n := n) (id := id) h_25 (by omega) (by omega) h_37
        have HO42 := HO42.mod m_49 (fun q hq h => by have hb := List.mem_singleton.1 h; exfalso; (have := lo_44 q hq; omega))
        have B_12 := B_12.later (Ext.tr x_17 (Ext.tr x_23 x_46))
        have B_12 := B_12.mod m_49 (by simp only [List.mem_singleton]; omega)
        have B_19 := B_19.later (Ext.tr x_23 x_46)
        have B_19 := B_19.mod m_49 (by simp only [List.mem_singleton]; omega)
        refine lp (fun mI EI wI => ∃ k : Nat, ∃ V : Wd, EI = [(1, .int .i64 id), (3, .int .i64 n), (4, .pointer (some ⟨b_2, 0, none⟩)), (6, .pointer (some ⟨b_9, 0, none⟩)), (8, .pointer (some ⟨b_16, 0, none⟩)), (9, .int .i64 0), (10, .int .i64 0), (14, .int .i64 (k : Int))] ∧ mI = n.toNat - k ∧ Ext w wI ∧ Blk wI b_9 [.int .i64 to.x, .int .i64 to.y] 32 (0, 0) ∧ Blk wI b_16 [.int .i64 0, .int .i64 0, .slice none 0 0, .slice none 0 0, .slice none 0 0, .slice none 0 0, .slice none 0 0, .int .i64 0, .int .i64 0] 49 (0, 0) ∧ WOwn wI w_22.heap.size a42 V ∧ Blk wI b_2 (Wd.cells a42 V) 49 (0, 0) ∧ (k ≤ n.toNat) ∧ (V.troops.length = W.troops.length) ∧ (reachK ⟨id, ⟨to.x, to.y⟩⟩ (n.toNat - k) V + k = reachK ⟨id, ⟨to.x, to.y⟩⟩ n.toNat W) ∧ (reachV ⟨id, ⟨to.x, to.y⟩⟩ (n.toNat - k) V = reachV ⟨id, ⟨to.x, to.y⟩⟩ n.toNat W)) _ _ ⟨0, W, rfl, rfl, z_48, B_12, B_19, HO42, B_5, by omega, rfl, rfl, rfl⟩ (.cons rfl (.cons rfl (.cons rfl (.cons rfl (.cons rfl (.cons rfl (.cons rfl (.cons (loI rfl (by first | omega | rfl | (simp <;> omega))) .nil)))))))) ?_
        rintro m_53 E_54 w_52 ⟨k, V, rfl, rfl, z_52, B_12, B_19, HV, BV, hk, hVn, hQ, hR⟩
        have q_55 := z_52.size
        have q_56 := B_12.lt
        have q_57 := B_19.lt
        have u_58 := fun q hq => (HV.lt q hq).2
        have q_59 := BV.lt
        refine sq <| sq <| ?_
        rcases Int.lt_or_le (k : Int) n with hlt | hlt
        · have kn : decide ((k : Int) < n) = true := decide_eq_true hlt
          refine rg <| vl (mv rfl) rfl <| vl (mv rfl) rfl <| vl (blt rfl rfl) rfl <| vl (mv (evb rfl kn)) rfl <| ug rfl rfl rfl <| vl (ld rfl (BV.all Mrs_ag_api_World Mrs_sz_api_World)) rfl <| ug rfl rfl rfl <| vl (mv rfl) rfl <| ug rfl rfl rfl <| vl (ld rfl (B_12.all Mrs_ag_api_Cell Mrs_sz_api_Cell)) rfl <| ug rfl rfl rfl <| vl (v := .agg #[.int .i64 id, .int .i64 to.x, .int .i64 to.y]) (bd rfl (by kernel_rfl)) rfl <| ug rfl rfl rfl <| bs (e := 53) (cs := [.int .i64 id, .int .i64 to.x, .int .i64 to.y]) rfl (fun _ => by kernel_rfl) rfl fun w_60 b_61 x_62 l_63 B_64 => ?_
          have q_65 := x_62.size
          have z_60 := Ext.tr z_52 x_62
          have q_66 := B_64.lt
          refine ug rfl rfl rfl <| ?_
          have HV := HV.later x_62
          refine ca Mrs_en_march_stepped rfl rfl ((mstep_own _ a42 V _ _ ([(⟨id, ⟨to.x, to.y⟩⟩ : Gox)]) _ HV (Blk.hasN (R := Gox.rep) (by_ := 24) (k := [(⟨id, ⟨to.x, to.y⟩⟩ : Gox)]) B_64 [[.int .i64 id, .int .i64 to.x, .int .i64 to.y]] rfl (⟨⟨rfl, ⟨hid, hto.1, hto.2⟩⟩, trivial⟩) (by simp) (by simp)) (fun _ q hq hb => by (have hq : q = b_61 := List.mem_singleton.1 hq; (have := u_58 q (foot_T hb); omega))) (by omega)).mono ?_)
          rintro e w_71 ⟨A67, c67, rfl, OM67, HS67, m_70⟩
          refine ⟨_, rfl, ?_⟩
          have q_72 := m_70.size
          have z_71 := Ext.mod z_60 m_70 (fun q hq => by have h_ := lo_44 q (foot_T hq); omega)
          rw [stepped_cells a42 V ([(⟨id, ⟨to.x, to.y⟩⟩ : Gox)])] at BV
          have u_68 := fun q hq => (OM67.lt q hq).2
          have lo_69 := fun q hq => (OM67.lt q hq).1
          have u_67 := fun q hq => (HS67.lt q hq).2
          have hln67 := stepped_len V ([(⟨id, ⟨to.x, to.y⟩⟩ : Gox)])
          refine ug rfl rfl rfl <| vl (ln Try.underlying22 rfl) rfl <| ug rfl rfl rfl <| vl (bgt rfl rfl) rfl <| vl (pkT rfl rfl) rfl <| nl <| nT <| ?_
          refine clt rfl (fun h_73 => ?_) (fun h_73 => ?_)
          · refine sk <| nT <| bk <| rg <| vl (mv rfl) rfl <| vl (bad rfl rfl (inI (by omega))) rfl <| vl (as_ rfl) rfl <| nl <| nB <| ?_
            obtain ⟨r1, r2⟩ := reach_more (g := ⟨id, ⟨to.x, to.y⟩⟩) (V := V) (n := n.toNat) (k := k) (by omega) (by show ¬ ((V.stepped [(⟨id, ⟨to.x, to.y⟩⟩ : Gox)]).2.length = 0); omega)
            have B_12 := B_12.later x_62
            have d_74 : ∀ q ∈ Rep.blkOf a42.T, q = b_9 → False := fun q hq hb => by (have := lo_44 q (foot_T hq); omega)
            have B_12 := B_12.mod m_70 (fun hq => d_74 _ hq rfl)
            have B_19 := B_19.later x_62
            have d_75 : ∀ q ∈ Rep.blkOf a42.T, q = b_16 → False := fun q hq hb => by (have := lo_44 q (foot_T hq); omega)
            have B_19 := B_19.mod m_70 (fun hq => d_75 _ hq rfl)
            have BV := BV.later x_62
            have d_76 : ∀ q ∈ Rep.blkOf a42.T, q = b_2 → False := fun q hq hb => by (have := lo_44 q (foot_T hq); omega)
            have BV := BV.mod m_70 (fun hq => d_76 _ hq rfl)
            exact nI _ _ ⟨k + 1, (V.stepped ([(⟨id, ⟨to.x, to.y⟩⟩ : Gox)])).1, rfl, rfl, z_71, B_12, B_19, HS67, BV, by omega, by rw [stepped_len]; exact hVn, (Eq.trans (by rw [r1]; exact by show reachK ⟨id, ⟨to.x, to.y⟩⟩ (n.toNat - (k + 1)) _ + (k + 1) = _; omega) hQ), r2.symm.trans hR⟩ (by omega) (.cons rfl (.cons rfl (.cons rfl (.cons rfl (.cons rfl (.cons rfl (.cons rfl (.cons (loI rfl (by first | omega | rfl | (simp <;> omega))) .nil))))))))
          · refine xt <| xT <| xK <| xB <| nT <| sq <| rg <| ?_
            have BV := BV.later x_62
            have d_77 : ∀ q ∈ Rep.blkOf a42.T, q = b_2 → False := fun q hq hb => by (have := lo_44 q (foot_T hq); omega)
            have BV := BV.mod m_70 (fun hq => d_77 _ hq rfl)
            refine vl (ld rfl (BV.all Mrs_ag_api_World Mrs_sz_api_World)) rfl <| vl (mv rfl) rfl <| ?_
            have B_19 := B_19.later x_62
            have d_78 : ∀ q ∈ Rep.blkOf a42.T, q = b_16 → False := fun q hq hb => by (have := lo_44 q (foot_T hq); omega)
            have B_19 := B_19.mod m_70 (fun hq => d_78 _ hq rfl)
            refine st rfl rfl B_19 rfl Mrs_sz_api_World rfl rfl rfl fun w_79 m_80 B_19 => ?_
            have q_82 := m_80.size
            have z_79 := Ext.mod z_71 m_80 (by simp only [List.mem_singleton, forall_eq]; omega)
            have q_81 := m_80.size
            refine vl (as_ rfl) rfl <| vl (as_ rfl) rfl <| nl <| nT <| rt <| tR (.cell rfl (B_19.all Mrs_ag_api_World Mrs_sz_api_World) (.tmp rfl (.tmp rfl .nil))) <| ?_
            have HS67 := HS67.mod m_80 (fun q hq h => by have hb := List.mem_singleton.1 h; exfalso; (have := lo_44 q hq; omega))
            obtain ⟨e1, e2, e3⟩ := reach_ok (to := to) hre
            obtain ⟨r1, r2⟩ := reach_stop (g := ⟨id, ⟨to.x, to.y⟩⟩) (V := V) (n := n.toNat) (k := k) (by omega) (by show (V.stepped [(⟨id, ⟨to.x, to.y⟩⟩ : Gox)]).2.length = 0; omega)
            rw [r1] at hQ
            rw [r2] at hR
            rw [Nat.zero_add] at hQ
            exact ⟨a42, by rw [e1, e2, e3, ← hR, ← hQ]; rfl, by rw [e2, ← hR]; exact HS67.down (by omega), z_79⟩
        · have kn : decide ((k : Int) < n) = false := decide_eq_false (by omega)
          refine rg <| vl (mv rfl) rfl <| vl (mv rfl) rfl <| vl (blt rfl rfl) rfl <| vl (mv (evb rfl kn)) rfl <| vQ (v := undef) rfl rfl rfl rfl (fun hc => nomatch hc) rfl <| vQ (v := undef) rfl rfl rfl rfl (fun hc => nomatch hc) rfl <| vQ (v := undef) rfl rfl rfl rfl (fun hc => nomatch hc) rfl <| vQ (v := undef) rfl rfl rfl rfl (fun hc => nomatch hc) rfl <| vQ (v := undef) rfl rfl rfl rfl (fun hc => nomatch hc) rfl <| vQ (v := undef) rfl rfl rfl rfl (fun hc => nomatch hc) rfl <| vQ (v := undef) rfl rfl rfl rfl (fun hc => nomatch hc) rfl <| vQ (v := undef) rfl rfl rfl rfl (fun hc => nomatch hc) rfl <| vl (pkF rfl rfl) rfl <| nl <| nT <| cF rfl <| xt <| xT <| xK <| xB <| nT <| sq <| rg <| ?_
          refine vl (ld rfl (BV.all Mrs_ag_api_World Mrs_sz_api_World)) rfl <| vl (mv rfl) rfl <| st rfl rfl B_19 rfl Mrs_sz_api_World rfl rfl rfl fun w_83 m_84 B_19 => ?_
          have q_86 := m_84.size
          have z_83 := Ext.mod z_52 m_84 (by simp only [List.mem_singleton, forall_eq]; omega)
          have q_85 := m_84.size
          refine vl (as_ rfl) rfl <| vl (as_ rfl) rfl <| nl <| nT <| rt <| tR (.cell rfl (B_19.all Mrs_ag_api_World Mrs_sz_api_World) (.tmp rfl (.tmp rfl .nil))) <| ?_
          have HV := HV.mod m_84 (fun q hq h => by have hb := List.mem_singleton.1 h; exfalso; (have := lo_44 q hq; omega))
          obtain ⟨e1, e2, e3⟩ := reach_ok (to := to) hre
          obtain ⟨r1, r2⟩ := reach_end (g := ⟨id, ⟨to.x, to.y⟩⟩) (V := V) (n := n.toNat) (k := k) (by omega)
          rw [r1] at hQ
          rw [r2] at hR
          rw [Nat.zero_add] at hQ
          exact ⟨a42, by rw [e1, e2, e3, ← hR, ← hQ]; rfl, by rw [e2, ← hR]; exact HV.down (by omega), z_83⟩
end Go.Proofs.Ytffjpfpbpnhmcaa
set_option linter.unusedVariables false
set_option linter.unusedSimpArgs false
namespace Go.Proofs.Ytffjpfpbpnhmcaa
open Go.RowKit

structure Ded where
  kind : Int
  who : Int
  spot : Cel
  what : Int
  deriving DecidableEq, Inhabited
namespace Ded
def cells (a : Ded) : List Value := [.int .i64 (a.kind), .int .i64 (a.who), .int .i64 (a.spot.x), .int .i64 (a.spot.y), .int .i64 (a.what)]
/-- Each number is one of its kind. -/
def ok (a : Ded) : Prop := (Lit.int .i64 a.kind).wf = true ∧ (Lit.int .i64 a.who).wf = true ∧ (Lit.int .i64 a.spot.x).wf = true ∧ (Lit.int .i64 a.spot.y).wf = true ∧ (Lit.int .i64 a.what).wf = true
def raw (j : Nat) (u : Value) : Prop := match j with
  | 0 => ∃ n : Int, u = .int .i64 n
  | 1 => ∃ n : Int, u = .int .i64 n
  | 2 => ∃ n : Int, u = .int .i64 n
  | 3 => ∃ n : Int, u = .int .i64 n
  | 4 => ∃ n : Int, u = .int .i64 n
  | _ => True
theorem cells_raw (a : Ded) : ∀ (j : Nat) u, a.cells[j]? = some u → raw j u := by
  intro j u hu
  match j, hu with
  | 0, hu => exact ⟨_, (Option.some.inj hu).symm⟩
  | 1, hu => exact ⟨_, (Option.some.inj hu).symm⟩
  | 2, hu => exact ⟨_, (Option.some.inj hu).symm⟩
  | 3, hu => exact ⟨_, (Option.some.inj hu).symm⟩
  | 4, hu => exact ⟨_, (Option.some.inj hu).symm⟩
  | j + 5, hu => exact trivial
theorem cells_one (a : Ded) : ∀ u ∈ a.cells, u.oneCell' = true := by
  intro u hu
  unfold cells at hu
  simp only [List.mem_cons, List.not_mem_nil, or_false] at hu
  rcases hu with rfl | rfl | rfl | rfl | rfl <;> rfl
def rep : Rep Ded := Rep.flat 5 cells ok raw (fun _ => rfl) cells_one cells_raw
theorem plain : rep.Plain := Rep.flat_plain
def zero : Value := .agg #[.int .i64 0, .int .i64 0, .int .i64 0, .int .i64 0, .int .i64 0]
/-- The cells of a slice of such. -/
theorem at_ {by_ : Nat} {w : World} {A : Option Addr} {c : Nat} {l : List Ded} (h : rep.SHas by_ w A c l) (h0 : 0 < l.length) :
    ∃ b o, A = some ⟨b, o, none⟩ ∧ ∀ (i : Nat) (a : Ded), l[i]? = some a → w.cell? ⟨b, o + i * 5, none⟩ = some (.int .i64 (a.kind)) ∧ w.cell? ⟨b, o + i * 5 + 1, none⟩ = some (.int .i64 (a.who)) ∧ w.cell? ⟨b, o + i * 5 + 2, none⟩ = some (.int .i64 (a.spot.x)) ∧ w.cell? ⟨b, o + i * 5 + 3, none⟩ = some (.int .i64 (a.spot.y)) ∧ w.cell? ⟨b, o + i * 5 + 4, none⟩ = some (.int .i64 (a.what)) := by
  obtain ⟨b, o, e, hc⟩ := h.at_ h0
  refine ⟨b, o, e, fun i a ha => ?_⟩
  obtain ⟨es, ⟨rfl, _⟩, hj⟩ := hc i a ha
  exact ⟨hj 0 _ rfl, hj 1 _ rfl, hj 2 _ rfl, hj 3 _ rfl, hj 4 _ rfl⟩
def sh : Sh := (.cons (.int .i64) (.cons (.int .i64) (.cons (.cons (.int .i64) (.cons (.int .i64) .nil)) (.cons (.int .i64) .nil))))
theorem opens (w : World) (cs : List Value) (h : sh.Ok w cs) : ∃ a, rep.has w cs a := by
  obtain ⟨_, _, rfl, _, _, ⟨x0, rfl, k0⟩, ⟨_, _, rfl, _, _, ⟨x1, rfl, k1⟩, ⟨_, _, rfl, _, _, ⟨_, _, rfl, _, _, ⟨x2, rfl, k2⟩, ⟨_, _, rfl, _, _, ⟨x3, rfl, k3⟩, rfl⟩⟩, ⟨_, _, rfl, _, _, ⟨x4, rfl, k4⟩, rfl⟩⟩⟩⟩ := h
  exact ⟨⟨x0, x1, ⟨x2, x3⟩, x4⟩, rfl, k0, k1, k2, k3, k4⟩
end Ded
end Go.Proofs.Ytffjpfpbpnhmcaa
set_option linter.unusedVariables false
set_option linter.unusedSimpArgs false
namespace Go.Proofs.Ytffjpfpbpnhmcaa
open Go.RowKit

def beside (a b : Cel) : Bool := inB b.x (a.x - 1) (a.x + 1) && inB b.y (a.y - 1) (a.y + 1)
namespace Wd
def place (W : Wd) (c : Cel) : Nat := (c.y * W.field.wide + c.x).toNat
def addLoad (t : Trp) (n : Int) : Trp := { t with load := t.load + n }
/-- A load is mined. -/
def mine (W : Wd) (d : Ded) : Option Wd :=
  match W.troops.findIdx? (isId d.who) with
  | none => none
  | some k =>
    let t := W.troops.getD k default
    let m := W.mines.getD (W.place d.spot) 0
    if t.kind == 1 && decide (t.load < 5) && beside t.spot d.spot && W.field.isIn d.spot && m != 0 then
      some { W with mines := W.mines.set (W.place d.spot) (m - 1), troops := W.troops.set k (addLoad t 1) }
    else none
/-- What is carried is brought in. -/
def drop (W : Wd) (d : Ded) : Option Wd :=
  match W.troops.findIdx? (isId d.who) with
  | none => none
  | some k =>
    let t := W.troops.getD k default
    let o := t.owner.toNat
    let s := W.stocks.getD o 0
    let n := min t.load (1000000 - s)
    if t.load != 0 && beside (W.bases.getD o default) t.spot && decide (0 < n) then
      some { W with stocks := W.stocks.set o (s + n), troops := W.troops.set k (addLoad t (-n)) }
    else none
/-- The cells around one, itself first. -/
def around (c : Cel) : List Cel :=
  [c, ⟨c.x - 1, c.y - 1⟩, ⟨c.x, c.y - 1⟩, ⟨c.x + 1, c.y - 1⟩, ⟨c.x - 1, c.y⟩, ⟨c.x, c.y⟩, ⟨c.x + 1, c.y⟩, ⟨c.x - 1, c.y + 1⟩, ⟨c.x, c.y + 1⟩, ⟨c.x + 1, c.y + 1⟩]
def openTo (W : Wd) (c : Cel) : Bool := W.field.ground c && !W.troops.any (isAt c)
def free (W : Wd) (c : Cel) : Option Cel := (around c).find? W.openTo
/-- A troop is made. -/
def hire (W : Wd) (d : Ded) : Option Wd :=
  let s := W.stocks.getD d.who.toNat 0
  if inB d.who 0 ((W.bases.length : Int) - 1) && inB d.what 1 2 && decide (priceOf d.what ≤ s) && decide (W.troops.length < 100) && decide (W.next < 1000000) then
    match W.free (W.bases.getD d.who.toNat default) with
    | none => none
    | some c => some { W with troops := W.troops ++ [⟨W.next, d.who, d.what, c, lifeOf d.what, 0⟩], next := W.next + 1, stocks := W.stocks.set d.who.toNat (s - priceOf d.what) }
  else none
def deed (W : Wd) (d : Ded) : Option Wd := if d.kind = 1 then W.mine d else if d.kind = 2 then W.drop d else if d.kind = 3 then W.hire d else none
def deeds (W : Wd) : List Ded → Wd × List Bool
  | [] => (W, [])
  | d :: l => match W.deed d with
    | some V => ((V.deeds l).1, true :: (V.deeds l).2)
    | none => ((W.deeds l).1, false :: (W.deeds l).2)
end Wd
theorem findId {l : List Trp} {id : Int} {k : Nat} (h : l.findIdx? (isId id) = some k) : ∃ t, l[k]? = some t ∧ t.id = id ∧ l.getD k default = t := by
  obtain ⟨h1, h2, _⟩ := List.findIdx?_eq_some_iff_getElem.1 h
  exact ⟨l[k], List.getElem?_eq_getElem h1, by simpa [isId] using h2, by rw [List.getD_eq_getElem?_getD, List.getElem?_eq_getElem h1]; rfl⟩
/-- A troop's load is other: all that a world asks of its troops stays. -/
theorem spots_set {W V : Wd} {k : Nat} {t u : Trp} (hV : V.troops = W.troops.set k u) (ht : W.troops[k]? = some t) (hs : u.spot = t.spot) (i : Nat) : V.spots i = W.spots i := by
  unfold Wd.spots
  rw [hV, List.take_set, List.map_set]
  by_cases hki : k < i
  · have h1 : ((W.troops.take i).map (·.spot))[k]? = some t.spot := by rw [List.getElem?_map, List.getElem?_take, if_pos hki, ht]; rfl
    obtain ⟨h2, h3⟩ := List.getElem?_eq_some_iff.1 h1
    rw [hs, ← h3]
    exact List.set_getElem_self _
  · rw [List.set_eq_of_length_le (by rw [List.length_map, List.length_take]; omega)]
theorem last_set {W V : Wd} {k : Nat} {t u : Trp} (hV : V.troops = W.troops.set k u) (ht : W.troops[k]? = some t) (hs : u.id = t.id) (i : Nat) : V.lastId i = W.lastId i := by
  unfold Wd.lastId
  by_cases hi : i = 0
  · rw [if_pos hi, if_pos hi]
  · rw [if_neg hi, if_neg hi, hV, List.getD_eq_getElem?_getD, List.getD_eq_getElem?_getD]
    by_cases hk : k = i - 1
    · subst hk
      rw [List.getElem?_set_self (List.getElem?_eq_some_iff.1 ht).1, ht]
      exact hs
    · rw [List.getElem?_set_ne hk]
theorem at_set {W V : Wd} {k : Nat} {t u : Trp} (hV : V.troops = W.troops.set k u) (ht : W.troops[k]? = some t) {i : Nat} {x : Trp} (hx : V.troops[i]? = some x) : (i = k ∧ x = u) ∨ (i ≠ k ∧ W.troops[i]? = some x) := by
  rw [hV] at hx
  by_cases hk : k = i
  · subst hk
    rw [List.getElem?_set_self (List.getElem?_eq_some_iff.1 ht).1] at hx
    exact .inl ⟨rfl, (Option.some.inj hx).symm⟩
  · rw [List.getElem?_set_ne hk] at hx
    exact .inr ⟨Ne.symm hk, hx⟩
/-- A world of which one troop carries other loads, and mines and stocks are other, is right. -/
theorem Good.turned {W V : Wd} (h : Good W) {k : Nat} {t : Trp} {n : Int} (ht : W.troops[k]? = some t) (hV : V.troops = W.troops.set k (Wd.addLoad t n)) (hl : 0 ≤ t.load + n ∧ t.load + n ≤ Wd.mostOf t.kind)
    (hf : V.field = W.field) (hb : V.bases = W.bases) (hn : V.next = W.next) (hw : V.now = W.now)
    (hsl : V.stocks.length = W.stocks.length) (hs : ∀ (i : Nat) s, V.stocks[i]? = some s → 0 ≤ s ∧ s ≤ 1000000)
    (hml : V.mines.length = W.mines.length) (hm : ∀ (i : Nat) m, V.mines[i]? = some m → 0 ≤ m ∧ m ≤ 1000000 ∧ (m ≤ 0 ∨ W.field.places.getD i 0 = 3)) : Good V := by
  have h1 := h.troops k t ht
  have hlen : V.troops.length = W.troops.length := by rw [hV, List.length_set]
  refine ⟨by rw [hf]; exact h.field, by rw [hb]; exact h.nb, by rw [hlen]; exact h.nt, by rw [hsl, hb]; exact h.sl, ?_, hs, by rw [hml, hf]; exact h.ml, by rw [hf]; exact hm, fun i x hx => ?_, fun i x hx => ?_, fun i x hx => ?_, by rw [hn]; exact h.next, by rw [hw]; exact h.now⟩
  · rw [hb, hf]; exact h.bases
  · rw [hf, hb]
    rcases at_set hV ht hx with ⟨rfl, rfl⟩ | ⟨_, hx⟩
    · exact ⟨h1.kind, h1.owner, h1.ground, h1.life, hl⟩
    · exact h.troops i x hx
  · rw [last_set hV ht rfl, hn]
    rcases at_set hV ht hx with ⟨rfl, rfl⟩ | ⟨_, hx⟩
    · exact h.ids i t ht
    · exact h.ids i x hx
  · rw [spots_set hV ht rfl]
    rcases at_set hV ht hx with ⟨rfl, rfl⟩ | ⟨_, hx⟩
    · exact h.spots i t ht
    · exact h.spots i x hx
theorem mine_some {W V : Wd} {d : Ded} (h : W.mine d = some V) : ∃ (k : Nat) (t : Trp), W.troops.findIdx? (isId d.who) = some k ∧ W.troops[k]? = some t ∧ t.id = d.who ∧ t.kind = 1 ∧ t.load < 5 ∧ beside t.spot d.spot = true ∧ W.field.isIn d.spot = true ∧ W.mines.getD (W.place d.spot) 0 ≠ 0 ∧
    V = { W with mines := W.mines.set (W.place d.spot) (W.mines.getD (W.place d.spot) 0 - 1), troops := W.troops.set k (Wd.addLoad t 1) } := by
  unfold Wd.mine at h
  cases hf : W.troops.findIdx? (isId d.who) with
  | none => rw [hf] at h; cases h
  | some k =>
    rw [hf] at h
    obtain ⟨t, ht, hid, hg⟩ := findId hf
    simp only [hg] at h
    split at h
    · rename_i hc
      simp only [Bool.and_eq_true, decide_eq_true_eq, bne_iff_ne, beq_iff_eq] at hc
      exact ⟨k, t, rfl, ht, hid, hc.1.1.1.1, hc.1.1.1.2, hc.1.1.2, hc.1.2, hc.2, (Option.some.inj h).symm⟩
    · cases h
theorem drop_some {W V : Wd} {d : Ded} (h : W.drop d = some V) : ∃ (k : Nat) (t : Trp) (n : Int), W.troops.findIdx? (isId d.who) = some k ∧ W.troops[k]? = some t ∧ t.id = d.who ∧ t.load ≠ 0 ∧ beside (W.bases.getD t.owner.toNat default) t.spot = true ∧ n = min t.load (1000000 - W.stocks.getD t.owner.toNat 0) ∧ 0 < n ∧
    V = { W with stocks := W.stocks.set t.owner.toNat (W.stocks.getD t.owner.toNat 0 + n), troops := W.troops.set k (Wd.addLoad t (-n)) } := by
  unfold Wd.drop at h
  cases hf : W.troops.findIdx? (isId d.who) with
  | none => rw [hf] at h; cases h
  | some k =>
    rw [hf] at h
    obtain ⟨t, ht, hid, hg⟩ := findId hf
    simp only [hg] at h
    split at h
    · rename_i hc
      simp only [Bool.and_eq_true, decide_eq_true_eq, bne_iff_ne] at hc
      exact ⟨k, t, _, rfl, ht, hid, hc.1.1, hc.1.2, rfl, hc.2, (Option.some.inj h).symm⟩
    · cases h
theorem hire_some {W V : Wd} {d : Ded} (h : W.hire d = some V) : ∃ c : Cel, W.free (W.bases.getD d.who.toNat default) = some c ∧ 0 ≤ d.who ∧ d.who < (W.bases.length : Int) ∧ (d.what = 1 ∨ d.what = 2) ∧ Wd.priceOf d.what ≤ W.stocks.getD d.who.toNat 0 ∧ W.troops.length < 100 ∧ W.next < 1000000 ∧
    V = { W with troops := W.troops ++ [⟨W.next, d.who, d.what, c, Wd.lifeOf d.what, 0⟩], next := W.next + 1, stocks := W.stocks.set d.who.toNat (W.stocks.getD d.who.toNat 0 - Wd.priceOf d.what) } := by
  unfold Wd.hire at h
  simp only at h
  split at h
  · rename_i hc
    simp only [Bool.and_eq_true, decide_eq_true_eq] at hc
    have a := inB_true hc.1.1.1.1
    have b := inB_true hc.1.1.1.2
    split at h
    · cases h
    · rename_i c hfr
      exact ⟨c, hfr, a.1, by omega, by omega, hc.1.1.2, hc.1.2, hc.2, (Option.some.inj h).symm⟩
  · cases h
theorem price_pos (k : Int) : 0 ≤ Wd.priceOf k := by unfold Wd.priceOf; split <;> (try split) <;> omega
theorem Good.mine {W V : Wd} {d : Ded} (h : Good W) (hd : W.mine d = some V) : Good V := by
  obtain ⟨k, t, _, ht, _, hk, hl, _, hin, hm0, rfl⟩ := mine_some hd
  have h1 := h.troops k t ht
  have hmo : Wd.mostOf t.kind = 5 := by rw [hk]; rfl
  obtain ⟨i1, i2, _⟩ := Fld.idx h.field hin
  have hlt : W.place d.spot < W.mines.length := by rw [h.ml]; unfold Wd.place; omega
  obtain ⟨m, hm⟩ := get_of hlt
  have h2 := h.mines _ m hm
  have hg : W.mines.getD (W.place d.spot) 0 = m := by rw [List.getD_eq_getElem?_getD, hm]; rfl
  rw [hg] at hm0 ⊢
  refine h.turned ht rfl (by have := h1.load; omega) rfl rfl rfl rfl rfl h.stocks (by simp) fun i x hx => ?_
  simp only at hx
  by_cases hi : W.place d.spot = i
  · subst hi
    rw [List.getElem?_set_self hlt] at hx
    obtain rfl := Option.some.inj hx
    refine ⟨by omega, by omega, ?_⟩
    rcases h2.2.2 with h3 | h3
    · omega
    · exact .inr h3
  · rw [List.getElem?_set_ne hi] at hx
    exact h.mines i x hx
theorem Good.drop {W V : Wd} {d : Ded} (h : Good W) (hd : W.drop d = some V) : Good V := by
  obtain ⟨k, t, n, _, ht, _, hl, _, hn, hn0, rfl⟩ := drop_some hd
  have h1 := h.troops k t ht
  have hlt : t.owner.toNat < W.stocks.length := by rw [h.sl]; have := h1.owner; omega
  obtain ⟨s, hs⟩ := get_of hlt
  have h2 := h.stocks _ s hs
  have hg : W.stocks.getD t.owner.toNat 0 = s := by rw [List.getD_eq_getElem?_getD, hs]; rfl
  rw [hg] at hn ⊢
  refine h.turned ht rfl (by have := h1.load; omega) rfl rfl rfl rfl (by simp) (fun i x hx => ?_) rfl h.mines
  simp only at hx
  by_cases hi : t.owner.toNat = i
  · subst hi
    rw [List.getElem?_set_self hlt] at hx
    obtain rfl := Option.some.inj hx
    omega
  · rw [List.getElem?_set_ne hi] at hx
    exact h.stocks i x hx
theorem Good.hire {W V : Wd} {d : Ded} (h : Good W) (hd : W.hire d = some V) : Good V := by
  obtain ⟨c, hfr, hw0, hw1, hk, hp, hnt, hnx, rfl⟩ := hire_some hd
  have hop := List.find?_some hfr
  unfold Wd.openTo at hop
  rw [Bool.and_eq_true] at hop
  have hany : ∀ t ∈ W.troops, t.spot ≠ c := fun t ht he => by
    have := hop.2
    rw [Bool.not_eq_true', List.any_eq_false] at this
    exact this t ht (by simp [isAt, he])
  have hlt : d.who.toNat < W.stocks.length := by rw [h.sl]; omega
  obtain ⟨s, hs⟩ := get_of hlt
  have h2 := h.stocks _ s hs
  have hg : W.stocks.getD d.who.toNat 0 = s := by rw [List.getD_eq_getElem?_getD, hs]; rfl
  rw [hg] at hp ⊢
  have hpp := price_pos d.what
  have hn := h.next
  have hsp : ∀ i, i ≤ W.troops.length → Wd.spots { W with troops := W.troops ++ [⟨W.next, d.who, d.what, c, Wd.lifeOf d.what, 0⟩], next := W.next + 1, stocks := W.stocks.set d.who.toNat (s - Wd.priceOf d.what) } i = W.spots i := fun i hi => by
    unfold Wd.spots
    simp only
    rw [List.take_append_of_le_length hi]
  have hla : ∀ i, i ≤ W.troops.length → Wd.lastId { W with troops := W.troops ++ [⟨W.next, d.who, d.what, c, Wd.lifeOf d.what, 0⟩], next := W.next + 1, stocks := W.stocks.set d.who.toNat (s - Wd.priceOf d.what) } i = W.lastId i := fun i hi => by
    unfold Wd.lastId
    simp only
    by_cases h0 : i = 0
    · rw [if_pos h0, if_pos h0]
    · rw [if_neg h0, if_neg h0, List.getD_eq_getElem?_getD, List.getD_eq_getElem?_getD, List.getElem?_append_left (by omega)]
  have hat : ∀ (i : Nat) x, (W.troops ++ [(⟨W.next, d.who, d.what, c, Wd.lifeOf d.what, 0⟩ : Trp)])[i]? = some x → (i < W.troops.length ∧ W.troops[i]? = some x) ∨ (i = W.troops.length ∧ x = ⟨W.next, d.who, d.what, c, Wd.lifeOf d.what, 0⟩) := fun i x hx => by
    by_cases hi : i < W.troops.length
    · rw [List.getElem?_append_left hi] at hx; exact .inl ⟨hi, hx⟩
    · rw [List.getElem?_append_right (by omega)] at hx
      have h0 : i - W.troops.length = 0 := by
        have := (List.getElem?_eq_some_iff.1 hx).1
        simp at this; omega
      rw [h0] at hx
      exact .inr ⟨by omega, by simpa using hx.symm⟩
  have hlast : W.lastId W.troops.length < W.next ∧ 0 ≤ W.lastId W.troops.length := by
    by_cases h0 : W.troops.length = 0
    · rw [h0]; exact ⟨by show (0 : Int) < _; omega, Int.le_refl _⟩
    · obtain ⟨t, ht⟩ := get_of (l := W.troops) (i := W.troops.length - 1) (by omega)
      have h4 := h.ids _ t ht
      have e : W.lastId W.troops.length = t.id := by
        unfold Wd.lastId
        rw [if_neg h0, List.getD_eq_getElem?_getD, ht]; rfl
      rw [e]; omega
  refine ⟨h.field, h.nb, by simp; omega, by simp; exact h.sl, h.bases, fun i x hx => ?_, h.ml, h.mines, fun i x hx => ?_, fun i x hx => ?_, fun i x hx => ?_, by simp only; omega, h.now⟩
  · simp only at hx
    by_cases hi : d.who.toNat = i
    · subst hi
      rw [List.getElem?_set_self hlt] at hx
      obtain rfl := Option.some.inj hx
      omega
    · rw [List.getElem?_set_ne hi] at hx
      exact h.stocks i x hx
  · rcases hat i x hx with ⟨_, hx⟩ | ⟨_, rfl⟩
    · exact h.troops i x hx
    · exact ⟨hk, ⟨hw0, hw1⟩, hop.1, by simp only; rcases hk with h | h <;> rw [h] <;> decide, by simp only; rcases hk with h | h <;> rw [h] <;> decide⟩
  · rcases hat i x hx with ⟨hi, hx⟩ | ⟨rfl, rfl⟩
    · rw [hla i (by omega)]
      have := h.ids i x hx
      simp only; omega
    · rw [hla _ (Nat.le_refl _)]
      simp only; omega
  · rcases hat i x hx with ⟨hi, hx⟩ | ⟨rfl, rfl⟩
    · rw [hsp i (by omega)]; exact h.spots i x hx
    · rw [hsp _ (Nat.le_refl _)]
      simp only
      cases hc : (W.spots W.troops.length).contains c with
      | false => rfl
      | true =>
        rw [List.contains_iff_mem] at hc
        unfold Wd.spots at hc
        obtain ⟨t, ht, he⟩ := List.mem_map.1 hc
        exact absurd he (hany t (List.mem_of_mem_take ht))
theorem Good.deed {W V : Wd} {d : Ded} (h : Good W) (hd : W.deed d = some V) : Good V := by
  unfold Wd.deed at hd
  split at hd
  · exact h.mine hd
  · split at hd
    · exact h.drop hd
    · split at hd
      · exact h.hire hd
      · cases hd
theorem Good.deeds {W : Wd} (h : Good W) : ∀ l : List Ded, Good (W.deeds l).1 := by
  intro l
  induction l generalizing W with
  | nil => exact h
  | cons d l ih =>
    unfold Wd.deeds
    cases hd : W.deed d with
    | none => exact ih h
    | some V => exact ih (h.deed hd)
end Go.Proofs.Ytffjpfpbpnhmcaa
set_option linter.unusedVariables false
set_option linter.unusedSimpArgs false
namespace Go.Proofs.Ytffjpfpbpnhmcaa
open Go.RowKit

/-- Where a troop stands in memory. -/
def trAt (a : Wd.At) (k : Nat) : Option Addr := a.T.map fun x => ⟨x.block, k * 7, none⟩
def trOf (a : Wd.At) (W : Wd) (id : Int) : Option Addr := match W.troops.findIdx? (isId id) with | none => none | some k => trAt a k
end Go.Proofs.Ytffjpfpbpnhmcaa
set_option linter.unusedVariables false
set_option linter.unusedSimpArgs false
namespace Go.Proofs.Ytffjpfpbpnhmcaa
open Go.RowKit

def Wd.doE (W : Wd) (l : List Ded) : Int := if W.chk ≠ 0 then W.chk else if 200 < l.length then 2 else 0
def Wd.doW (W : Wd) (l : List Ded) : Wd := if W.doE l = 0 then (W.deeds l).1 else Wd.zero
def Wd.doB (W : Wd) (l : List Ded) : List Bool := if W.doE l = 0 then (W.deeds l).2 else []
/-- What goods.Do leaves. -/
def DoPost (W : Wd) (l : List Ded) (w : World) (e : Ending) (w' : World) : Prop :=
  ∃ a' A c, e = .returned (.tuple #[.agg (Wd.cells a' (W.doW l)).toArray, .slice A (W.doB l).length c, .int .i64 (W.doE l)]) ∧ WOwn w' w.heap.size a' (W.doW l) ∧ repB.SOwn 4 1 w' w.heap.size (Rep.blkOf A) A c (W.doB l) ∧ (∀ q ∈ Rep.blkOf A, q ∉ WOwn.foot a') ∧ Ext w w'
end Go.Proofs.Ytffjpfpbpnhmcaa
set_option linter.unusedVariables false
set_option linter.unusedSimpArgs false
namespace Go.Proofs.Ytffjpfpbpnhmcaa
open Go.RowKit

def wt (t : Trp) : Int := t.load + Wd.priceOf t.kind
/-- All there is. -/
def Wd.total (W : Wd) : Int := W.mines.sum + W.stocks.sum + (W.troops.map wt).sum
def Wd.worth (W : Wd) : Int := if W.chk = 0 then W.total else 0
end Go.Proofs.Ytffjpfpbpnhmcaa
set_option linter.unusedVariables false
set_option linter.unusedSimpArgs false
namespace Go.Proofs.Ytffjpfpbpnhmcaa
open Go.RowKit

theorem Eql_sz_api_Cell : Sz Try.prog 32 2 := fun _ => by kernel_rfl
theorem Eql_ag_api_Cell : Ag Try.prog 32 true := fun _ => by kernel_rfl
theorem Eql_eqs_api_Cell : EqS Try.prog Cel.cells 32 := by
  intro a b w
  obtain ⟨a0, a1⟩ := a
  obtain ⟨b0, b1⟩ := b
  simp only [Cel.cells, Cel.mk.injEq]
  constructor
  · go_simp
    repeat' split
    all_goals simp_all
  · go_simp
    repeat' split
    all_goals simp_all
theorem Eql_eqg_api_Cell : (Try.prog).eqGuardType (Try.prog).depth 32 = false := by kernel_rfl
theorem Eql_sz_api_Troop : Sz Try.prog 65 7 := fun _ => by kernel_rfl
theorem Eql_ag_api_Troop : Ag Try.prog 65 true := fun _ => by kernel_rfl
theorem Eql_eqs_api_Troop : EqS Try.prog Trp.cells 65 := by
  intro a b w
  obtain ⟨a0, a1, a2, ⟨a3, a4⟩, a5, a6⟩ := a
  obtain ⟨b0, b1, b2, ⟨b3, b4⟩, b5, b6⟩ := b
  simp only [Trp.cells, Trp.mk.injEq, Cel.mk.injEq]
  constructor
  · go_simp
    repeat' split
    all_goals simp_all
  · go_simp
    repeat' split
    all_goals simp_all
theorem Eql_eqg_api_Troop : (Try.prog).eqGuardType (Try.prog).depth 65 = false := by kernel_rfl
theorem Eql_sz_int : Sz Try.prog 3 1 := fun _ => by kernel_rfl
theorem Eql_ag_int : Ag Try.prog 3 false := fun _ => by kernel_rfl
theorem eq_all {α : Type} {l m : List α} {k : Nat} (h1 : l.length = m.length) (hk : l.length ≤ k) (h : ∀ j, j < k → l[j]? = m[j]?) : l = m := by
  apply List.ext_getElem?
  intro j
  by_cases hj : j < k
  · exact h j hj
  · rw [List.getElem?_eq_none (by omega), List.getElem?_eq_none (by omega)]
theorem ne_of_nb {α : Type} [DecidableEq α] {a b : α} (h : (!decide (a = b)) = true) : ¬ a = b := by simpa using h
theorem eq_of_nb {α : Type} [DecidableEq α] {a b : α} (h : (!decide (a = b)) = false) : a = b := by simpa using h
set_option maxRecDepth 100000 in
set_option maxHeartbeats 400000 in
theorem equal_C (A B : Option Addr) (c d b1 b2 : Nat) (l m : List Cel) (w : World) (h1 : Cel.rep.SHas b1 w A c l) (h2 : Cel.rep.SHas b2 w B d m) :
    Calls Try.prog 23 #[.slice A l.length c, .slice B m.length d] w (fun e w' => e = .returned (.bool (decide (l = m))) ∧ Ext w w') := by
  have hle := h1.len_le
  refine calls_W (n := 26) Try.func23 rfl rfl rfl ?_
  refine sq <| rg <| vl (as_ rfl) rfl <| nl <| nT <| sq <| sq <| rg <| vl (mv rfl) rfl <| vl (ln Try.underlying25 rfl) rfl <| vl (mv rfl) rfl <| vl (ln Try.underlying25 rfl) rfl <| vl (bne rfl rfl) rfl <| nl <| nT <| ?_
  refine cne rfl (fun h_1 => ?_) (fun h_1 => ?_)
  · refine sq <| rg <| vl (as_ rfl) rfl <| nl <| nT <| rt <| tT <| tR (.tmp rfl .nil) <| ?_
    rw [decide_eq_false (fun e => h_1 (by rw [e]))]
    exact ⟨rfl, (Ext.rf w)⟩
  · refine sk <| nT <| sq <| sq <| rg <| vl (mv rfl) rfl <| vl (ln Try.underlying25 rfl) rfl <| vl (mv rfl) rfl <| nl <| nT <| bk <| ?_
    refine lp (fun mI EI wI => ∃ k : Nat, EI = [(0, .slice A l.length c), (1, .slice B m.length d), (12, .int .i64 (l.length : Int)), (13, .int .i64 (k : Int))] ∧ mI = l.length - k ∧ Ext w wI ∧ (k ≤ l.length) ∧ (∀ j, j < k → l[j]? = m[j]?)) _ _ ⟨0, rfl, rfl, (Ext.rf w), by omega, fun j hj => absurd hj (by omega)⟩ (.cons rfl (.cons rfl (.cons rfl (.cons (loI rfl (by first | omega | rfl | (simp <;> omega))) .nil)))) ?_
    rintro m_3 E_4 w_2 ⟨k, rfl, rfl, z_2, hk, hk2⟩
    have q_5 := z_2.size
    have hle := h1.len_le
    have hle2 := h2.len_le
    refine sq <| rg <| vl (blt rfl rfl) rfl <| nl <| nT <| sq <| ?_
    refine clt rfl (fun h_6 => ?_) (fun h_6 => ?_)
    · obtain ⟨x1, hx1⟩ := get_of (l := l) (i := k) (by omega)
      obtain ⟨y1, hy1⟩ := get_of (l := m) (i := k) (by omega)
      refine sk <| nT <| sq <| bk <| sq <| rg <| vl (mv rfl) rfl <| vl (as_ rfl) rfl <| nl <| nT <| sq <| ?_
      refine rd [(3, 0), (7, 0)] [0, 1, 2, 3, 4, 5, 6, 7, 8] (by kernel_rfl) (by kernel_rfl) ?_
      refine fw rfl rfl (fun _ => mv rfl) rfl <| fw rfl rfl (fun _ => mv rfl) rfl <| fw rfl rfl (fun _ => iA k Try.underlying25 Eql_sz_api_Cell rfl rfl ((h1.keep z_2).adr (Nat.zero_lt_of_lt (show k < _ from (by omega)))) rfl (by omega)) rfl <| fq rfl rfl (fun _ x => ld rfl (Rep.SHas.elt hcC (by rw [← (h1.keep (Ext.tr z_2 x)).adr (Nat.zero_lt_of_lt (show k < _ from (by omega)))]; exact (h1.keep (Ext.tr z_2 x))) hx1 Eql_ag_api_Cell Eql_sz_api_Cell)) rfl <| fw rfl rfl (fun _ => mv rfl) rfl <| fw rfl rfl (fun _ => mv rfl) rfl <| fw rfl rfl (fun _ => iA k Try.underlying25 Eql_sz_api_Cell rfl rfl ((h2.keep z_2).adr (Nat.zero_lt_of_lt (show k < _ from (by omega)))) rfl (by omega)) rfl <| fq rfl rfl (fun _ x => ld rfl (Rep.SHas.elt hcC (by rw [← (h2.keep (Ext.tr z_2 x)).adr (Nat.zero_lt_of_lt (show k < _ from (by omega)))]; exact (h2.keep (Ext.tr z_2 x))) hy1 Eql_ag_api_Cell Eql_sz_api_Cell)) rfl <| fw rfl rfl (fun _ => bnS Eql_eqs_api_Cell Eql_eqg_api_Cell (p := x1) (q := y1) rfl rfl) rfl <| fn fun w_7 x_8 => ?_
      have q_9 := x_8.size
      have z_7 := Ext.tr z_2 x_8
      refine nT <| ?_
      refine cb rfl (fun h_10 => ?_) (fun h_10 => ?_)
      · refine sq <| rg <| vl (as_ rfl) rfl <| nl <| nT <| rt <| tB <| tT <| tK <| tB <| tT <| tR (.tmp rfl .nil) <| ?_
        rw [decide_eq_false (fun e => by rw [e, hy1] at hx1; injection hx1 with hx1; exact absurd hx1.symm (by first | exact ne_of_nb h_10 | exact h_10))]
        exact ⟨rfl, z_7⟩
      · refine sk <| nB <| nT <| rg <| vl (bad rfl rfl (inI (by omega))) rfl <| vl (mv rfl) rfl <| nl <| ?_
        exact nI _ _ ⟨k + 1, rfl, rfl, z_7, by omega, lt_succ_all hk2 (by rw [hx1, hy1, (by first | exact eq_of_nb h_10 | exact h_10 : x1 = y1)])⟩ (by omega) (.cons rfl (.cons rfl (.cons rfl (.cons (loI rfl (by first | omega | rfl | (simp <;> omega))) .nil))))
    · refine xt <| xT <| xK <| xB <| nT <| sq <| rg <| vl (as_ rfl) rfl <| nl <| nT <| rt <| tR (.tmp rfl .nil) <| ?_
      rw [decide_eq_true (eq_all (by omega) (by omega) hk2)]
      exact ⟨rfl, z_2⟩
set_option maxRecDepth 100000 in
set_option maxHeartbeats 400000 in
theorem equal_T (A B : Option Addr) (c d b1 b2 : Nat) (l m : List Trp) (w : World) (h1 : Trp.rep.SHas b1 w A c l) (h2 : Trp.rep.SHas b2 w B d m) :
    Calls Try.prog 43 #[.slice A l.length c, .slice B m.length d] w (fun e w' => e = .returned (.bool (decide (l = m))) ∧ Ext w w') := by
  have hle := h1.len_le
  refine calls_W (n := 26) Try.func43 rfl rfl rfl ?_
  refine sq <| rg <| vl (as_ rfl) rfl <| nl <| nT <| sq <| sq <| rg <| vl (mv rfl) rfl <| vl (ln Try.underlying47 rfl) rfl <| vl (mv rfl) rfl <| vl (ln Try.underlying47 rfl) rfl <| vl (bne rfl rfl) rfl <| nl <| nT <| ?_
  refine cne rfl (fun h_1 => ?_) (fun h_1 => ?_)
  · refine sq <| rg <| vl (as_ rfl) rfl <| nl <| nT <| rt <| tT <| tR (.tmp rfl .nil) <| ?_
    rw [decide_eq_false (fun e => h_1 (by rw [e]))]
    exact ⟨rfl, (Ext.rf w)⟩
  · refine sk <| nT <| sq <| sq <| rg <| vl (mv rfl) rfl <| vl (ln Try.underlying47 rfl) rfl <| vl (mv rfl) rfl <| nl <| nT <| bk <| ?_
    refine lp (fun mI EI wI => ∃ k : Nat, EI = [(0, .slice A l.length c), (1, .slice B m.length d), (12, .int .i64 (l.length : Int)), (13, .int .i64 (k : Int))] ∧ mI = l.length - k ∧ Ext w wI ∧ (k ≤ l.length) ∧ (∀ j, j < k → l[j]? = m[j]?)) _ _ ⟨0, rfl, rfl, (Ext.rf w), by omega, fun j hj => absurd hj (by omega)⟩ (.cons rfl (.cons rfl (.cons rfl (.cons (loI rfl (by first | omega | rfl | (simp <;> omega))) .nil)))) ?_
    rintro m_3 E_4 w_2 ⟨k, rfl, rfl, z_2, hk, hk2⟩
    have q_5 := z_2.size
    have hle := h1.len_le
    have hle2 := h2.len_le
    refine sq <| rg <| vl (blt rfl rfl) rfl <| nl <| nT <| sq <| ?_
    refine clt rfl (fun h_6 => ?_) (fun h_6 => ?_)
    · obtain ⟨x1, hx1⟩ := get_of (l := l) (i := k) (by omega)
      obtain ⟨y1, hy1⟩ := get_of (l := m) (i := k) (by omega)
      refine sk <| nT <| sq <| bk <| sq <| rg <| vl (mv rfl) rfl <| vl (as_ rfl) rfl <| nl <| nT <| sq <| ?_
      refine rd [(3, 0), (7, 0)] [0, 1, 2, 3, 4, 5, 6, 7, 8] (by kernel_rfl) (by kernel_rfl) ?_
      refine fw rfl rfl (fun _ => mv rfl) rfl <| fw rfl rfl (fun _ => mv rfl) rfl <| fw rfl rfl (fun _ => iA k Try.underlying47 Eql_sz_api_Troop rfl rfl ((h1.keep z_2).adr (Nat.zero_lt_of_lt (show k < _ from (by omega)))) rfl (by omega)) rfl <| fq rfl rfl (fun _ x => ld rfl (Rep.SHas.elt hcT (by rw [← (h1.keep (Ext.tr z_2 x)).adr (Nat.zero_lt_of_lt (show k < _ from (by omega)))]; exact (h1.keep (Ext.tr z_2 x))) hx1 Eql_ag_api_Troop Eql_sz_api_Troop)) rfl <| fw rfl rfl (fun _ => mv rfl) rfl <| fw rfl rfl (fun _ => mv rfl) rfl <| fw rfl rfl (fun _ => iA k Try.underlying47 Eql_sz_api_Troop rfl rfl ((h2.keep z_2).adr (Nat.zero_lt_of_lt (show k < _ from (by omega)))) rfl (by omega)) rfl <| fq rfl rfl (fun _ x => ld rfl (Rep.SHas.elt hcT (by rw [← (h2.keep (Ext.tr z_2 x)).adr (Nat.zero_lt_of_lt (show k < _ from (by omega)))]; exact (h2.keep (Ext.tr z_2 x))) hy1 Eql_ag_api_Troop Eql_sz_api_Troop)) rfl <| fw rfl rfl (fun _ => bnS Eql_eqs_api_Troop Eql_eqg_api_Troop (p := x1) (q := y1) rfl rfl) rfl <| fn fun w_7 x_8 => ?_
      have q_9 := x_8.size
      have z_7 := Ext.tr z_2 x_8
      refine nT <| ?_
      refine cb rfl (fun h_10 => ?_) (fun h_10 => ?_)
      · refine sq <| rg <| vl (as_ rfl) rfl <| nl <| nT <| rt <| tB <| tT <| tK <| tB <| tT <| tR (.tmp rfl .nil) <| ?_
        rw [decide_eq_false (fun e => by rw [e, hy1] at hx1; injection hx1 with hx1; exact absurd hx1.symm (by first | exact ne_of_nb h_10 | exact h_10))]
        exact ⟨rfl, z_7⟩
      · refine sk <| nB <| nT <| rg <| vl (bad rfl rfl (inI (by omega))) rfl <| vl (mv rfl) rfl <| nl <| ?_
        exact nI _ _ ⟨k + 1, rfl, rfl, z_7, by omega, lt_succ_all hk2 (by rw [hx1, hy1, (by first | exact eq_of_nb h_10 | exact h_10 : x1 = y1)])⟩ (by omega) (.cons rfl (.cons rfl (.cons rfl (.cons (loI rfl (by first | omega | rfl | (simp <;> omega))) .nil))))
    · refine xt <| xT <| xK <| xB <| nT <| sq <| rg <| vl (as_ rfl) rfl <| nl <| nT <| rt <| tR (.tmp rfl .nil) <| ?_
      rw [decide_eq_true (eq_all (by omega) (by omega) hk2)]
      exact ⟨rfl, z_2⟩
set_option maxRecDepth 100000 in
set_option maxHeartbeats 400000 in
theorem equal_Z (A B : Option Addr) (c d b1 b2 : Nat) (l m : List Int) (w : World) (h1 : repI.SHas b1 w A c l) (h2 : repI.SHas b2 w B d m) :
    Calls Try.prog 33 #[.slice A l.length c, .slice B m.length d] w (fun e w' => e = .returned (.bool (decide (l = m))) ∧ Ext w w') := by
  have hle := h1.len_le
  refine calls_W (n := 26) Try.func33 rfl rfl rfl ?_
  refine sq <| rg <| vl (as_ rfl) rfl <| nl <| nT <| sq <| sq <| rg <| vl (mv rfl) rfl <| vl (ln Try.underlying22 rfl) rfl <| vl (mv rfl) rfl <| vl (ln Try.underlying22 rfl) rfl <| vl (bne rfl rfl) rfl <| nl <| nT <| ?_
  refine cne rfl (fun h_1 => ?_) (fun h_1 => ?_)
  · refine sq <| rg <| vl (as_ rfl) rfl <| nl <| nT <| rt <| tT <| tR (.tmp rfl .nil) <| ?_
    rw [decide_eq_false (fun e => h_1 (by rw [e]))]
    exact ⟨rfl, (Ext.rf w)⟩
  · refine sk <| nT <| sq <| sq <| rg <| vl (mv rfl) rfl <| vl (ln Try.underlying22 rfl) rfl <| vl (mv rfl) rfl <| nl <| nT <| bk <| ?_
    refine lp (fun mI EI wI => ∃ k : Nat, EI = [(0, .slice A l.length c), (1, .slice B m.length d), (12, .int .i64 (l.length : Int)), (13, .int .i64 (k : Int))] ∧ mI = l.length - k ∧ Ext w wI ∧ (k ≤ l.length) ∧ (∀ j, j < k → l[j]? = m[j]?)) _ _ ⟨0, rfl, rfl, (Ext.rf w), by omega, fun j hj => absurd hj (by omega)⟩ (.cons rfl (.cons rfl (.cons rfl (.cons (loI rfl (by first | omega | rfl | (simp <;> omega))) .nil)))) ?_
    rintro m_3 E_4 w_2 ⟨k, rfl, rfl, z_2, hk, hk2⟩
    have q_5 := z_2.size
    have hle := h1.len_le
    have hle2 := h2.len_le
    refine sq <| rg <| vl (blt rfl rfl) rfl <| nl <| nT <| sq <| ?_
    refine clt rfl (fun h_6 => ?_) (fun h_6 => ?_)
    · obtain ⟨x1, hx1⟩ := get_of (l := l) (i := k) (by omega)
      obtain ⟨y1, hy1⟩ := get_of (l := m) (i := k) (by omega)
      refine sk <| nT <| sq <| bk <| sq <| rg <| vl (mv rfl) rfl <| vl (as_ rfl) rfl <| nl <| nT <| sq <| ?_
      refine rd [(3, 0), (7, 0)] [0, 1, 2, 3, 4, 5, 6, 7, 8] (by kernel_rfl) (by kernel_rfl) ?_
      refine fw rfl rfl (fun _ => mv rfl) rfl <| fw rfl rfl (fun _ => mv rfl) rfl <| fw rfl rfl (fun _ => iA k Try.underlying22 Eql_sz_int rfl rfl ((h1.keep z_2).adr (Nat.zero_lt_of_lt (show k < _ from (by omega)))) rfl (by omega)) rfl <| fq rfl rfl (fun _ x => ld rfl (Rep.SHas.one' hcI (by rw [← (h1.keep (Ext.tr z_2 x)).adr (Nat.zero_lt_of_lt (show k < _ from (by omega)))]; exact (h1.keep (Ext.tr z_2 x))) hx1 rfl Eql_ag_int)) rfl <| fw rfl rfl (fun _ => mv rfl) rfl <| fw rfl rfl (fun _ => mv rfl) rfl <| fw rfl rfl (fun _ => iA k Try.underlying22 Eql_sz_int rfl rfl ((h2.keep z_2).adr (Nat.zero_lt_of_lt (show k < _ from (by omega)))) rfl (by omega)) rfl <| fq rfl rfl (fun _ x => ld rfl (Rep.SHas.one' hcI (by rw [← (h2.keep (Ext.tr z_2 x)).adr (Nat.zero_lt_of_lt (show k < _ from (by omega)))]; exact (h2.keep (Ext.tr z_2 x))) hy1 rfl Eql_ag_int)) rfl <| fw rfl rfl (fun _ => bne rfl rfl) rfl <| fn fun w_7 x_8 => ?_
      have q_9 := x_8.size
      have z_7 := Ext.tr z_2 x_8
      refine nT <| ?_
      refine cne rfl (fun h_10 => ?_) (fun h_10 => ?_)
      · refine sq <| rg <| vl (as_ rfl) rfl <| nl <| nT <| rt <| tB <| tT <| tK <| tB <| tT <| tR (.tmp rfl .nil) <| ?_
        rw [decide_eq_false (fun e => by rw [e, hy1] at hx1; injection hx1 with hx1; exact absurd hx1.symm (by first | exact ne_of_nb h_10 | exact h_10))]
        exact ⟨rfl, z_7⟩
      · refine sk <| nB <| nT <| rg <| vl (bad rfl rfl (inI (by omega))) rfl <| vl (mv rfl) rfl <| nl <| ?_
        exact nI _ _ ⟨k + 1, rfl, rfl, z_7, by omega, lt_succ_all hk2 (by rw [hx1, hy1, (by first | exact eq_of_nb h_10 | exact h_10 : x1 = y1)])⟩ (by omega) (.cons rfl (.cons rfl (.cons rfl (.cons (loI rfl (by first | omega | rfl | (simp <;> omega))) .nil))))
    · refine xt <| xT <| xK <| xB <| nT <| sq <| rg <| vl (as_ rfl) rfl <| nl <| nT <| rt <| tR (.tmp rfl .nil) <| ?_
      rw [decide_eq_true (eq_all (by omega) (by omega) hk2)]
      exact ⟨rfl, z_2⟩
end Go.Proofs.Ytffjpfpbpnhmcaa
