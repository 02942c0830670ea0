/-
  hit.own, hit.Struck. (Printed by bin/hits.py.)
-/
import Derived.Test.YticfnngppcmidaaHitG
import Derived.Test.YticfnngppcmidaaGooQ
set_option linter.unusedVariables false
set_option linter.unusedSimpArgs false
namespace Go.Proofs.Yticfnngppcmidaa
open Go.RowKit

theorem HitS_zv_api_World : Zv Try.prog 28 (.agg #[.int .i64 0, .int .i64 0, .slice none 0 0, .slice none 0 0, .slice none 0 0, .slice none 0 0, .slice none 0 0, .int .i64 0, .int .i64 0]) := fun _ => by kernel_rfl
theorem HitS_fd_api_World_0 : Fd Try.prog 28 0 0 := fun _ _ _ => by kernel_rfl
theorem HitS_fd_api_Field_2 : Fd Try.prog 24 2 2 := fun _ _ _ => by kernel_rfl
theorem HitS_ag_S_int : Ag Try.prog 22 false := fun _ => by kernel_rfl
theorem HitS_en_slices_Clone_S_int_int_ : Enters Try.prog 26 := en Try.func26 (by kernel_rfl) (by kernel_rfl)
theorem HitS_sz_S_int : Sz Try.prog 22 1 := fun _ => by kernel_rfl
theorem HitS_fd_api_World_1 : Fd Try.prog 28 1 3 := fun _ _ _ => by kernel_rfl
theorem HitS_ag_S_api_Cell : Ag Try.prog 25 false := fun _ => by kernel_rfl
theorem HitS_fd_api_World_2 : Fd Try.prog 28 2 4 := fun _ _ _ => by kernel_rfl
theorem HitS_en_slices_Clone_S_api_Cell_api_Cell_ : Enters Try.prog 27 := en Try.func27 (by kernel_rfl) (by kernel_rfl)
theorem HitS_sz_S_api_Cell : Sz Try.prog 25 1 := fun _ => by kernel_rfl
theorem HitS_fd_api_World_3 : Fd Try.prog 28 3 5 := fun _ _ _ => by kernel_rfl
theorem HitS_fd_api_World_4 : Fd Try.prog 28 4 6 := fun _ _ _ => by kernel_rfl
theorem HitS_ag_S_api_Troop : Ag Try.prog 26 false := fun _ => by kernel_rfl
theorem HitS_en_slices_Clone_S_api_Troop_api_Troop_ : Enters Try.prog 25 := en Try.func25 (by kernel_rfl) (by kernel_rfl)
theorem HitS_sz_S_api_Troop : Sz Try.prog 26 1 := fun _ => by kernel_rfl
theorem HitS_ag_api_World : Ag Try.prog 28 true := fun _ => by kernel_rfl
theorem HitS_sz_api_World : Sz Try.prog 28 9 := fun _ => by kernel_rfl
theorem HitS_en_hit_Blows : Enters Try.prog 33 := en Try.func33 (by kernel_rfl) (by kernel_rfl)
theorem HitS_en_hit_own : Enters Try.prog 59 := en Try.func59 (by kernel_rfl) (by kernel_rfl)
theorem HitS_sz_api_Troop : Sz Try.prog 39 7 := fun _ => by kernel_rfl
theorem HitS_ag_api_Troop : Ag Try.prog 39 true := fun _ => by kernel_rfl
theorem HitS_zv_api_Troop : Zv Try.prog 39 (.agg #[.int .i64 0, .int .i64 0, .int .i64 0, .int .i64 0, .int .i64 0, .int .i64 0, .int .i64 0]) := fun _ => by kernel_rfl
theorem HitS_fd_api_Troop_4 : Fd Try.prog 39 4 5 := fun _ _ _ => by kernel_rfl
theorem HitS_ag_int : Ag Try.prog 3 false := fun _ => by kernel_rfl
theorem HitS_sz_int : Sz Try.prog 3 1 := fun _ => by kernel_rfl
theorem HitS_el_S_api_Troop : ElT Try.prog Trp.rep 26 39 56 := ElT.mk_ (z := Trp.zero) (k := 7) Try.underlying26 Trp.info rfl rfl (by decide) Trp.zero_raw
theorem HitS_fd_api_Troop_0 : Fd Try.prog 39 0 0 := fun _ _ _ => by kernel_rfl
theorem HitS_el_S_int : ElT Try.prog repI 22 3 8 := ElT.mk_ (z := .int .i64 0) (k := 1) Try.underlying22 info_int rfl rfl (by decide) (fun j u h => raw0I j u h)
theorem WOwn.of5 {w : World} {Z : Nat} {P B S M T : Option Addr} {p b s m t : Nat} {W : Wd} (hP : repI.SOwn 3 8 w Z (Rep.blkOf P) P p W.field.places) (hB : Cel.rep.SOwn 37 16 w Z (Rep.blkOf B) B b W.bases) (hS : repI.SOwn 3 8 w Z (Rep.blkOf S) S s W.stocks) (hM : repI.SOwn 3 8 w Z (Rep.blkOf M) M m W.mines) (hT : Trp.rep.SOwn 39 56 w Z (Rep.blkOf T) T t W.troops)
    (h1 : ∀ q ∈ Rep.blkOf B, q ∈ Rep.blkOf P → False) (h2 : ∀ q ∈ Rep.blkOf S, q ∈ Rep.blkOf P → False) (h3 : ∀ q ∈ Rep.blkOf S, q ∈ Rep.blkOf B → False) (h4 : ∀ q ∈ Rep.blkOf M, q ∈ Rep.blkOf P → False) (h5 : ∀ q ∈ Rep.blkOf M, q ∈ Rep.blkOf B → False) (h6 : ∀ q ∈ Rep.blkOf M, q ∈ Rep.blkOf S → False)
    (h7 : ∀ q ∈ Rep.blkOf T, q ∈ Rep.blkOf P → False) (h8 : ∀ q ∈ Rep.blkOf T, q ∈ Rep.blkOf B → False) (h9 : ∀ q ∈ Rep.blkOf T, q ∈ Rep.blkOf S → False) (h10 : ∀ q ∈ Rep.blkOf T, q ∈ Rep.blkOf M → False) (hn : okI W.field.wide ∧ okI W.field.high ∧ okI W.next ∧ okI W.now) :
    WOwn w Z ⟨P, B, S, M, T, p, b, s, m, t⟩ W := by
  refine ⟨hP, hB, hS, hM, hT, ?_, hn⟩
  have e1 := blk_nodup P
  have e2 := blk_nodup B
  have e3 := blk_nodup S
  have e4 := blk_nodup M
  have e5 := blk_nodup T
  simp only [List.nodup_append, List.mem_append]
  grind
/-- Who has been hurt. -/
def hurt (T : List Trp) (h : List Int) (i : Nat) : Trp := { T.getD i default with life := (T.getD i default).life - h.getD i 0 }
def leftL (T : List Trp) (h : List Int) (k : Nat) : List Trp := ((List.range k).map (hurt T h)).filter fun t => decide (0 < t.life)
def goneL (T : List Trp) (h : List Int) (k : Nat) : List Int := (((List.range k).map (hurt T h)).filter fun t => !decide (0 < t.life)).map Trp.id
theorem left_succ_yes {T : List Trp} {h : List Int} {k : Nat} (hp : 0 < (T.getD k default).life - h.getD k 0) : leftL T h (k + 1) = leftL T h k ++ [hurt T h k] := by
  unfold leftL
  rw [List.range_succ, List.map_append, List.filter_append, List.map_cons, List.map_nil, List.filter_cons, if_pos (show decide (0 < (hurt T h k).life) = true from decide_eq_true hp)]
  rfl
theorem left_succ_no {T : List Trp} {h : List Int} {k : Nat} (hp : ¬ 0 < (T.getD k default).life - h.getD k 0) : leftL T h (k + 1) = leftL T h k := by
  unfold leftL
  rw [List.range_succ, List.map_append, List.filter_append, List.map_cons, List.map_nil, List.filter_cons, if_neg (show ¬ decide (0 < (hurt T h k).life) = true from fun e => hp (of_decide_eq_true e))]
  simp
theorem gone_succ_yes {T : List Trp} {h : List Int} {k : Nat} (hp : 0 < (T.getD k default).life - h.getD k 0) : goneL T h (k + 1) = goneL T h k := by
  unfold goneL
  rw [List.range_succ, List.map_append, List.filter_append, List.map_cons, List.map_nil, List.filter_cons, if_neg (show ¬ (!decide (0 < (hurt T h k).life)) = true from by rw [decide_eq_true (show 0 < (hurt T h k).life from hp)]; decide)]
  simp
theorem gone_succ_no {T : List Trp} {h : List Int} {k : Nat} (hp : ¬ 0 < (T.getD k default).life - h.getD k 0) : goneL T h (k + 1) = goneL T h k ++ [(T.getD k default).id] := by
  unfold goneL
  rw [List.range_succ, List.map_append, List.filter_append, List.map_cons, List.map_nil, List.filter_cons, if_pos (show (!decide (0 < (hurt T h k).life)) = true from by rw [decide_eq_false (show ¬ 0 < (hurt T h k).life from hp)]; rfl), List.map_append]
  rfl
theorem left_len (T : List Trp) (h : List Int) (k : Nat) : (leftL T h k).length ≤ k := by unfold leftL; exact Nat.le_trans (List.length_filter_le _ _) (by simp)
theorem gone_len (T : List Trp) (h : List Int) (k : Nat) : (goneL T h k).length ≤ k := by unfold goneL; rw [List.length_map]; exact Nat.le_trans (List.length_filter_le _ _) (by simp)
theorem blowE_ok {W : Wd} {l : List Blw} (h : blowE W l = 0) : W.chk = 0 ∧ l.length ≤ 200 := by
  unfold blowE at h
  split at h
  · contradiction
  · rename_i hc
    split at h
    · exact nomatch h
    · exact ⟨by simpa using hc, by omega⟩
theorem harm_of {W : Wd} {l : List Blw} (h : blowE W l = 0) : (harmW W l).length = W.troops.length ∧ ∀ k, 0 ≤ (harmW W l).getD k 0 ∧ (harmW W l).getD k 0 ≤ 800 := by
  obtain ⟨h1, h2, h3⟩ := blows_bd W l
  have h4 := (blowE_ok h).2
  have e : harmW W l = (blows W l).2 := by unfold harmW; rw [h]; rfl
  rw [e]
  exact ⟨h2, fun k => by have := h3 k; omega⟩
theorem trp_ok {w : World} {A : Option Addr} {c : Nat} {T : List Trp} (h : Trp.rep.SHas 56 w A c T) (k : Nat) : (T.getD k default).ok := by
  rw [List.getD_eq_getElem?_getD]
  cases ht : T[k]? with
  | none => exact ⟨by decide, by decide, by decide, by decide, by decide, by decide, by decide⟩
  | some t => exact Rep.SHas.all_ (Q := Trp.ok) (fun h => And.right (show _ ∧ _ from h)) h t (List.mem_of_getElem? ht)
theorem Good.lifeD {W : Wd} (hG : Good W) {k : Nat} (hk : k < W.troops.length) : 1 ≤ (W.troops.getD k default).life ∧ (W.troops.getD k default).life ≤ 20 := by
  obtain ⟨t, ht⟩ := get_of hk
  have e : W.troops.getD k default = t := by rw [List.getD_eq_getElem?_getD, ht]; rfl
  rw [e]
  have h1 := hG.troops k t ht
  have h2 : Wd.lifeOf t.kind ≤ 20 := by unfold Wd.lifeOf; split <;> (try split) <;> omega
  have := h1.life
  omega
theorem WOwn.newT {w : World} {Z : Nat} {a : Wd.At} {W : Wd} {A : Option Addr} {c : Nat} {p : List Trp} (h : WOwn w Z a W) (hT : Trp.rep.SOwn 39 56 w Z (Rep.blkOf A) A c p) (h1 : ∀ q ∈ Rep.blkOf A, q ∈ WOwn.foot a → False) : WOwn w Z { a with T := A, t := c } { W with troops := p } := by
  refine ⟨h.P, h.B, h.S, h.M, hT, ?_, h.nums⟩
  have hn := h.apart
  have e1 := blk_nodup A
  have f1 : ∀ q ∈ Rep.blkOf A, (q ∈ Rep.blkOf a.P → False) ∧ (q ∈ Rep.blkOf a.B → False) ∧ (q ∈ Rep.blkOf a.S → False) ∧ (q ∈ Rep.blkOf a.M → False) := fun q hq => ⟨fun h => h1 q hq (foot_P h), fun h => h1 q hq (foot_B h), fun h => h1 q hq (foot_S h), fun h => h1 q hq (foot_M h)⟩
  simp only [List.nodup_append, List.mem_append] at hn ⊢
  grind
theorem foot_newT {a : Wd.At} {A : Option Addr} {c q : Nat} (h : q ∈ WOwn.foot { a with T := A, t := c }) : q ∈ WOwn.foot a ∨ q ∈ Rep.blkOf A := by
  rcases foot_mem.1 h with h | h | h | h | h
  · exact .inl (foot_P h)
  · exact .inl (foot_B h)
  · exact .inl (foot_S h)
  · exact .inl (foot_M h)
  · exact .inr h
def struckW (W : Wd) (l : List Blw) : Wd := if blowE W l ≠ 0 then Wd.zero else { W with troops := leftL W.troops (harmW W l) W.troops.length }
def struckG (W : Wd) (l : List Blw) : List Int := if blowE W l ≠ 0 then [] else goneL W.troops (harmW W l) W.troops.length
/-- What hit.Struck leaves. -/
def StruckPost (W : Wd) (l : List Blw) (w : World) (e : Ending) (w' : World) : Prop :=
  ∃ a' A c, e = .returned (.tuple #[.agg (Wd.cells a' (struckW W l)).toArray, .slice A (struckG W l).length c, .int .i64 (blowE W l)]) ∧ WOwn w' w.heap.size a' (struckW W l) ∧ repI.SOwn 3 8 w' w.heap.size (Rep.blkOf A) A c (struckG W l) ∧ (∀ q ∈ Rep.blkOf A, q ∉ WOwn.foot a') ∧ Ext w w'
theorem struck_no {W : Wd} {l : List Blw} (h : ¬ blowE W l = 0) : struckW W l = Wd.zero ∧ struckG W l = [] := by unfold struckW struckG; rw [if_pos h, if_pos h]; exact ⟨rfl, rfl⟩
theorem struck_ok {W : Wd} {l : List Blw} {k : Nat} (h : blowE W l = 0) (hk : k = W.troops.length) : struckW W l = { W with troops := leftL W.troops (harmW W l) k } ∧ struckG W l = goneL W.troops (harmW W l) k := by
  subst hk; unfold struckW struckG; rw [if_neg (by simpa using h), if_neg (by simpa using h)]; exact ⟨rfl, rfl⟩
set_option maxRecDepth 100000 in
set_option maxHeartbeats 400000 in
theorem hown_any (a : Wd.At) (W : Wd) (w : World) (hW : Wd.Has w a W) :
    Calls Try.prog 59 #[.agg ((Wd.cells a W).toArray)] w (fun e w' => ∃ a' : Wd.At, e = .returned (.agg (Wd.cells a' W).toArray) ∧ WOwn w' w.heap.size a' W ∧ Ext w w') := by
  refine calls_W (n := 26) Try.func59 rfl rfl rfl ?_
  refine sq <| rg <| bx rfl rfl rfl rfl fun w_1 b_2 x_3 l_4 B_5 => ?_
  have q_6 := x_3.size
  have z_1 := Ext.tr (Ext.rf w) x_3
  have q_7 := B_5.lt
  refine al rfl HitS_zv_api_World rfl rfl fun w_8 b_9 x_10 l_11 B_12 => ?_
  have q_13 := x_10.size
  have z_8 := Ext.tr z_1 x_10
  have q_14 := B_12.lt
  refine nl <| nT <| sq <| rg <| vl (fa HitS_fd_api_World_0 rfl) rfl <| vl (fa HitS_fd_api_Field_2 rfl) rfl <| ?_
  have B_5 := B_5.later x_10
  refine vl (ld rfl (B_5.one HitS_ag_S_int rfl)) rfl <| ca HitS_en_slices_Clone_S_int_int_ rfl rfl ((clone_I _ _ W.field.places _ (hW.P.keep z_8)).mono ?_)
  rintro e w_18 ⟨A_15, c_15, rfl, OC_15, hn_15, x_19⟩
  refine ⟨_, rfl, ?_⟩
  have q_20 := x_19.size
  have z_18 := Ext.tr z_8 x_19
  have u_16 := fun q hq => (OC_15.lt q hq).2
  have lo_17 := fun q hq => (OC_15.lt q hq).1
  refine vl (fa HitS_fd_api_World_0 rfl) rfl <| vl (fa HitS_fd_api_Field_2 rfl) rfl <| ?_
  have B_5 := B_5.later x_19
  refine st (new := [.int .i64 W.field.wide, .int .i64 W.field.high, .slice A_15 ((W.field.places).length) c_15, .slice a.B W.bases.length a.b, .slice a.S W.stocks.length a.s, .slice a.M W.mines.length a.m, .slice a.T W.troops.length a.t, .int .i64 W.next, .int .i64 W.now]) rfl rfl B_5 rfl HitS_sz_S_int rfl rfl rfl fun w_21 m_22 B_5 => ?_
  have q_24 := m_22.size
  have z_21 := Ext.mod z_18 m_22 (by simp only [List.mem_singleton, forall_eq]; omega)
  have q_23 := m_22.size
  refine nl <| nT <| sq <| ?_
  refine rd [(1, 0), (2, 2), (4, 0), (5, 2), (7, 3), (9, 3)] [0, 1, 3, 4, 2, 6, 5, 7, 8, 9] (by kernel_rfl) (by kernel_rfl) ?_
  refine fw rfl rfl (fun _ => fa HitS_fd_api_World_1 rfl) rfl <| fq rfl rfl (fun _ x => ld rfl ((B_5.later x).one HitS_ag_S_api_Cell rfl)) rfl <| fw rfl rfl (fun _ => fa HitS_fd_api_World_2 rfl) rfl <| fq rfl rfl (fun _ x => ld rfl ((B_5.later x).one HitS_ag_S_int rfl)) rfl <| fx rfl rfl rfl fun w_25 x_26 Q hK => ca HitS_en_slices_Clone_S_api_Cell_api_Cell_ rfl rfl ((clone_C _ _ W.bases _ (hW.B.keep (Ext.tr z_21 x_26))).mono ?_)
  rintro e w_30 ⟨A_27, c_27, rfl, OC_27, hn_27, x_31⟩
  refine ⟨_, rfl, hK _ _ ⟨Ext.tr x_26 x_31, ?_⟩⟩
  have q_32 := x_26.size
  have z_25 := Ext.tr z_21 x_26
  have q_33 := x_31.size
  have z_30 := Ext.tr z_25 x_31
  have u_28 := fun q hq => (OC_27.lt q hq).2
  have lo_29 := fun q hq => (OC_27.lt q hq).1
  refine fw rfl rfl (fun _ => fa HitS_fd_api_World_1 rfl) rfl <| fx rfl rfl rfl fun w_34 x_35 Q hK => ca HitS_en_slices_Clone_S_int_int_ rfl rfl ((clone_I _ _ W.stocks _ (hW.S.keep (Ext.tr z_30 x_35))).mono ?_)
  rintro e w_39 ⟨A_36, c_36, rfl, OC_36, hn_36, x_40⟩
  refine ⟨_, rfl, hK _ _ ⟨Ext.tr x_35 x_40, ?_⟩⟩
  have q_41 := x_35.size
  have z_34 := Ext.tr z_30 x_35
  have q_42 := x_40.size
  have z_39 := Ext.tr z_34 x_40
  have u_37 := fun q hq => (OC_36.lt q hq).2
  have lo_38 := fun q hq => (OC_36.lt q hq).1
  have B_5 := B_5.later (Ext.tr x_26 (Ext.tr x_31 (Ext.tr x_35 x_40)))
  refine fb rfl rfl rfl fun w_43 x_44 Q hK => st (new := [.int .i64 W.field.wide, .int .i64 W.field.high, .slice A_15 ((W.field.places).length) c_15, .slice A_27 ((W.bases).length) c_27, .slice a.S W.stocks.length a.s, .slice a.M W.mines.length a.m, .slice a.T W.troops.length a.t, .int .i64 W.next, .int .i64 W.now]) rfl rfl (B_5.later x_44) rfl HitS_sz_S_api_Cell rfl rfl rfl fun w_45 m_46 B_5 => hK _ _ ?_
  have q_48 := x_44.size
  have z_43 := Ext.tr z_39 x_44
  have q_49 := m_46.size
  have z_45 := Ext.mod z_43 m_46 (by simp only [List.mem_singleton, forall_eq]; omega)
  have q_47 := m_46.size
  refine fw rfl rfl (fun _ => fa HitS_fd_api_World_2 rfl) rfl <| fb rfl rfl rfl fun w_50 x_51 Q hK => st (new := [.int .i64 W.field.wide, .int .i64 W.field.high, .slice A_15 ((W.field.places).length) c_15, .slice A_27 ((W.bases).length) c_27, .slice A_36 ((W.stocks).length) c_36, .slice a.M W.mines.length a.m, .slice a.T W.troops.length a.t, .int .i64 W.next, .int .i64 W.now]) rfl rfl (B_5.later x_51) rfl HitS_sz_S_int rfl rfl rfl fun w_52 m_53 B_5 => hK _ _ ?_
  have q_55 := x_51.size
  have z_50 := Ext.tr z_45 x_51
  have q_56 := m_53.size
  have z_52 := Ext.mod z_50 m_53 (by simp only [List.mem_singleton, forall_eq]; omega)
  have q_54 := m_53.size
  refine fn fun w_57 x_58 => ?_
  have q_59 := x_58.size
  have z_57 := Ext.tr z_52 x_58
  refine nT <| sq <| ?_
  refine rd [(1, 0), (2, 2), (4, 0), (5, 2), (7, 3), (9, 3)] [0, 1, 3, 4, 2, 6, 5, 7, 8, 9] (by kernel_rfl) (by kernel_rfl) ?_
  refine fw rfl rfl (fun _ => fa HitS_fd_api_World_3 rfl) rfl <| ?_
  have B_5 := B_5.later x_58
  refine fq rfl rfl (fun _ x => ld rfl ((B_5.later x).one HitS_ag_S_int rfl)) rfl <| fw rfl rfl (fun _ => fa HitS_fd_api_World_4 rfl) rfl <| fq rfl rfl (fun _ x => ld rfl ((B_5.later x).one HitS_ag_S_api_Troop rfl)) rfl <| fx rfl rfl rfl fun w_60 x_61 Q hK => ca HitS_en_slices_Clone_S_int_int_ rfl rfl ((clone_I _ _ W.mines _ (hW.M.keep (Ext.tr z_57 x_61))).mono ?_)
  rintro e w_65 ⟨A_62, c_62, rfl, OC_62, hn_62, x_66⟩
  refine ⟨_, rfl, hK _ _ ⟨Ext.tr x_61 x_66, ?_⟩⟩
  have q_67 := x_61.size
  have z_60 := Ext.tr z_57 x_61
  have q_68 := x_66.size
  have z_65 := Ext.tr z_60 x_66
  have u_63 := fun q hq => (OC_62.lt q hq).2
  have lo_64 := fun q hq => (OC_62.lt q hq).1
  refine fw rfl rfl (fun _ => fa HitS_fd_api_World_3 rfl) rfl <| fx rfl rfl rfl fun w_69 x_70 Q hK => ca HitS_en_slices_Clone_S_api_Troop_api_Troop_ rfl rfl ((clone_T _ _ W.troops _ (hW.T.keep (Ext.tr z_65 x_70))).mono ?_)
  rintro e w_74 ⟨A_71, c_71, rfl, OC_71, hn_71, x_75⟩
  refine ⟨_, rfl, hK _ _ ⟨Ext.tr x_70 x_75, ?_⟩⟩
  have q_76 := x_70.size
  have z_69 := Ext.tr z_65 x_70
  have q_77 := x_75.size
  have z_74 := Ext.tr z_69 x_75
  have u_72 := fun q hq => (OC_71.lt q hq).2
  have lo_73 := fun q hq => (OC_71.lt q hq).1
  have B_5 := B_5.later (Ext.tr x_61 (Ext.tr x_66 (Ext.tr x_70 x_75)))
  refine fb rfl rfl rfl fun w_78 x_79 Q hK => st (new := [.int .i64 W.field.wide, .int .i64 W.field.high, .slice A_15 ((W.field.places).length) c_15, .slice A_27 ((W.bases).length) c_27, .slice A_36 ((W.stocks).length) c_36, .slice A_62 ((W.mines).length) c_62, .slice a.T W.troops.length a.t, .int .i64 W.next, .int .i64 W.now]) rfl rfl (B_5.later x_79) rfl HitS_sz_S_int rfl rfl rfl fun w_80 m_81 B_5 => hK _ _ ?_
  have q_83 := x_79.size
  have z_78 := Ext.tr z_74 x_79
  have q_84 := m_81.size
  have z_80 := Ext.mod z_78 m_81 (by simp only [List.mem_singleton, forall_eq]; omega)
  have q_82 := m_81.size
  refine fw rfl rfl (fun _ => fa HitS_fd_api_World_4 rfl) rfl <| fb rfl rfl rfl fun w_85 x_86 Q hK => st (new := [.int .i64 W.field.wide, .int .i64 W.field.high, .slice A_15 ((W.field.places).length) c_15, .slice A_27 ((W.bases).length) c_27, .slice A_36 ((W.stocks).length) c_36, .slice A_62 ((W.mines).length) c_62, .slice A_71 ((W.troops).length) c_71, .int .i64 W.next, .int .i64 W.now]) rfl rfl (B_5.later x_86) rfl HitS_sz_S_api_Troop rfl rfl rfl fun w_87 m_88 B_5 => hK _ _ ?_
  have q_90 := x_86.size
  have z_85 := Ext.tr z_80 x_86
  have q_91 := m_88.size
  have z_87 := Ext.mod z_85 m_88 (by simp only [List.mem_singleton, forall_eq]; omega)
  have q_89 := m_88.size
  refine fn fun w_92 x_93 => ?_
  have q_94 := x_93.size
  have z_92 := Ext.tr z_87 x_93
  refine nT <| sq <| rg <| ?_
  have B_5 := B_5.later x_93
  refine vl (ld rfl (B_5.all HitS_ag_api_World HitS_sz_api_World)) rfl <| ?_
  have B_12 := B_12.later x_19
  have B_12 := B_12.mod m_22 (by simp only [List.mem_singleton]; omega)
  have B_12 := B_12.later (Ext.tr x_26 (Ext.tr x_31 (Ext.tr x_35 (Ext.tr x_40 x_44))))
  have B_12 := B_12.mod m_46 (by simp only [List.mem_singleton]; omega)
  have B_12 := B_12.later x_51
  have B_12 := B_12.mod m_53 (by simp only [List.mem_singleton]; omega)
  have B_12 := B_12.later (Ext.tr x_58 (Ext.tr x_61 (Ext.tr x_66 (Ext.tr x_70 (Ext.tr x_75 x_79)))))
  have B_12 := B_12.mod m_81 (by simp only [List.mem_singleton]; omega)
  have B_12 := B_12.later x_86
  have B_12 := B_12.mod m_88 (by simp only [List.mem_singleton]; omega)
  have B_12 := B_12.later x_93
  refine st (new := [.int .i64 W.field.wide, .int .i64 W.field.high, .slice A_15 ((W.field.places).length) c_15, .slice A_27 ((W.bases).length) c_27, .slice A_36 ((W.stocks).length) c_36, .slice A_62 ((W.mines).length) c_62, .slice A_71 ((W.troops).length) c_71, .int .i64 W.next, .int .i64 W.now]) rfl rfl B_12 rfl HitS_sz_api_World rfl rfl rfl fun w_95 m_96 B_12 => ?_
  have q_98 := m_96.size
  have z_95 := Ext.mod z_92 m_96 (by simp only [List.mem_singleton, forall_eq]; omega)
  have q_97 := m_96.size
  refine nl <| nT <| rt <| tR (.cell rfl (B_12.all HitS_ag_api_World HitS_sz_api_World) .nil) <| ?_
  have OC_15 := OC_15.mod m_22 (fun q hq h => by have hb := List.mem_singleton.1 h; exfalso; (have := lo_17 q hq; omega))
  have OC_15 := OC_15.later (Ext.tr x_26 (Ext.tr x_31 (Ext.tr x_35 (Ext.tr x_40 x_44))))
  have OC_15 := OC_15.mod m_46 (fun q hq h => by have hb := List.mem_singleton.1 h; exfalso; (have := lo_17 q hq; omega))
  have OC_15 := OC_15.later x_51
  have OC_15 := OC_15.mod m_53 (fun q hq h => by have hb := List.mem_singleton.1 h; exfalso; (have := lo_17 q hq; omega))
  have OC_15 := OC_15.later (Ext.tr x_58 (Ext.tr x_61 (Ext.tr x_66 (Ext.tr x_70 (Ext.tr x_75 x_79)))))
  have OC_15 := OC_15.mod m_81 (fun q hq h => by have hb := List.mem_singleton.1 h; exfalso; (have := lo_17 q hq; omega))
  have OC_15 := OC_15.later x_86
  have OC_15 := OC_15.mod m_88 (fun q hq h => by have hb := List.mem_singleton.1 h; exfalso; (have := lo_17 q hq; omega))
  have OC_15 := OC_15.later x_93
  have OC_15 := OC_15.mod m_96 (fun q hq h => by have hb := List.mem_singleton.1 h; exfalso; (have := lo_17 q hq; omega))
  have OC_27 := OC_27.later (Ext.tr x_35 (Ext.tr x_40 x_44))
  have OC_27 := OC_27.mod m_46 (fun q hq h => by have hb := List.mem_singleton.1 h; exfalso; (have := lo_29 q hq; omega))
  have OC_27 := OC_27.later x_51
  have OC_27 := OC_27.mod m_53 (fun q hq h => by have hb := List.mem_singleton.1 h; exfalso; (have := lo_29 q hq; omega))
  have OC_27 := OC_27.later (Ext.tr x_58 (Ext.tr x_61 (Ext.tr x_66 (Ext.tr x_70 (Ext.tr x_75 x_79)))))
  have OC_27 := OC_27.mod m_81 (fun q hq h => by have hb := List.mem_singleton.1 h; exfalso; (have := lo_29 q hq; omega))
  have OC_27 := OC_27.later x_86
  have OC_27 := OC_27.mod m_88 (fun q hq h => by have hb := List.mem_singleton.1 h; exfalso; (have := lo_29 q hq; omega))
  have OC_27 := OC_27.later x_93
  have OC_27 := OC_27.mod m_96 (fun q hq h => by have hb := List.mem_singleton.1 h; exfalso; (have := lo_29 q hq; omega))
  have OC_36 := OC_36.later x_44
  have OC_36 := OC_36.mod m_46 (fun q hq h => by have hb := List.mem_singleton.1 h; exfalso; (have := lo_38 q hq; omega))
  have OC_36 := OC_36.later x_51
  have OC_36 := OC_36.mod m_53 (fun q hq h => by have hb := List.mem_singleton.1 h; exfalso; (have := lo_38 q hq; omega))
  have OC_36 := OC_36.later (Ext.tr x_58 (Ext.tr x_61 (Ext.tr x_66 (Ext.tr x_70 (Ext.tr x_75 x_79)))))
  have OC_36 := OC_36.mod m_81 (fun q hq h => by have hb := List.mem_singleton.1 h; exfalso; (have := lo_38 q hq; omega))
  have OC_36 := OC_36.later x_86
  have OC_36 := OC_36.mod m_88 (fun q hq h => by have hb := List.mem_singleton.1 h; exfalso; (have := lo_38 q hq; omega))
  have OC_36 := OC_36.later x_93
  have OC_36 := OC_36.mod m_96 (fun q hq h => by have hb := List.mem_singleton.1 h; exfalso; (have := lo_38 q hq; omega))
  have OC_62 := OC_62.later (Ext.tr x_70 (Ext.tr x_75 x_79))
  have OC_62 := OC_62.mod m_81 (fun q hq h => by have hb := List.mem_singleton.1 h; exfalso; (have := lo_64 q hq; omega))
  have OC_62 := OC_62.later x_86
  have OC_62 := OC_62.mod m_88 (fun q hq h => by have hb := List.mem_singleton.1 h; exfalso; (have := lo_64 q hq; omega))
  have OC_62 := OC_62.later x_93
  have OC_62 := OC_62.mod m_96 (fun q hq h => by have hb := List.mem_singleton.1 h; exfalso; (have := lo_64 q hq; omega))
  have OC_71 := OC_71.later x_79
  have OC_71 := OC_71.mod m_81 (fun q hq h => by have hb := List.mem_singleton.1 h; exfalso; (have := lo_73 q hq; omega))
  have OC_71 := OC_71.later x_86
  have OC_71 := OC_71.mod m_88 (fun q hq h => by have hb := List.mem_singleton.1 h; exfalso; (have := lo_73 q hq; omega))
  have OC_71 := OC_71.later x_93
  have OC_71 := OC_71.mod m_96 (fun q hq h => by have hb := List.mem_singleton.1 h; exfalso; (have := lo_73 q hq; omega))
  have hR := WOwn.of5 (Z := w.heap.size) (OC_15.down (by omega)) (OC_27.down (by omega)) (OC_36.down (by omega)) (OC_62.down (by omega)) (OC_71.down (by omega)) (fun q h1 h2 => by exfalso; (have := lo_29 q h1; (have := u_16 q h2; omega))) (fun q h1 h2 => by exfalso; (have := lo_38 q h1; (have := u_16 q h2; omega))) (fun q h1 h2 => by exfalso; (have := lo_38 q h1; (have := u_28 q h2; omega))) (fun q h1 h2 => by exfalso; (have := lo_64 q h1; (have := u_16 q h2; omega))) (fun q h1 h2 => by exfalso; (have := lo_64 q h1; (have := u_28 q h2; omega))) (fun q h1 h2 => by exfalso; (have := lo_64 q h1; (have := u_37 q h2; omega))) (fun q h1 h2 => by exfalso; (have := lo_73 q h1; (have := u_16 q h2; omega))) (fun q h1 h2 => by exfalso; (have := lo_73 q h1; (have := u_28 q h2; omega))) (fun q h1 h2 => by exfalso; (have := lo_73 q h1; (have := u_37 q h2; omega))) (fun q h1 h2 => by exfalso; (have := lo_73 q h1; (have := u_63 q h2; omega))) hW.nums
  exact ⟨⟨A_15, A_27, A_36, A_62, A_71, c_15, c_27, c_36, c_62, c_71⟩, rfl, hR, z_95⟩
set_option maxRecDepth 100000 in
set_option maxHeartbeats 400000 in
theorem struck_any (l : List Blw) (A : Option Addr) (c : Nat) (a : Wd.At) (W : Wd) (w : World) (hW : Wd.Has w a W) (hl : Blw.rep.SHas 16 w A c l) :
    Calls Try.prog 39 #[.agg ((Wd.cells a W).toArray), .slice A l.length c] w (StruckPost W l w) := by
  refine calls_W (n := 62) Try.func39 rfl rfl rfl ?_
  refine sq <| rg <| bx rfl rfl rfl rfl fun w_1 b_2 x_3 l_4 B_5 => ?_
  have q_6 := x_3.size
  have z_1 := Ext.tr (Ext.rf w) x_3
  have q_7 := B_5.lt
  refine al rfl HitS_zv_api_World rfl rfl fun w_8 b_9 x_10 l_11 B_12 => ?_
  have q_13 := x_10.size
  have z_8 := Ext.tr z_1 x_10
  have q_14 := B_12.lt
  refine vl (as_ rfl) rfl <| vl (as_ rfl) rfl <| nl <| nT <| sq <| rg <| ?_
  have B_5 := B_5.later x_10
  refine vl (ld rfl (B_5.all HitS_ag_api_World HitS_sz_api_World)) rfl <| vl (mv rfl) rfl <| ca HitS_en_hit_Blows rfl rfl ((blows_any a W l _ _ _ (hW.keep z_8) (hl.keep z_8)).mono ?_)
  rintro e w_18 ⟨A_15, c_15, rfl, OH_15, x_19⟩
  refine ⟨_, rfl, ?_⟩
  have q_20 := x_19.size
  have z_18 := Ext.tr z_8 x_19
  have u_16 := fun q hq => (OH_15.lt q hq).2
  have lo_17 := fun q hq => (OH_15.lt q hq).1
  refine vl (mv rfl) rfl <| vl (ex rfl rfl) rfl <| vl (ex rfl rfl) rfl <| vl (as_ rfl) rfl <| vl (as_ rfl) rfl <| nl <| nT <| sq <| sq <| rg <| vl (mv rfl) rfl <| vl (bne rfl rfl) rfl <| nl <| nT <| ?_
  refine cne rfl (fun h_21 => ?_) (fun h_21 => ?_)
  · refine sq <| rg <| vl (v := .agg #[.int .i64 0, .int .i64 0, .slice none 0 0, .slice none 0 0, .slice none 0 0, .slice none 0 0, .slice none 0 0, .int .i64 0, .int .i64 0]) (bd rfl (by kernel_rfl)) rfl <| vl (mv rfl) rfl <| ?_
    have B_12 := B_12.later x_19
    refine st (new := [.int .i64 0, .int .i64 0, .slice none 0 0, .slice none 0 0, .slice none 0 0, .slice none 0 0, .slice none 0 0, .int .i64 0, .int .i64 0]) rfl rfl B_12 rfl HitS_sz_api_World rfl rfl rfl fun w_22 m_23 B_12 => ?_
    have q_25 := m_23.size
    have z_22 := Ext.mod z_18 m_23 (by simp only [List.mem_singleton, forall_eq]; omega)
    have q_24 := m_23.size
    refine vl (as_ rfl) rfl <| vl (as_ rfl) rfl <| nl <| nT <| rt <| tT <| tR (.cell rfl (B_12.all HitS_ag_api_World HitS_sz_api_World) (.tmp rfl (.tmp rfl .nil))) <| ?_
    obtain ⟨e1, e2⟩ := struck_no h_21
    exact ⟨⟨none, none, none, none, none, 0, 0, 0, 0, 0⟩, none, 0, by rw [e1, e2]; rfl, by rw [e1]; exact WOwn.zero _ _, by rw [e2]; exact Rep.SOwn.nil _, fun q hq => by simp [Rep.blkOf] at hq, z_22⟩
  · obtain ⟨hc, h200⟩ := blowE_ok h_21
    have hG := Good.of_chk hc
    have hnt := hG.nt
    obtain ⟨b1, b2⟩ := harm_of h_21
    have hok := trp_ok hW.T
    have hlf := fun k (hk : k < W.troops.length) => hG.lifeD hk
    refine sk <| nT <| sq <| rg <| ?_
    have B_5 := B_5.later x_19
    refine vl (ld rfl (B_5.all HitS_ag_api_World HitS_sz_api_World)) rfl <| ca HitS_en_hit_own rfl rfl ((hown_any a W _ (hW.keep z_18)).mono ?_)
    rintro e w_28 ⟨a1, rfl, HO, x_29⟩
    refine ⟨_, rfl, ?_⟩
    have q_30 := x_29.size
    have z_28 := Ext.tr z_18 x_29
    have u_26 := fun q hq => (HO.lt q hq).2
    have lo_27 := fun q hq => (HO.lt q hq).1
    have B_5 := B_5.later x_29
    refine st rfl rfl B_5 rfl HitS_sz_api_World rfl rfl rfl fun w_31 m_32 B_5 => ?_
    have q_34 := m_32.size
    have z_31 := Ext.mod z_28 m_32 (by simp only [List.mem_singleton, forall_eq]; omega)
    have q_33 := m_32.size
    refine nl <| nT <| sq <| rg <| vl (as_ rfl) rfl <| nl <| nT <| sq <| rg <| vl (fa HitS_fd_api_World_4 rfl) rfl <| vl (ld rfl (B_5.one HitS_ag_S_api_Troop rfl)) rfl <| vl (ln Try.underlying26 rfl) rfl <| mZ (R := Trp.rep) (by_ := 56) (B := w.heap.size) (c := W.troops.length) (zv := Trp.zero) Rep.flat_plain Try.underlying26 Trp.info rfl (by decide) Trp.zero_raw rfl rfl rfl (by omega) (by omega) (by omega) fun w_35 b_36 x_37 l_38 O_39 => ?_
    have q_40 := x_37.size
    have z_35 := Ext.tr z_31 x_37
    have u_41 := fun q hq => (O_39.lt q hq).2
    have lo_42 : ∀ q ∈ Rep.blkOf (some ⟨b_36, 0, none⟩), b_36 ≤ q := fun q hq => Nat.le_of_eq (List.mem_singleton.1 hq).symm
    refine vl (as_ rfl) rfl <| nl <| nT <| sq <| sq <| rg <| vl (fa HitS_fd_api_World_4 rfl) rfl <| ?_
    have B_5 := B_5.later x_37
    refine vl (ld rfl (B_5.one HitS_ag_S_api_Troop rfl)) rfl <| vl (ln Try.underlying26 rfl) rfl <| vl (mv rfl) rfl <| nl <| nT <| bk <| ?_
    have OH_15 := OH_15.later x_29
    have OH_15 := OH_15.mod m_32 (fun q hq h => by have hb := List.mem_singleton.1 h; exfalso; (have := lo_17 q hq; omega))
    have OH_15 := OH_15.later x_37
    have HO := HO.mod m_32 (fun q hq h => by have hb := List.mem_singleton.1 h; exfalso; (have := lo_27 q hq; omega))
    have HO := HO.later x_37
    have B_12 := B_12.later (Ext.tr x_19 x_29)
    have B_12 := B_12.mod m_32 (by simp only [List.mem_singleton]; omega)
    have B_12 := B_12.later x_37
    refine lp (fun mI EI wI => ∃ k : Nat, ∃ Al : Option Addr, ∃ cl : Nat, ∃ Ag : Option Addr, ∃ cg : Nat, EI = [(2, .pointer (some ⟨b_2, 0, none⟩)), (4, .pointer (some ⟨b_9, 0, none⟩)), (5, .slice none 0 0), (6, .int .i64 0), (7, .slice A_15 ((harmW W l).length) c_15), (9, .slice Ag ((goneL W.troops (harmW W l) k).length) cg), (10, .slice Al ((leftL W.troops (harmW W l) k).length) cl), (30, .slice a1.T W.troops.length a1.t), (31, .int .i64 (W.troops.length : Int)), (32, .int .i64 (k : Int))] ∧ mI = W.troops.length - k ∧ Ext w wI ∧ Blk wI b_2 (Wd.cells a1 W) 28 (0, 0) ∧ Blk wI b_9 [.int .i64 0, .int .i64 0, .slice none 0 0, .slice none 0 0, .slice none 0 0, .slice none 0 0, .slice none 0 0, .int .i64 0, .int .i64 0] 28 (0, 0) ∧ repI.SOwn 3 8 wI w_8.heap.size (Rep.blkOf A_15) A_15 c_15 (harmW W l) ∧ WOwn wI w_18.heap.size a1 W ∧ Trp.rep.SOwn 39 56 wI w.heap.size (Rep.blkOf Al) Al cl (leftL W.troops (harmW W l) k) ∧ repI.SOwn 3 8 wI w.heap.size (Rep.blkOf Ag) Ag cg (goneL W.troops (harmW W l) k) ∧ (k ≤ W.troops.length) ∧ (∀ q ∈ Rep.blkOf Al, q = b_2 → False) ∧ (∀ q ∈ Rep.blkOf Al, q = b_9 → False) ∧ (∀ q ∈ Rep.blkOf Al, q ∈ WOwn.foot a1 → False) ∧ (∀ q ∈ Rep.blkOf Al, q ∈ Rep.blkOf A_15 → False) ∧ (∀ q ∈ Rep.blkOf Ag, q = b_2 → False) ∧ (∀ q ∈ Rep.blkOf Ag, q = b_9 → False) ∧ (∀ q ∈ Rep.blkOf Ag, q ∈ WOwn.foot a1 → False) ∧ (∀ q ∈ Rep.blkOf Ag, q ∈ Rep.blkOf A_15 → False) ∧ (∀ q ∈ Rep.blkOf Ag, q ∈ Rep.blkOf Al → False)) _ _ ⟨0, some ⟨b_36, 0, none⟩, W.troops.length, none, 0, rfl, rfl, z_35, B_5, B_12, OH_15, HO, O_39, (Rep.SOwn.nil _), by omega, (fun q hq hb => by (have := lo_42 q hq; omega)), (fun q hq hb => by (have := lo_42 q hq; omega)), (fun q hq hb => by (have := lo_42 q hq; (have := u_26 q hb; omega))), (fun q hq hb => by (have := lo_42 q hq; (have := u_16 q hb; omega))), (fun q hq hb => by (simp [Rep.blkOf] at hq)), (fun q hq hb => by (simp [Rep.blkOf] at hq)), (fun q hq hb => by (simp [Rep.blkOf] at hq)), (fun q hq hb => by (simp [Rep.blkOf] at hq)), (fun q hq hb => by (simp [Rep.blkOf] at hq))⟩ (.cons rfl (.cons rfl (.cons rfl (.cons rfl (.cons rfl (.cons rfl (.cons rfl (.cons rfl (.cons rfl (.cons (loI rfl (by first | omega | rfl | (simp <;> omega))) .nil)))))))))) ?_
    rintro m_53 E_54 w_52 ⟨k, Al, cl, Ag, cg, rfl, rfl, z_52, B_5, B_12, OH_15, HO, OL, OG, hk, d_43, d_44, d_45, d_46, d_47, d_48, d_49, d_50, d_51⟩
    have q_55 := z_52.size
    have q_56 := B_5.lt
    have q_57 := B_12.lt
    have u_58 := fun q hq => (OH_15.lt q hq).2
    have u_59 := fun q hq => (HO.lt q hq).2
    have u_60 := fun q hq => (OL.lt q hq).2
    have u_61 := fun q hq => (OG.lt q hq).2
    have n1 := left_len W.troops (harmW W l) k
    have n2 := gone_len W.troops (harmW W l) k
    refine sq <| rg <| vl (blt rfl rfl) rfl <| nl <| nT <| sq <| ?_
    refine clt rfl (fun h_62 => ?_) (fun h_62 => ?_)
    · obtain ⟨v1, v2⟩ := b2 k
      have hlk := hlf k (by omega)
      refine sk <| nT <| sq <| bk <| sq <| rg <| vl (mv rfl) rfl <| vl (iA k Try.underlying26 HitS_sz_api_Troop rfl rfl (HO.T.has.adr (Nat.zero_lt_of_lt (show k < _ from (by omega)))) rfl (by omega)) rfl <| vl (ld rfl (Rep.SHas.elt hcT (HO.T.has.adh (Nat.zero_lt_of_lt (show k < _ from (by omega)))) (get_d (l := W.troops) (u := default) (by omega)) HitS_ag_api_Troop HitS_sz_api_Troop)) rfl <| al rfl HitS_zv_api_Troop rfl rfl fun w_63 b_64 x_65 l_66 B_67 => ?_
      have q_68 := x_65.size
      have z_63 := Ext.tr z_52 x_65
      have q_69 := B_67.lt
      refine vl (as_ rfl) rfl <| st (new := [.int .i64 ((W.troops.getD k default).id), .int .i64 ((W.troops.getD k default).owner), .int .i64 ((W.troops.getD k default).kind), .int .i64 ((W.troops.getD k default).spot.x), .int .i64 ((W.troops.getD k default).spot.y), .int .i64 ((W.troops.getD k default).life), .int .i64 ((W.troops.getD k default).load)]) rfl rfl B_67 rfl HitS_sz_api_Troop rfl rfl rfl fun w_70 m_71 B_67 => ?_
      have q_73 := m_71.size
      have z_70 := Ext.mod z_63 m_71 (by simp only [List.mem_singleton, forall_eq]; omega)
      have q_72 := m_71.size
      refine nl <| nT <| sq <| ?_
      refine rd [(1, 0), (5, 0), (8, 3)] [0, 1, 2, 3, 4, 5, 6, 7, 8] (by kernel_rfl) (by kernel_rfl) ?_
      refine fw rfl rfl (fun _ => fa HitS_fd_api_Troop_4 rfl) rfl <| fq rfl rfl (fun _ x => ld rfl ((B_67.later x).one HitS_ag_int rfl)) rfl <| fw rfl rfl (fun _ => mv rfl) rfl <| fw rfl rfl (fun _ => mv rfl) rfl <| ?_
      have OH_15 := OH_15.later x_65
      have OH_15 := OH_15.mod m_71 (fun q hq h => by have hb := List.mem_singleton.1 h; exfalso; (have := u_58 q hq; have := u_16 q hq; omega))
      refine fw rfl rfl (fun _ => iA k Try.underlying22 HitS_sz_int rfl rfl (OH_15.has.adr (Nat.zero_lt_of_lt (show k < _ from (by omega)))) rfl (by omega)) rfl <| fq rfl rfl (fun _ x => ld rfl (Rep.SHas.one' hcI ((OH_15.later x).has.adh (Nat.zero_lt_of_lt (show k < _ from (by omega)))) (get_d (l := harmW W l) (u := 0) (by omega)) rfl HitS_ag_int)) rfl <| fw rfl rfl (fun _ => bsu rfl rfl (inI (by omega))) rfl <| fw rfl rfl (fun _ => fa HitS_fd_api_Troop_4 rfl) rfl <| fb rfl rfl rfl fun w_74 x_75 Q hK => st (new := [.int .i64 ((W.troops.getD k default).id), .int .i64 ((W.troops.getD k default).owner), .int .i64 ((W.troops.getD k default).kind), .int .i64 ((W.troops.getD k default).spot.x), .int .i64 ((W.troops.getD k default).spot.y), .int .i64 (((W.troops.getD k default).life) - ((harmW W l).getD k 0)), .int .i64 ((W.troops.getD k default).load)]) rfl rfl (B_67.later x_75) rfl HitS_sz_int rfl rfl rfl fun w_76 m_77 B_67 => hK _ _ ?_
      have q_79 := x_75.size
      have z_74 := Ext.tr z_70 x_75
      have q_80 := m_77.size
      have z_76 := Ext.mod z_74 m_77 (by simp only [List.mem_singleton, forall_eq]; omega)
      have q_78 := m_77.size
      refine fn fun w_81 x_82 => ?_
      have q_83 := x_82.size
      have z_81 := Ext.tr z_76 x_82
      refine nT <| sq <| rg <| vl (fa HitS_fd_api_Troop_4 rfl) rfl <| ?_
      have B_67 := B_67.later x_82
      refine vl (ld rfl (B_67.one HitS_ag_int rfl)) rfl <| vl (bgt rfl rfl) rfl <| nl <| nT <| ?_
      refine clt rfl (fun h_84 => ?_) (fun h_84 => ?_)
      · refine rg <| vl (mv rfl) rfl <| vl (ld rfl (B_67.all HitS_ag_api_Troop HitS_sz_api_Troop)) rfl <| bs (e := 39) (cs := [.int .i64 ((W.troops.getD k default).id), .int .i64 ((W.troops.getD k default).owner), .int .i64 ((W.troops.getD k default).kind), .int .i64 ((W.troops.getD k default).spot.x), .int .i64 ((W.troops.getD k default).spot.y), .int .i64 (((W.troops.getD k default).life) - ((harmW W l).getD k 0)), .int .i64 ((W.troops.getD k default).load)]) rfl (fun _ => by kernel_rfl) rfl fun w_85 b_86 x_87 l_88 B_89 => ?_
        have q_90 := x_87.size
        have z_85 := Ext.tr z_81 x_87
        have q_91 := B_89.lt
        have OL := OL.later x_65
        have OL := OL.mod m_71 (fun q hq h => by have hb := List.mem_singleton.1 h; exfalso; (have := u_60 q hq; omega))
        have OL := OL.later x_75
        have OL := OL.mod m_77 (fun q hq h => by have hb := List.mem_singleton.1 h; exfalso; (have := u_60 q hq; omega))
        have OL := OL.later (Ext.tr x_82 x_87)
        refine ap HitS_el_S_api_Troop Rep.flat_bare OL (Blk.has1 (R := Trp.rep) (by_ := 56) (q := (⟨(W.troops.getD k default).id, (W.troops.getD k default).owner, (W.troops.getD k default).kind, ⟨(W.troops.getD k default).spot.x, (W.troops.getD k default).spot.y⟩, ((W.troops.getD k default).life) - ((harmW W l).getD k 0), (W.troops.getD k default).load⟩ : Trp)) B_89 ⟨rfl, by obtain ⟨o1, o2, o3, o4, o5, o6, o7⟩ := hok k; exact ⟨o1, o2, o3, o4, o5, okI_iff.2 (by (try dsimp only); omega), o7⟩⟩ (by decide)) rfl rfl (by simp only [List.length_cons, List.length_nil]; omega) (by simp only [List.length_cons, List.length_nil]; omega) z_85.size rfl fun w_92 A_93 c_94 m_95 O_96 g_97 n_98 => ?_
        have q_99 := m_95.size
        have z_92 := Ext.mod z_85 m_95 (fun q hq => (OL.lt q hq).1)
        have u_100 := fun q hq => (O_96.lt q hq).2
        have q_101 := m_95.size
        refine vl (as_ rfl) rfl <| nl <| nB <| nT <| rg <| vl (bad rfl rfl (inI (by omega))) rfl <| vl (mv rfl) rfl <| nl <| ?_
        have e1 : leftL W.troops (harmW W l) (k + 1) = leftL W.troops (harmW W l) k ++ [(⟨(W.troops.getD k default).id, (W.troops.getD k default).owner, (W.troops.getD k default).kind, ⟨(W.troops.getD k default).spot.x, (W.troops.getD k default).spot.y⟩, ((W.troops.getD k default).life) - ((harmW W l).getD k 0), (W.troops.getD k default).load⟩ : Trp)] := by rw [left_succ_yes h_84]; try rfl
        have e2 : goneL W.troops (harmW W l) (k + 1) = goneL W.troops (harmW W l) k := by rw [gone_succ_yes h_84]; try rfl
        have B_5 := B_5.later x_65
        have B_5 := B_5.mod m_71 (by simp only [List.mem_singleton]; omega)
        have B_5 := B_5.later x_75
        have B_5 := B_5.mod m_77 (by simp only [List.mem_singleton]; omega)
        have B_5 := B_5.later (Ext.tr x_82 x_87)
        have B_5 := B_5.mod m_95 (fun hq => d_43 _ hq rfl)
        have B_12 := B_12.later x_65
        have B_12 := B_12.mod m_71 (by simp only [List.mem_singleton]; omega)
        have B_12 := B_12.later x_75
        have B_12 := B_12.mod m_77 (by simp only [List.mem_singleton]; omega)
        have B_12 := B_12.later (Ext.tr x_82 x_87)
        have B_12 := B_12.mod m_95 (fun hq => d_44 _ hq rfl)
        have OH_15 := OH_15.later x_75
        have OH_15 := OH_15.mod m_77 (fun q hq h => by have hb := List.mem_singleton.1 h; exfalso; (have := u_58 q hq; have := u_16 q hq; omega))
        have OH_15 := OH_15.later (Ext.tr x_82 x_87)
        have OH_15 := OH_15.mod m_95 (fun q hq h => by exfalso; (exact d_46 q h hq))
        have HO := HO.later x_65
        have HO := HO.mod m_71 (fun q hq h => by have hb := List.mem_singleton.1 h; exfalso; (have := u_59 q hq; have := u_26 q hq; omega))
        have HO := HO.later x_75
        have HO := HO.mod m_77 (fun q hq h => by have hb := List.mem_singleton.1 h; exfalso; (have := u_59 q hq; have := u_26 q hq; omega))
        have HO := HO.later (Ext.tr x_82 x_87)
        have HO := HO.mod m_95 (fun q hq h => by exfalso; (exact d_45 q h hq))
        have OG := OG.later x_65
        have OG := OG.mod m_71 (fun q hq h => by have hb := List.mem_singleton.1 h; exfalso; (have := u_61 q hq; omega))
        have OG := OG.later x_75
        have OG := OG.mod m_77 (fun q hq h => by have hb := List.mem_singleton.1 h; exfalso; (have := u_61 q hq; omega))
        have OG := OG.later (Ext.tr x_82 x_87)
        have OG := OG.mod m_95 (fun q hq h => by exfalso; (exact d_51 q hq h))
        exact nI _ _ ⟨k + 1, A_93, c_94, Ag, cg, rfl, rfl, z_92, B_5, B_12, OH_15, HO, (by rw [e1]; exact O_96), (by rw [e2]; exact OG), by omega, (fun q hq hb => by (exact Or.elim (g_97 q hq) (fun k_102 => by (exact d_43 q k_102 hb)) (fun k_102 => by omega))), (fun q hq hb => by (exact Or.elim (g_97 q hq) (fun k_103 => by (exact d_44 q k_103 hb)) (fun k_103 => by omega))), (fun q hq hb => by (exact Or.elim (g_97 q hq) (fun k_104 => by (exact d_45 q k_104 hb)) (fun k_104 => by (have := u_59 q hb; have := u_26 q hb; omega)))), (fun q hq hb => by (exact Or.elim (g_97 q hq) (fun k_105 => by (exact d_46 q k_105 hb)) (fun k_105 => by (have := u_58 q hb; have := u_16 q hb; omega)))), (fun q hq hb => by (exact d_47 q hq hb)), (fun q hq hb => by (exact d_48 q hq hb)), (fun q hq hb => by (exact d_49 q hq hb)), (fun q hq hb => by (exact d_50 q hq hb)), (fun q hq hb => by (exact Or.elim (g_97 q hb) (fun k_106 => by (exact d_51 q hq k_106)) (fun k_106 => by (have := u_61 q hq; omega))))⟩ (by omega) (.cons rfl (.cons rfl (.cons rfl (.cons rfl (.cons rfl (.cons (by rw [e2]; rfl) (.cons (by rw [e1]; rfl) (.cons rfl (.cons rfl (.cons (loI rfl (by first | omega | rfl | (simp <;> omega))) .nil))))))))))
      · refine rg <| vl (mv rfl) rfl <| vl (fa HitS_fd_api_Troop_0 rfl) rfl <| vl (ld rfl (B_67.one HitS_ag_int rfl)) rfl <| bs (e := 3) (cs := [.int .i64 ((W.troops.getD k default).id)]) rfl (fun _ => by kernel_rfl) rfl fun w_107 b_108 x_109 l_110 B_111 => ?_
        have q_112 := x_109.size
        have z_107 := Ext.tr z_81 x_109
        have q_113 := B_111.lt
        have OG := OG.later x_65
        have OG := OG.mod m_71 (fun q hq h => by have hb := List.mem_singleton.1 h; exfalso; (have := u_61 q hq; omega))
        have OG := OG.later x_75
        have OG := OG.mod m_77 (fun q hq h => by have hb := List.mem_singleton.1 h; exfalso; (have := u_61 q hq; omega))
        have OG := OG.later (Ext.tr x_82 x_109)
        refine ap HitS_el_S_int Rep.flat_bare OG (Blk.has1 (R := repI) (by_ := 8) (q := (W.troops.getD k default).id) B_111 ⟨rfl, (hok k).1⟩ (by decide)) rfl rfl (by simp only [List.length_cons, List.length_nil]; omega) (by simp only [List.length_cons, List.length_nil]; omega) z_107.size rfl fun w_114 A_115 c_116 m_117 O_118 g_119 n_120 => ?_
        have q_121 := m_117.size
        have z_114 := Ext.mod z_107 m_117 (fun q hq => (OG.lt q hq).1)
        have u_122 := fun q hq => (O_118.lt q hq).2
        have q_123 := m_117.size
        refine vl (as_ rfl) rfl <| nl <| nB <| nT <| rg <| vl (bad rfl rfl (inI (by omega))) rfl <| vl (mv rfl) rfl <| nl <| ?_
        have e1 : leftL W.troops (harmW W l) (k + 1) = leftL W.troops (harmW W l) k := by rw [left_succ_no h_84]; try rfl
        have e2 : goneL W.troops (harmW W l) (k + 1) = goneL W.troops (harmW W l) k ++ [(W.troops.getD k default).id] := by rw [gone_succ_no h_84]; try rfl
        have B_5 := B_5.later x_65
        have B_5 := B_5.mod m_71 (by simp only [List.mem_singleton]; omega)
        have B_5 := B_5.later x_75
        have B_5 := B_5.mod m_77 (by simp only [List.mem_singleton]; omega)
        have B_5 := B_5.later (Ext.tr x_82 x_109)
        have B_5 := B_5.mod m_117 (fun hq => d_47 _ hq rfl)
        have B_12 := B_12.later x_65
        have B_12 := B_12.mod m_71 (by simp only [List.mem_singleton]; omega)
        have B_12 := B_12.later x_75
        have B_12 := B_12.mod m_77 (by simp only [List.mem_singleton]; omega)
        have B_12 := B_12.later (Ext.tr x_82 x_109)
        have B_12 := B_12.mod m_117 (fun hq => d_48 _ hq rfl)
        have OH_15 := OH_15.later x_75
        have OH_15 := OH_15.mod m_77 (fun q hq h => by have hb := List.mem_singleton.1 h; exfalso; (have := u_58 q hq; have := u_16 q hq; omega))
        have OH_15 := OH_15.later (Ext.tr x_82 x_109)
        have OH_15 := OH_15.mod m_117 (fun q hq h => by exfalso; (exact d_50 q h hq))
        have HO := HO.later x_65
        have HO := HO.mod m_71 (fun q hq h => by have hb := List.mem_singleton.1 h; exfalso; (have := u_59 q hq; have := u_26 q hq; omega))
        have HO := HO.later x_75
        have HO := HO.mod m_77 (fun q hq h => by have hb := List.mem_singleton.1 h; exfalso; (have := u_59 q hq; have := u_26 q hq; omega))
        have HO := HO.later (Ext.tr x_82 x_109)
        have HO := HO.mod m_117 (fun q hq h => by exfalso; (exact d_49 q h hq))
        have OL := OL.later x_65
        have OL := OL.mod m_71 (fun q hq h => by have hb := List.mem_singleton.1 h; exfalso; (have := u_60 q hq; omega))
        have OL := OL.later x_75
        have OL := OL.mod m_77 (fun q hq h => by have hb := List.mem_singleton.1 h; exfalso; (have := u_60 q hq; omega))
        have OL := OL.later (Ext.tr x_82 x_109)
        have OL := OL.mod m_117 (fun q hq h => by exfalso; (exact d_51 q h hq))
        exact nI _ _ ⟨k + 1, Al, cl, A_115, c_116, rfl, rfl, z_114, B_5, B_12, OH_15, HO, (by rw [e1]; exact OL), (by rw [e2]; exact O_118), by omega, (fun q hq hb => by (exact d_43 q hq hb)), (fun q hq hb => by (exact d_44 q hq hb)), (fun q hq hb => by (exact d_45 q hq hb)), (fun q hq hb => by (exact d_46 q hq hb)), (fun q hq hb => by (exact Or.elim (g_119 q hq) (fun k_124 => by (exact d_47 q k_124 hb)) (fun k_124 => by omega))), (fun q hq hb => by (exact Or.elim (g_119 q hq) (fun k_125 => by (exact d_48 q k_125 hb)) (fun k_125 => by omega))), (fun q hq hb => by (exact Or.elim (g_119 q hq) (fun k_126 => by (exact d_49 q k_126 hb)) (fun k_126 => by (have := u_59 q hb; have := u_26 q hb; omega)))), (fun q hq hb => by (exact Or.elim (g_119 q hq) (fun k_127 => by (exact d_50 q k_127 hb)) (fun k_127 => by (have := u_58 q hb; have := u_16 q hb; omega)))), (fun q hq hb => by (exact Or.elim (g_119 q hq) (fun k_128 => by (exact d_51 q k_128 hb)) (fun k_128 => by (have := u_60 q hb; omega))))⟩ (by omega) (.cons rfl (.cons rfl (.cons rfl (.cons rfl (.cons rfl (.cons (by rw [e2]; rfl) (.cons (by rw [e1]; rfl) (.cons rfl (.cons rfl (.cons (loI rfl (by first | omega | rfl | (simp <;> omega))) .nil))))))))))
    · refine xt <| xT <| xK <| xB <| nT <| sq <| rg <| vl (mv rfl) rfl <| vl (fa HitS_fd_api_World_4 rfl) rfl <| st (new := [.int .i64 W.field.wide, .int .i64 W.field.high, .slice a1.P W.field.places.length a1.p, .slice a1.B W.bases.length a1.b, .slice a1.S W.stocks.length a1.s, .slice a1.M W.mines.length a1.m, .slice Al ((leftL W.troops (harmW W l) k).length) cl, .int .i64 W.next, .int .i64 W.now]) rfl rfl B_5 rfl HitS_sz_S_api_Troop rfl rfl rfl fun w_129 m_130 B_5 => ?_
      have q_132 := m_130.size
      have z_129 := Ext.mod z_52 m_130 (by simp only [List.mem_singleton, forall_eq]; omega)
      have q_131 := m_130.size
      refine nl <| nT <| sq <| rg <| vl (ld rfl (B_5.all HitS_ag_api_World HitS_sz_api_World)) rfl <| vl (mv rfl) rfl <| ?_
      have B_12 := B_12.mod m_130 (by simp only [List.mem_singleton]; omega)
      refine st (new := [.int .i64 W.field.wide, .int .i64 W.field.high, .slice a1.P W.field.places.length a1.p, .slice a1.B W.bases.length a1.b, .slice a1.S W.stocks.length a1.s, .slice a1.M W.mines.length a1.m, .slice Al ((leftL W.troops (harmW W l) k).length) cl, .int .i64 W.next, .int .i64 W.now]) rfl rfl B_12 rfl HitS_sz_api_World rfl rfl rfl fun w_133 m_134 B_12 => ?_
      have q_136 := m_134.size
      have z_133 := Ext.mod z_129 m_134 (by simp only [List.mem_singleton, forall_eq]; omega)
      have q_135 := m_134.size
      refine vl (as_ rfl) rfl <| vl (as_ rfl) rfl <| nl <| nT <| rt <| tR (.cell rfl (B_12.all HitS_ag_api_World HitS_sz_api_World) (.tmp rfl (.tmp rfl .nil))) <| ?_
      have HO := HO.mod m_130 (fun q hq h => by have hb := List.mem_singleton.1 h; exfalso; (have := lo_27 q hq; omega))
      have HO := HO.mod m_134 (fun q hq h => by have hb := List.mem_singleton.1 h; exfalso; (have := lo_27 q hq; omega))
      have OL := OL.mod m_130 (fun q hq h => by have hb := List.mem_singleton.1 h; exfalso; (exact d_43 q hq hb))
      have OL := OL.mod m_134 (fun q hq h => by have hb := List.mem_singleton.1 h; exfalso; (exact d_44 q hq hb))
      have OG := OG.mod m_130 (fun q hq h => by have hb := List.mem_singleton.1 h; exfalso; (exact d_47 q hq hb))
      have OG := OG.mod m_134 (fun q hq h => by have hb := List.mem_singleton.1 h; exfalso; (exact d_48 q hq hb))
      obtain ⟨e1, e2⟩ := struck_ok h_21 (k := k) (by omega)
      have hT := WOwn.newT (HO.down (by omega)) OL (fun q h1 h2 => by exfalso; (exact d_45 q h1 h2))
      refine ⟨{ a1 with T := Al, t := cl }, Ag, cg, by rw [h_21, e1, e2]; rfl, by rw [e1]; exact hT, by rw [e2]; exact OG, fun q hq => ?_, z_133⟩
      intro hf
      rcases foot_newT hf with h1 | h1
      · exfalso; (exact d_49 q hq h1)
      · exfalso; (exact d_51 q hq h1)
end Go.Proofs.Yticfnngppcmidaa
