/-
  Two worlds, the same; a small one; something is mined, and someone made. (Printed by bin/goodslaw1.py.)
-/
import Derived.Test.YticfnngppcmidaaGooR
import Derived.Test.YticfnngppcmidaaEql
import Derived.Test.YticfnngppcmidaaBas
set_option linter.unusedVariables false
set_option linter.unusedSimpArgs false
namespace Go.Proofs.Yticfnngppcmidaa
open Go.RowKit

theorem LawA_fd_api_Field_0 : Fd Try.prog 24 0 0 := fun _ _ _ => by kernel_rfl
theorem LawA_ag_int : Ag Try.prog 3 false := fun _ => by kernel_rfl
theorem LawA_fd_api_Field_1 : Fd Try.prog 24 1 1 := fun _ _ _ => by kernel_rfl
theorem LawA_fd_api_Field_2 : Fd Try.prog 24 2 2 := fun _ _ _ => by kernel_rfl
theorem LawA_ag_S_int : Ag Try.prog 22 false := fun _ => by kernel_rfl
theorem LawA_en_slices_Equal_S_int_int_ : Enters Try.prog 30 := en Try.func30 (by kernel_rfl) (by kernel_rfl)
theorem LawA_fd_api_World_0 : Fd Try.prog 28 0 0 := fun _ _ _ => by kernel_rfl
theorem LawA_ag_api_Field : Ag Try.prog 24 true := fun _ => by kernel_rfl
theorem LawA_sz_api_Field : Sz Try.prog 24 3 := fun _ => by kernel_rfl
theorem LawA_en_mustref_SameField : Enters Try.prog 18 := en Try.func18 (by kernel_rfl) (by kernel_rfl)
theorem LawA_fd_api_World_1 : Fd Try.prog 28 1 3 := fun _ _ _ => by kernel_rfl
theorem LawA_ag_S_api_Cell : Ag Try.prog 25 false := fun _ => by kernel_rfl
theorem LawA_en_slices_Equal_S_api_Cell_api_Cell_ : Enters Try.prog 19 := en Try.func19 (by kernel_rfl) (by kernel_rfl)
theorem LawA_fd_api_World_2 : Fd Try.prog 28 2 4 := fun _ _ _ => by kernel_rfl
theorem LawA_fd_api_World_3 : Fd Try.prog 28 3 5 := fun _ _ _ => by kernel_rfl
theorem LawA_fd_api_World_4 : Fd Try.prog 28 4 6 := fun _ _ _ => by kernel_rfl
theorem LawA_ag_S_api_Troop : Ag Try.prog 26 false := fun _ => by kernel_rfl
theorem LawA_en_slices_Equal_S_api_Troop_api_Troop_ : Enters Try.prog 29 := en Try.func29 (by kernel_rfl) (by kernel_rfl)
theorem LawA_fd_api_World_5 : Fd Try.prog 28 5 7 := fun _ _ _ => by kernel_rfl
theorem LawA_fd_api_World_6 : Fd Try.prog 28 6 8 := fun _ _ _ => by kernel_rfl
theorem LawA_zv_api_World : Zv Try.prog 28 (.agg #[.int .i64 0, .int .i64 0, .slice none 0 0, .slice none 0 0, .slice none 0 0, .slice none 0 0, .slice none 0 0, .int .i64 0, .int .i64 0]) := fun _ => by kernel_rfl
theorem LawA_sz_api_World : Sz Try.prog 28 9 := fun _ => by kernel_rfl
theorem LawA_ag_api_World : Ag Try.prog 28 true := fun _ => by kernel_rfl
theorem LawA_en_mustkeep_small : Enters Try.prog 24 := en Try.func24 (by kernel_rfl) (by kernel_rfl)
theorem LawA_en_goods_Do : Enters Try.prog 15 := en Try.func15 (by kernel_rfl) (by kernel_rfl)
theorem LawA_en_slices_Equal_S_bool_bool_ : Enters Try.prog 22 := en Try.func22 (by kernel_rfl) (by kernel_rfl)
theorem LawA_sz_api_Troop : Sz Try.prog 39 7 := fun _ => by kernel_rfl
theorem LawA_fd_api_Troop_5 : Fd Try.prog 39 5 6 := fun _ _ _ => by kernel_rfl
theorem LawA_sz_int : Sz Try.prog 3 1 := fun _ => by kernel_rfl
theorem same_world {W V : Wd} : (((((( decide (W.field = V.field) && decide (W.bases = V.bases)) && decide (W.stocks = V.stocks)) && decide (W.mines = V.mines)) && decide (W.troops = V.troops)) && (W.next == V.next)) && (W.now == V.now)) = decide (W = V) := by
  obtain ⟨f, b, s, m, t, n, o⟩ := W
  obtain ⟨f', b', s', m', t', n', o'⟩ := V
  rw [Bool.eq_iff_iff]
  simp [and_assoc]
theorem same_field {f g : Fld} : (((f.wide == g.wide) && (f.high == g.high)) && decide (f.places = g.places)) = decide (f = g) := by
  obtain ⟨a, b, c⟩ := f
  obtain ⟨a', b', c'⟩ := g
  rw [Bool.eq_iff_iff]
  simp [and_assoc]
def smallW : Wd := ⟨⟨3, 1, [0, 0, 3]⟩, [⟨0, 0⟩], [20], [0, 0, 9], [⟨1, 0, 1, ⟨1, 0⟩, 10, 0⟩], 2, 0⟩
def smallL : List Ded := [(⟨1, 1, ⟨2, 0⟩, 0⟩ : Ded), (⟨3, 0, ⟨0, 0⟩, 2⟩ : Ded)]
def smallV : Wd := smallW.doW smallL
theorem do_small (A : Option Addr) (c : Nat) (w : World) (a : Wd.At) (hW : Wd.Has w a smallW) (hl : Ded.rep.SHas 40 w A c smallL) :
    Calls Try.prog 15 #[.agg ((Wd.cells a smallW).toArray), .slice A 2 c] w (fun e w' => ∃ a' A' c', e = .returned (.tuple #[.agg ((Wd.cells a' smallV).toArray), .slice A' 2 c', .int .i64 0]) ∧ WOwn w' w.heap.size a' smallV ∧ repB.SOwn 4 1 w' w.heap.size (Rep.blkOf A') A' c' [true, true] ∧ (∀ q ∈ Rep.blkOf A', q ∈ WOwn.foot a' → False) ∧ Ext w w') := by
  have e2 : smallW.doB smallL = [true, true] := by decide +kernel
  have e3 : smallW.doE smallL = 0 := by decide +kernel
  refine (do_any smallL A c w a smallW hW hl).mono ?_
  rintro e w' ⟨a', A', c', he, h1, h2, h3, h4⟩
  rw [e2] at he h2; rw [e3] at he
  exact ⟨a', A', c', he, h1, h2, h3, h4⟩
set_option maxRecDepth 100000 in
set_option maxHeartbeats 400000 in
theorem sameField_any (f g : Fld) (A B : Option Addr) (c d : Nat) (w : World) (h1 : repI.SHas 8 w A c f.places) (h2 : repI.SHas 8 w B d g.places) :
    Calls Try.prog 18 #[.agg #[.int .i64 f.wide, .int .i64 f.high, .slice A f.places.length c], .agg #[.int .i64 g.wide, .int .i64 g.high, .slice B g.places.length d]] w (fun e w' => e = .returned (.bool (decide (f = g))) ∧ Ext w w') := by
  refine calls_W (n := 24) Try.func18 rfl rfl rfl ?_
  refine sq <| rg <| bx rfl rfl rfl rfl fun w_1 b_2 x_3 l_4 B_5 => ?_
  have q_6 := x_3.size
  have z_1 := Ext.tr (Ext.rf w) x_3
  have q_7 := B_5.lt
  refine bx rfl rfl rfl rfl fun w_8 b_9 x_10 l_11 B_12 => ?_
  have q_13 := x_10.size
  have z_8 := Ext.tr z_1 x_10
  have q_14 := B_12.lt
  refine vl (as_ rfl) rfl <| nl <| nT <| sq <| rg <| vl (fa LawA_fd_api_Field_0 rfl) rfl <| ?_
  have B_5 := B_5.later x_10
  refine vl (ld rfl (B_5.one LawA_ag_int rfl)) rfl <| vl (fa LawA_fd_api_Field_0 rfl) rfl <| vl (ld rfl (B_12.one LawA_ag_int rfl)) rfl <| vl (beq rfl rfl) rfl <| vl (mv rfl) rfl <| vQ rfl rfl rfl rfl (fun hc => fa LawA_fd_api_Field_1 rfl) rfl <| vQ rfl rfl rfl rfl (fun hc => ld (gt hc rfl) (B_5.one LawA_ag_int rfl)) rfl <| vQ rfl rfl rfl rfl (fun hc => fa LawA_fd_api_Field_1 rfl) rfl <| vQ rfl rfl rfl rfl (fun hc => ld (gt hc rfl) (B_12.one LawA_ag_int rfl)) rfl <| vQ rfl rfl rfl rfl (fun hc => beq (gt hc rfl) (gt hc rfl)) rfl <| vl (pA rfl rfl rfl rfl) rfl <| vl (mv rfl) rfl <| vQ rfl rfl rfl rfl (fun hc => fa LawA_fd_api_Field_2 rfl) rfl <| vQ rfl rfl rfl rfl (fun hc => ld (gt hc rfl) (B_5.one LawA_ag_S_int rfl)) rfl <| vQ rfl rfl rfl rfl (fun hc => fa LawA_fd_api_Field_2 rfl) rfl <| vQ rfl rfl rfl rfl (fun hc => ld (gt hc rfl) (B_12.one LawA_ag_S_int rfl)) rfl <| vC rfl rfl rfl rfl LawA_en_slices_Equal_S_int_int_ (fun hc => ec (gt hc rfl) (ec (gt hc rfl) rfl)) (fun hc => equal_Z _ _ _ _ _ _ f.places g.places _ (h1.keep z_8) (h2.keep z_8)) rfl fun w_15 x_16 => ?_
  have q_17 := x_16.size
  have z_15 := Ext.tr z_8 x_16
  refine vl (pA rfl rfl rfl rfl) rfl <| vl (as_ rfl) rfl <| nl <| nT <| rt <| tR (.tmp rfl .nil) <| ?_
  exact ⟨by rw [← same_field]; rfl, z_15⟩
set_option maxRecDepth 100000 in
set_option maxHeartbeats 400000 in
theorem sameWorld_any  (w : World) (a : Wd.At) (W : Wd) (b : Wd.At) (V : Wd) (hW : Wd.Has w a W) (hV : Wd.Has w b V) :
    Calls Try.prog 21 #[.agg ((Wd.cells a W).toArray), .agg ((Wd.cells b V).toArray)] w (fun e w' => e = .returned (.bool (decide (W = V))) ∧ Ext w w') := by
  refine calls_W (n := 52) Try.func21 rfl rfl rfl ?_
  refine sq <| rg <| bx rfl rfl rfl rfl fun w_1 b_2 x_3 l_4 B_5 => ?_
  have q_6 := x_3.size
  have z_1 := Ext.tr (Ext.rf w) x_3
  have q_7 := B_5.lt
  refine bx rfl rfl rfl rfl fun w_8 b_9 x_10 l_11 B_12 => ?_
  have q_13 := x_10.size
  have z_8 := Ext.tr z_1 x_10
  have q_14 := B_12.lt
  refine vl (as_ rfl) rfl <| nl <| nT <| sq <| rg <| vl (fa LawA_fd_api_World_0 rfl) rfl <| ?_
  have B_5 := B_5.later x_10
  refine vl (ld rfl (B_5.par [.int .i64 W.field.wide, .int .i64 W.field.high, .slice a.P W.field.places.length a.p] LawA_ag_api_Field LawA_sz_api_Field rfl)) rfl <| vl (fa LawA_fd_api_World_0 rfl) rfl <| vl (ld rfl (B_12.par [.int .i64 V.field.wide, .int .i64 V.field.high, .slice b.P V.field.places.length b.p] LawA_ag_api_Field LawA_sz_api_Field rfl)) rfl <| ca LawA_en_mustref_SameField rfl rfl ((sameField_any W.field V.field _ _ _ _ _ (hW.P.keep z_8) (hV.P.keep z_8)).mono ?_)
  rintro e w_15 ⟨rfl, x_16⟩
  refine ⟨_, rfl, ?_⟩
  have q_17 := x_16.size
  have z_15 := Ext.tr z_8 x_16
  refine vl (mv rfl) rfl <| vQ rfl rfl rfl rfl (fun hc => fa LawA_fd_api_World_1 rfl) rfl <| ?_
  have B_5 := B_5.later x_16
  refine vQ rfl rfl rfl rfl (fun hc => ld (gt hc rfl) (B_5.one LawA_ag_S_api_Cell rfl)) rfl <| vQ rfl rfl rfl rfl (fun hc => fa LawA_fd_api_World_1 rfl) rfl <| ?_
  have B_12 := B_12.later x_16
  refine vQ rfl rfl rfl rfl (fun hc => ld (gt hc rfl) (B_12.one LawA_ag_S_api_Cell rfl)) rfl <| vC rfl rfl rfl rfl LawA_en_slices_Equal_S_api_Cell_api_Cell_ (fun hc => ec (gt hc rfl) (ec (gt hc rfl) rfl)) (fun hc => equal_C _ _ _ _ _ _ W.bases V.bases _ (hW.B.keep z_15) (hV.B.keep z_15)) rfl fun w_18 x_19 => ?_
  have q_20 := x_19.size
  have z_18 := Ext.tr z_15 x_19
  refine vl (pA rfl rfl rfl rfl) rfl <| vl (mv rfl) rfl <| vQ rfl rfl rfl rfl (fun hc => fa LawA_fd_api_World_2 rfl) rfl <| ?_
  have B_5 := B_5.later x_19
  refine vQ rfl rfl rfl rfl (fun hc => ld (gt hc rfl) (B_5.one LawA_ag_S_int rfl)) rfl <| vQ rfl rfl rfl rfl (fun hc => fa LawA_fd_api_World_2 rfl) rfl <| ?_
  have B_12 := B_12.later x_19
  refine vQ rfl rfl rfl rfl (fun hc => ld (gt hc rfl) (B_12.one LawA_ag_S_int rfl)) rfl <| vC rfl rfl rfl rfl LawA_en_slices_Equal_S_int_int_ (fun hc => ec (gt hc rfl) (ec (gt hc rfl) rfl)) (fun hc => equal_Z _ _ _ _ _ _ W.stocks V.stocks _ (hW.S.keep z_18) (hV.S.keep z_18)) rfl fun w_21 x_22 => ?_
  have q_23 := x_22.size
  have z_21 := Ext.tr z_18 x_22
  refine vl (pA rfl rfl rfl rfl) rfl <| vl (mv rfl) rfl <| vQ rfl rfl rfl rfl (fun hc => fa LawA_fd_api_World_3 rfl) rfl <| ?_
  have B_5 := B_5.later x_22
  refine vQ rfl rfl rfl rfl (fun hc => ld (gt hc rfl) (B_5.one LawA_ag_S_int rfl)) rfl <| vQ rfl rfl rfl rfl (fun hc => fa LawA_fd_api_World_3 rfl) rfl <| ?_
  have B_12 := B_12.later x_22
  refine vQ rfl rfl rfl rfl (fun hc => ld (gt hc rfl) (B_12.one LawA_ag_S_int rfl)) rfl <| vC rfl rfl rfl rfl LawA_en_slices_Equal_S_int_int_ (fun hc => ec (gt hc rfl) (ec (gt hc rfl) rfl)) (fun hc => equal_Z _ _ _ _ _ _ W.mines V.mines _ (hW.M.keep z_21) (hV.M.keep z_21)) rfl fun w_24 x_25 => ?_
  have q_26 := x_25.size
  have z_24 := Ext.tr z_21 x_25
  refine vl (pA rfl rfl rfl rfl) rfl <| vl (mv rfl) rfl <| vQ rfl rfl rfl rfl (fun hc => fa LawA_fd_api_World_4 rfl) rfl <| ?_
  have B_5 := B_5.later x_25
  refine vQ rfl rfl rfl rfl (fun hc => ld (gt hc rfl) (B_5.one LawA_ag_S_api_Troop rfl)) rfl <| vQ rfl rfl rfl rfl (fun hc => fa LawA_fd_api_World_4 rfl) rfl <| ?_
  have B_12 := B_12.later x_25
  refine vQ rfl rfl rfl rfl (fun hc => ld (gt hc rfl) (B_12.one LawA_ag_S_api_Troop rfl)) rfl <| vC rfl rfl rfl rfl LawA_en_slices_Equal_S_api_Troop_api_Troop_ (fun hc => ec (gt hc rfl) (ec (gt hc rfl) rfl)) (fun hc => equal_T _ _ _ _ _ _ W.troops V.troops _ (hW.T.keep z_24) (hV.T.keep z_24)) rfl fun w_27 x_28 => ?_
  have q_29 := x_28.size
  have z_27 := Ext.tr z_24 x_28
  refine vl (pA rfl rfl rfl rfl) rfl <| vl (mv rfl) rfl <| vQ rfl rfl rfl rfl (fun hc => fa LawA_fd_api_World_5 rfl) rfl <| ?_
  have B_5 := B_5.later x_28
  refine vQ rfl rfl rfl rfl (fun hc => ld (gt hc rfl) (B_5.one LawA_ag_int rfl)) rfl <| vQ rfl rfl rfl rfl (fun hc => fa LawA_fd_api_World_5 rfl) rfl <| ?_
  have B_12 := B_12.later x_28
  refine vQ rfl rfl rfl rfl (fun hc => ld (gt hc rfl) (B_12.one LawA_ag_int rfl)) rfl <| vQ rfl rfl rfl rfl (fun hc => beq (gt hc rfl) (gt hc rfl)) rfl <| vl (pA rfl rfl rfl rfl) rfl <| vl (mv rfl) rfl <| vQ rfl rfl rfl rfl (fun hc => fa LawA_fd_api_World_6 rfl) rfl <| vQ rfl rfl rfl rfl (fun hc => ld (gt hc rfl) (B_5.one LawA_ag_int rfl)) rfl <| vQ rfl rfl rfl rfl (fun hc => fa LawA_fd_api_World_6 rfl) rfl <| vQ rfl rfl rfl rfl (fun hc => ld (gt hc rfl) (B_12.one LawA_ag_int rfl)) rfl <| vQ rfl rfl rfl rfl (fun hc => beq (gt hc rfl) (gt hc rfl)) rfl <| vl (pA rfl rfl rfl rfl) rfl <| vl (as_ rfl) rfl <| nl <| nT <| rt <| tR (.tmp rfl .nil) <| ?_
  exact ⟨by rw [← same_world]; rfl, z_27⟩
set_option maxRecDepth 100000 in
set_option maxHeartbeats 400000 in
theorem small_any  (w : World) :
    Calls Try.prog 24 #[] w (fun e w' => ∃ a, e = .returned (.agg (Wd.cells a smallW).toArray) ∧ WOwn w' w.heap.size a smallW ∧ Ext w w') := by
  refine calls_W (n := 11) Try.func24 rfl rfl rfl ?_
  refine sq <| rg <| al rfl LawA_zv_api_World rfl rfl fun w_1 b_2 x_3 l_4 B_5 => ?_
  have q_6 := x_3.size
  have z_1 := Ext.tr (Ext.rf w) x_3
  have q_7 := B_5.lt
  refine nl <| nT <| sq <| rg <| bs (e := 3) (cs := [.int .i64 0, .int .i64 0, .int .i64 3]) rfl (fun _ => by kernel_rfl) rfl fun w_8 b_9 x_10 l_11 B_12 => ?_
  have q_13 := x_10.size
  have z_8 := Ext.tr z_1 x_10
  have q_14 := B_12.lt
  refine vl (v := .agg #[.int .i64 3, .int .i64 1, .slice (some ⟨b_9, 0, none⟩) 3 3]) (bd rfl (by kernel_rfl)) rfl <| vl (v := .agg #[.int .i64 0, .int .i64 0]) (bd rfl (by kernel_rfl)) rfl <| bs (e := 37) (cs := [.int .i64 0, .int .i64 0]) rfl (fun _ => by kernel_rfl) rfl fun w_15 b_16 x_17 l_18 B_19 => ?_
  have q_20 := x_17.size
  have z_15 := Ext.tr z_8 x_17
  have q_21 := B_19.lt
  refine bs (e := 3) (cs := [.int .i64 20]) rfl (fun _ => by kernel_rfl) rfl fun w_22 b_23 x_24 l_25 B_26 => ?_
  have q_27 := x_24.size
  have z_22 := Ext.tr z_15 x_24
  have q_28 := B_26.lt
  refine bs (e := 3) (cs := [.int .i64 0, .int .i64 0, .int .i64 9]) rfl (fun _ => by kernel_rfl) rfl fun w_29 b_30 x_31 l_32 B_33 => ?_
  have q_34 := x_31.size
  have z_29 := Ext.tr z_22 x_31
  have q_35 := B_33.lt
  refine vl (v := .agg #[.int .i64 1, .int .i64 0]) (bd rfl (by kernel_rfl)) rfl <| vl (v := .agg #[.int .i64 1, .int .i64 0, .int .i64 1, .int .i64 1, .int .i64 0, .int .i64 10, .int .i64 0]) (bd rfl (by kernel_rfl)) rfl <| bs (e := 39) (cs := [.int .i64 1, .int .i64 0, .int .i64 1, .int .i64 1, .int .i64 0, .int .i64 10, .int .i64 0]) rfl (fun _ => by kernel_rfl) rfl fun w_36 b_37 x_38 l_39 B_40 => ?_
  have q_41 := x_38.size
  have z_36 := Ext.tr z_29 x_38
  have q_42 := B_40.lt
  refine vl (v := .agg #[.int .i64 3, .int .i64 1, .slice (some ⟨b_9, 0, none⟩) 3 3, .slice (some ⟨b_16, 0, none⟩) 1 1, .slice (some ⟨b_23, 0, none⟩) 1 1, .slice (some ⟨b_30, 0, none⟩) 3 3, .slice (some ⟨b_37, 0, none⟩) 1 1, .int .i64 2, .int .i64 0]) (bd rfl (by kernel_rfl)) rfl <| ?_
  have B_5 := B_5.later (Ext.tr x_10 (Ext.tr x_17 (Ext.tr x_24 (Ext.tr x_31 x_38))))
  refine st (new := [.int .i64 3, .int .i64 1, .slice (some ⟨b_9, 0, none⟩) 3 3, .slice (some ⟨b_16, 0, none⟩) 1 1, .slice (some ⟨b_23, 0, none⟩) 1 1, .slice (some ⟨b_30, 0, none⟩) 3 3, .slice (some ⟨b_37, 0, none⟩) 1 1, .int .i64 2, .int .i64 0]) rfl rfl B_5 rfl LawA_sz_api_World rfl rfl rfl fun w_43 m_44 B_5 => ?_
  have q_46 := m_44.size
  have z_43 := Ext.mod z_36 m_44 (by simp only [List.mem_singleton, forall_eq]; omega)
  have q_45 := m_44.size
  refine nl <| nT <| rt <| tR (.cell rfl (B_5.all LawA_ag_api_World LawA_sz_api_World) .nil) <| ?_
  have B_12 := B_12.later (Ext.tr x_17 (Ext.tr x_24 (Ext.tr x_31 x_38)))
  have B_12 := B_12.mod m_44 (by simp only [List.mem_singleton]; omega)
  have B_19 := B_19.later (Ext.tr x_24 (Ext.tr x_31 x_38))
  have B_19 := B_19.mod m_44 (by simp only [List.mem_singleton]; omega)
  have B_26 := B_26.later (Ext.tr x_31 x_38)
  have B_26 := B_26.mod m_44 (by simp only [List.mem_singleton]; omega)
  have B_33 := B_33.later x_38
  have B_33 := B_33.mod m_44 (by simp only [List.mem_singleton]; omega)
  have B_40 := B_40.mod m_44 (by simp only [List.mem_singleton]; omega)
  exact ⟨⟨some ⟨b_9, 0, none⟩, some ⟨b_16, 0, none⟩, some ⟨b_23, 0, none⟩, some ⟨b_30, 0, none⟩, some ⟨b_37, 0, none⟩, 3, 1, 1, 3, 1⟩, rfl, ⟨Blk.ownN (R := repI) (by_ := 8) (B := w.heap.size) (k := [0, 0, 3]) B_12 [[.int .i64 0], [.int .i64 0], [.int .i64 3]] rfl ⟨⟨rfl, okI_iff.2 (by decide)⟩, ⟨rfl, okI_iff.2 (by decide)⟩, ⟨rfl, okI_iff.2 (by decide)⟩, trivial⟩ (by simp) (by simp) (by decide) (by omega), Blk.ownN (R := Cel.rep) (by_ := 16) (B := w.heap.size) (k := [⟨0, 0⟩]) B_19 [[.int .i64 0, .int .i64 0]] rfl ⟨⟨rfl, okI_iff.2 (by decide), okI_iff.2 (by decide)⟩, trivial⟩ (by simp) (by simp) (by decide) (by omega), Blk.ownN (R := repI) (by_ := 8) (B := w.heap.size) (k := [20]) B_26 [[.int .i64 20]] rfl ⟨⟨rfl, okI_iff.2 (by decide)⟩, trivial⟩ (by simp) (by simp) (by decide) (by omega), Blk.ownN (R := repI) (by_ := 8) (B := w.heap.size) (k := [0, 0, 9]) B_33 [[.int .i64 0], [.int .i64 0], [.int .i64 9]] rfl ⟨⟨rfl, okI_iff.2 (by decide)⟩, ⟨rfl, okI_iff.2 (by decide)⟩, ⟨rfl, okI_iff.2 (by decide)⟩, trivial⟩ (by simp) (by simp) (by decide) (by omega), Blk.ownN (R := Trp.rep) (by_ := 56) (B := w.heap.size) (k := [⟨1, 0, 1, ⟨1, 0⟩, 10, 0⟩]) B_40 [[.int .i64 1, .int .i64 0, .int .i64 1, .int .i64 1, .int .i64 0, .int .i64 10, .int .i64 0]] rfl ⟨⟨rfl, okI_iff.2 (by decide), okI_iff.2 (by decide), okI_iff.2 (by decide), okI_iff.2 (by decide), okI_iff.2 (by decide), okI_iff.2 (by decide), okI_iff.2 (by decide)⟩, trivial⟩ (by simp) (by simp) (by decide) (by omega), by simp [Rep.blkOf]; omega, okI_iff.2 (by decide), okI_iff.2 (by decide), okI_iff.2 (by decide), okI_iff.2 (by decide)⟩, z_43⟩
set_option maxRecDepth 100000 in
set_option maxHeartbeats 400000 in
theorem goodsLives_any  (w : World) :
    Calls Try.prog 16 #[] w (fun e w' => e = .returned (.bool true) ∧ Ext w w') := by
  refine calls_W (n := 49) Try.func16 rfl rfl rfl ?_
  refine sq <| rg <| vl (as_ rfl) rfl <| nl <| nT <| sq <| rg <| ca LawA_en_mustkeep_small rfl rfl ((small_any _).mono ?_)
  rintro e w_4 ⟨a_1, rfl, HO_1, x_5⟩
  refine ⟨_, rfl, ?_⟩
  have q_6 := x_5.size
  have z_4 := Ext.tr (Ext.rf w) x_5
  have u_2 := fun q hq => (HO_1.lt q hq).2
  have lo_3 := fun q hq => (HO_1.lt q hq).1
  refine vl (v := .agg #[.int .i64 2, .int .i64 0]) (bd rfl (by kernel_rfl)) rfl <| vl (v := .agg #[.int .i64 1, .int .i64 1, .int .i64 2, .int .i64 0, .int .i64 0]) (bd rfl (by kernel_rfl)) rfl <| vl (v := .agg #[.int .i64 3, .int .i64 0, .int .i64 0, .int .i64 0, .int .i64 2]) (bd rfl (by kernel_rfl)) rfl <| bs (e := 45) (cs := [.int .i64 1, .int .i64 1, .int .i64 2, .int .i64 0, .int .i64 0, .int .i64 3, .int .i64 0, .int .i64 0, .int .i64 0, .int .i64 2]) rfl (fun _ => by kernel_rfl) rfl fun w_7 b_8 x_9 l_10 B_11 => ?_
  have q_12 := x_9.size
  have z_7 := Ext.tr z_4 x_9
  have q_13 := B_11.lt
  have HO_1 := HO_1.later x_9
  refine ca LawA_en_goods_Do rfl rfl ((do_small _ _ _ _ HO_1.has (Blk.hasN (R := Ded.rep) (by_ := 40) (k := [(⟨1, 1, ⟨2, 0⟩, 0⟩ : Ded), (⟨3, 0, ⟨0, 0⟩, 2⟩ : Ded)]) B_11 [[.int .i64 1, .int .i64 1, .int .i64 2, .int .i64 0, .int .i64 0], [.int .i64 3, .int .i64 0, .int .i64 0, .int .i64 0, .int .i64 2]] rfl (⟨⟨rfl, ⟨okI_iff.2 (by (try dsimp only); omega), okI_iff.2 (by (try dsimp only); omega), okI_iff.2 (by (try dsimp only); omega), okI_iff.2 (by (try dsimp only); omega), okI_iff.2 (by (try dsimp only); omega)⟩⟩, ⟨⟨rfl, ⟨okI_iff.2 (by (try dsimp only); omega), okI_iff.2 (by (try dsimp only); omega), okI_iff.2 (by (try dsimp only); omega), okI_iff.2 (by (try dsimp only); omega), okI_iff.2 (by (try dsimp only); omega)⟩⟩, trivial⟩⟩) (by simp) (by simp))).mono ?_)
  rintro e w_23 ⟨a_14, A_14, c_14, rfl, HO_14, OD_14, hd_14, x_24⟩
  refine ⟨_, rfl, ?_⟩
  have q_25 := x_24.size
  have z_23 := Ext.tr z_7 x_24
  have u_15 := fun q hq => (HO_14.lt q hq).2
  have lo_16 := fun q hq => (HO_14.lt q hq).1
  have u_17 := fun q hq => (OD_14.lt q hq).2
  have lo_18 := fun q hq => (OD_14.lt q hq).1
  have dd_14 : ∀ q ∈ Rep.blkOf A_14, q ∈ WOwn.foot a_14 → False := hd_14
  have dw_14 : ∀ q ∈ WOwn.foot a_14, q ∈ Rep.blkOf A_14 → False := fun q h1 h2 => hd_14 q h2 h1
  refine vl (mv rfl) rfl <| vl (ex rfl rfl) rfl <| vl (ex rfl rfl) rfl <| vl (ex rfl rfl) rfl <| al rfl LawA_zv_api_World rfl rfl fun w_26 b_27 x_28 l_29 B_30 => ?_
  have q_31 := x_28.size
  have z_26 := Ext.tr z_23 x_28
  have q_32 := B_30.lt
  refine st rfl rfl B_30 rfl LawA_sz_api_World rfl rfl rfl fun w_33 m_34 B_30 => ?_
  have q_36 := m_34.size
  have z_33 := Ext.mod z_26 m_34 (by simp only [List.mem_singleton, forall_eq]; omega)
  have q_35 := m_34.size
  refine vl (as_ rfl) rfl <| vl (as_ rfl) rfl <| nl <| nT <| sq <| rg <| vl (mv rfl) rfl <| vl (beq rfl rfl) rfl <| vl (mv rfl) rfl <| ug rfl rfl rfl <| vl (mv rfl) rfl <| ug rfl rfl rfl <| bs (e := 4) (cs := [.bool true, .bool true]) rfl (fun _ => by kernel_rfl) rfl fun w_37 b_38 x_39 l_40 B_41 => ?_
  have q_42 := x_39.size
  have z_37 := Ext.tr z_33 x_39
  have q_43 := B_41.lt
  refine ug rfl rfl rfl <| ?_
  have OD_14 := OD_14.later x_28
  have OD_14 := OD_14.mod m_34 (fun q hq h => by have hb := List.mem_singleton.1 h; exfalso; (have := u_17 q hq; omega))
  have OD_14 := OD_14.later x_39
  refine ca LawA_en_slices_Equal_S_bool_bool_ rfl rfl ((equal_B _ _ _ _ _ _ ([true, true]) ([true, true]) _ OD_14.has (Blk.hasN (R := repB) (by_ := 1) (k := [true, true]) B_41 [[.bool true], [.bool true]] rfl (⟨⟨rfl, trivial⟩, ⟨⟨rfl, trivial⟩, trivial⟩⟩) (by simp) (by simp))).mono ?_)
  rintro e w_44 ⟨rfl, x_45⟩
  refine ⟨_, rfl, ?_⟩
  have q_46 := x_45.size
  have z_44 := Ext.tr z_37 x_45
  refine vl (pkT rfl rfl) rfl <| vl (mv rfl) rfl <| vQ rfl rfl rfl rfl (fun hc => fa LawA_fd_api_World_4 rfl) rfl <| ?_
  have B_30 := B_30.later (Ext.tr x_39 x_45)
  refine vQ rfl rfl rfl rfl (fun hc => ld (gt hc rfl) (B_30.one LawA_ag_S_api_Troop rfl)) rfl <| vQ rfl rfl rfl rfl (fun hc => ln Try.underlying26 (gt hc rfl)) rfl <| vQ rfl rfl rfl rfl (fun hc => beq (gt hc rfl) rfl) rfl <| vl (pA rfl rfl rfl rfl) rfl <| vl (mv rfl) rfl <| vQ rfl rfl rfl rfl (fun hc => fa LawA_fd_api_World_4 rfl) rfl <| vQ rfl rfl rfl rfl (fun hc => ld (gt hc rfl) (B_30.one LawA_ag_S_api_Troop rfl)) rfl <| ?_
  have HO_14 := HO_14.later x_28
  have HO_14 := HO_14.mod m_34 (fun q hq h => by have hb := List.mem_singleton.1 h; exfalso; (have := u_15 q hq; omega))
  have HO_14 := HO_14.later (Ext.tr x_39 x_45)
  refine vQ rfl rfl rfl rfl (fun hc => iA 0 Try.underlying26 LawA_sz_api_Troop (gt hc rfl) rfl (HO_14.T.has.adr (Nat.zero_lt_of_lt (show 0 < _ from (by decide +kernel : 0 < (smallV.troops).length)))) rfl (by decide +kernel : 0 < (smallV.troops).length)) rfl <| vQ rfl rfl rfl rfl (fun hc => fa LawA_fd_api_Troop_5 (gt hc rfl)) rfl <| vQ rfl rfl rfl rfl (fun hc => ld (gt hc rfl) (Rep.SHas.fld hcT (HO_14.T.has.adh (Nat.zero_lt_of_lt (show 0 < _ from (by decide +kernel : 0 < (smallV.troops).length)))) 6 (get_d (l := smallV.troops) (u := default) (by decide +kernel : 0 < (smallV.troops).length)) rfl LawA_ag_int)) rfl <| vQ rfl rfl rfl rfl (fun hc => beq (gt hc rfl) rfl) rfl <| vl (pA rfl rfl rfl rfl) rfl <| vl (mv rfl) rfl <| vQ rfl rfl rfl rfl (fun hc => fa LawA_fd_api_World_3 rfl) rfl <| vQ rfl rfl rfl rfl (fun hc => ld (gt hc rfl) (B_30.one LawA_ag_S_int rfl)) rfl <| vQ rfl rfl rfl rfl (fun hc => iA 2 Try.underlying22 LawA_sz_int (gt hc rfl) rfl (HO_14.M.has.adr (Nat.zero_lt_of_lt (show 2 < _ from (by decide +kernel : 2 < (smallV.mines).length)))) rfl (by decide +kernel : 2 < (smallV.mines).length)) rfl <| vQ rfl rfl rfl rfl (fun hc => ld (gt hc rfl) (Rep.SHas.one' hcI (HO_14.M.has.adh (Nat.zero_lt_of_lt (show 2 < _ from (by decide +kernel : 2 < (smallV.mines).length)))) (get_d (l := smallV.mines) (u := 0) (by decide +kernel : 2 < (smallV.mines).length)) rfl LawA_ag_int)) rfl <| vQ rfl rfl rfl rfl (fun hc => beq (gt hc rfl) rfl) rfl <| vl (pA rfl rfl rfl rfl) rfl <| vl (mv rfl) rfl <| vQ rfl rfl rfl rfl (fun hc => fa LawA_fd_api_World_2 rfl) rfl <| vQ rfl rfl rfl rfl (fun hc => ld (gt hc rfl) (B_30.one LawA_ag_S_int rfl)) rfl <| vQ rfl rfl rfl rfl (fun hc => iA 0 Try.underlying22 LawA_sz_int (gt hc rfl) rfl (HO_14.S.has.adr (Nat.zero_lt_of_lt (show 0 < _ from (by decide +kernel : 0 < (smallV.stocks).length)))) rfl (by decide +kernel : 0 < (smallV.stocks).length)) rfl <| vQ rfl rfl rfl rfl (fun hc => ld (gt hc rfl) (Rep.SHas.one' hcI (HO_14.S.has.adh (Nat.zero_lt_of_lt (show 0 < _ from (by decide +kernel : 0 < (smallV.stocks).length)))) (get_d (l := smallV.stocks) (u := 0) (by decide +kernel : 0 < (smallV.stocks).length)) rfl LawA_ag_int)) rfl <| vQ rfl rfl rfl rfl (fun hc => beq (gt hc rfl) rfl) rfl <| vl (pA rfl rfl rfl rfl) rfl <| vl (as_ rfl) rfl <| nl <| nT <| rt <| tR (.tmp rfl .nil) <| ?_
  exact ⟨ret_true (by decide +kernel), z_44⟩
end Go.Proofs.Yticfnngppcmidaa
