/-
  Two worlds, the same; a small one; something is mined, and someone made. (Printed by bin/goodslaw1.py.)
-/
import Derived.Test.YtkijhejjnlmbmaaGooR
import Derived.Test.YtkijhejjnlmbmaaEql
import Derived.Test.YtkijhejjnlmbmaaBas
set_option linter.unusedVariables false
set_option linter.unusedSimpArgs false
namespace Go.Proofs.Ytkijhejjnlmbmaa
open Go.RowKit

theorem LawA_fd_api_Field_0 : Fd Try.prog 24 0 0 := fun _ _ _ => by kernel_rfl
theorem LawA_ag_int : Ag Try.prog 3 false := fun _ => by kernel_rfl
theorem LawA_fd_api_Field_1 : Fd Try.prog 24 1 1 := fun _ _ _ => by kernel_rfl
theorem LawA_fd_api_Field_2 : Fd Try.prog 24 2 2 := fun _ _ _ => by kernel_rfl
theorem LawA_ag_S_int : Ag Try.prog 22 false := fun _ => by kernel_rfl
theorem LawA_en_slices_Equal_S_int_int_ : Enters Try.prog 21 := en Try.func21 (by kernel_rfl) (by kernel_rfl)
theorem LawA_fd_api_World_0 : Fd Try.prog 46 0 0 := fun _ _ _ => by kernel_rfl
theorem LawA_ag_api_Field : Ag Try.prog 24 true := fun _ => by kernel_rfl
theorem LawA_sz_api_Field : Sz Try.prog 24 3 := fun _ => by kernel_rfl
theorem LawA_en_mustref_SameField : Enters Try.prog 17 := en Try.func17 (by kernel_rfl) (by kernel_rfl)
theorem LawA_fd_api_World_1 : Fd Try.prog 46 1 3 := fun _ _ _ => by kernel_rfl
theorem LawA_ag_S_api_Cell : Ag Try.prog 43 false := fun _ => by kernel_rfl
theorem LawA_en_slices_Equal_S_api_Cell_api_Cell_ : Enters Try.prog 29 := en Try.func29 (by kernel_rfl) (by kernel_rfl)
theorem LawA_fd_api_World_2 : Fd Try.prog 46 2 4 := fun _ _ _ => by kernel_rfl
theorem LawA_fd_api_World_3 : Fd Try.prog 46 3 5 := fun _ _ _ => by kernel_rfl
theorem LawA_fd_api_World_4 : Fd Try.prog 46 4 6 := fun _ _ _ => by kernel_rfl
theorem LawA_ag_S_api_Troop : Ag Try.prog 44 false := fun _ => by kernel_rfl
theorem LawA_en_slices_Equal_S_api_Troop_api_Troop_ : Enters Try.prog 35 := en Try.func35 (by kernel_rfl) (by kernel_rfl)
theorem LawA_fd_api_World_5 : Fd Try.prog 46 5 7 := fun _ _ _ => by kernel_rfl
theorem LawA_fd_api_World_6 : Fd Try.prog 46 6 8 := fun _ _ _ => by kernel_rfl
theorem LawA_zv_api_World : Zv Try.prog 46 (.agg #[.int .i64 0, .int .i64 0, .slice none 0 0, .slice none 0 0, .slice none 0 0, .slice none 0 0, .slice none 0 0, .int .i64 0, .int .i64 0]) := fun _ => by kernel_rfl
theorem LawA_sz_api_World : Sz Try.prog 46 9 := fun _ => by kernel_rfl
theorem LawA_ag_api_World : Ag Try.prog 46 true := fun _ => by kernel_rfl
theorem same_world {W V : Wd} : (((((( decide (W.field = V.field) && decide (W.bases = V.bases)) && decide (W.stocks = V.stocks)) && decide (W.mines = V.mines)) && decide (W.troops = V.troops)) && (W.next == V.next)) && (W.now == V.now)) = decide (W = V) := by
  obtain ⟨f, b, s, m, t, n, o⟩ := W
  obtain ⟨f', b', s', m', t', n', o'⟩ := V
  rw [Bool.eq_iff_iff]
  simp [and_assoc]
theorem same_field {f g : Fld} : (((f.wide == g.wide) && (f.high == g.high)) && decide (f.places = g.places)) = decide (f = g) := by
  obtain ⟨a, b, c⟩ := f
  obtain ⟨a', b', c'⟩ := g
  rw [Bool.eq_iff_iff]
  simp [and_assoc]
def smallW : Wd := ⟨⟨3, 1, [0, 0, 3]⟩, [⟨0, 0⟩], [20], [0, 0, 9], [⟨1, 0, 1, ⟨1, 0⟩, 10, 0⟩], 2, 0⟩
def smallL : List Ded := [(⟨1, 1, ⟨2, 0⟩, 0⟩ : Ded), (⟨3, 0, ⟨0, 0⟩, 2⟩ : Ded)]
def smallV : Wd := smallW.doW smallL
set_option maxRecDepth 100000 in
set_option maxHeartbeats 400000 in
theorem sameField_any (f g : Fld) (A B : Option Addr) (c d : Nat) (w : World) (h1 : repI.SHas 8 w A c f.places) (h2 : repI.SHas 8 w B d g.places) :
    Calls Try.prog 17 #[.agg #[.int .i64 f.wide, .int .i64 f.high, .slice A f.places.length c], .agg #[.int .i64 g.wide, .int .i64 g.high, .slice B g.places.length d]] w (fun e w' => e = .returned (.bool (decide (f = g))) ∧ Ext w w') := by
  refine calls_W (n := 24) Try.func17 rfl rfl rfl ?_
  refine sq <| rg <| bx rfl rfl rfl rfl fun w_1 b_2 x_3 l_4 B_5 => ?_
  have q_6 := x_3.size
  have z_1 := Ext.tr (Ext.rf w) x_3
  have q_7 := B_5.lt
  refine bx rfl rfl rfl rfl fun w_8 b_9 x_10 l_11 B_12 => ?_
  have q_13 := x_10.size
  have z_8 := Ext.tr z_1 x_10
  have q_14 := B_12.lt
  refine vl (as_ rfl) rfl <| nl <| nT <| sq <| rg <| vl (fa LawA_fd_api_Field_0 rfl) rfl <| ?_
  have B_5 := B_5.later x_10
  refine vl (ld rfl (B_5.one LawA_ag_int rfl)) rfl <| vl (fa LawA_fd_api_Field_0 rfl) rfl <| vl (ld rfl (B_12.one LawA_ag_int rfl)) rfl <| vl (beq rfl rfl) rfl <| vl (mv rfl) rfl <| vQ rfl rfl rfl rfl (fun hc => fa LawA_fd_api_Field_1 rfl) rfl <| vQ rfl rfl rfl rfl (fun hc => ld (gt hc rfl) (B_5.one LawA_ag_int rfl)) rfl <| vQ rfl rfl rfl rfl (fun hc => fa LawA_fd_api_Field_1 rfl) rfl <| vQ rfl rfl rfl rfl (fun hc => ld (gt hc rfl) (B_12.one LawA_ag_int rfl)) rfl <| vQ rfl rfl rfl rfl (fun hc => beq (gt hc rfl) (gt hc rfl)) rfl <| vl (pA rfl rfl rfl rfl) rfl <| vl (mv rfl) rfl <| vQ rfl rfl rfl rfl (fun hc => fa LawA_fd_api_Field_2 rfl) rfl <| vQ rfl rfl rfl rfl (fun hc => ld (gt hc rfl) (B_5.one LawA_ag_S_int rfl)) rfl <| vQ rfl rfl rfl rfl (fun hc => fa LawA_fd_api_Field_2 rfl) rfl <| vQ rfl rfl rfl rfl (fun hc => ld (gt hc rfl) (B_12.one LawA_ag_S_int rfl)) rfl <| vC rfl rfl rfl rfl LawA_en_slices_Equal_S_int_int_ (fun hc => ec (gt hc rfl) (ec (gt hc rfl) rfl)) (fun hc => equal_Z _ _ _ _ _ _ f.places g.places _ (h1.keep z_8) (h2.keep z_8)) rfl fun w_15 x_16 => ?_
  have q_17 := x_16.size
  have z_15 := Ext.tr z_8 x_16
  refine vl (pA rfl rfl rfl rfl) rfl <| vl (as_ rfl) rfl <| nl <| nT <| rt <| tR (.tmp rfl .nil) <| ?_
  exact ⟨by rw [← same_field]; rfl, z_15⟩
set_option maxRecDepth 100000 in
set_option maxHeartbeats 400000 in
theorem sameWorld_any  (w : World) (a : Wd.At) (W : Wd) (b : Wd.At) (V : Wd) (hW : Wd.Has w a W) (hV : Wd.Has w b V) :
    Calls Try.prog 31 #[.agg ((Wd.cells a W).toArray), .agg ((Wd.cells b V).toArray)] w (fun e w' => e = .returned (.bool (decide (W = V))) ∧ Ext w w') := by
  refine calls_W (n := 52) Try.func31 rfl rfl rfl ?_
  refine sq <| rg <| bx rfl rfl rfl rfl fun w_1 b_2 x_3 l_4 B_5 => ?_
  have q_6 := x_3.size
  have z_1 := Ext.tr (Ext.rf w) x_3
  have q_7 := B_5.lt
  refine bx rfl rfl rfl rfl fun w_8 b_9 x_10 l_11 B_12 => ?_
  have q_13 := x_10.size
  have z_8 := Ext.tr z_1 x_10
  have q_14 := B_12.lt
  refine vl (as_ rfl) rfl <| nl <| nT <| sq <| rg <| vl (fa LawA_fd_api_World_0 rfl) rfl <| ?_
  have B_5 := B_5.later x_10
  refine vl (ld rfl (B_5.par [.int .i64 W.field.wide, .int .i64 W.field.high, .slice a.P W.field.places.length a.p] LawA_ag_api_Field LawA_sz_api_Field rfl)) rfl <| vl (fa LawA_fd_api_World_0 rfl) rfl <| vl (ld rfl (B_12.par [.int .i64 V.field.wide, .int .i64 V.field.high, .slice b.P V.field.places.length b.p] LawA_ag_api_Field LawA_sz_api_Field rfl)) rfl <| ca LawA_en_mustref_SameField rfl rfl ((sameField_any W.field V.field _ _ _ _ _ (hW.P.keep z_8) (hV.P.keep z_8)).mono ?_)
  rintro e w_15 ⟨rfl, x_16⟩
  refine ⟨_, rfl, ?_⟩
  have q_17 := x_16.size
  have z_15 := Ext.tr z_8 x_16
  refine vl (mv rfl) rfl <| vQ rfl rfl rfl rfl (fun hc => fa LawA_fd_api_World_1 rfl) rfl <| ?_
  have B_5 := B_5.later x_16
  refine vQ rfl rfl rfl rfl (fun hc => ld (gt hc rfl) (B_5.one LawA_ag_S_api_Cell rfl)) rfl <| vQ rfl rfl rfl rfl (fun hc => fa LawA_fd_api_World_1 rfl) rfl <| ?_
  have B_12 := B_12.later x_16
  refine vQ rfl rfl rfl rfl (fun hc => ld (gt hc rfl) (B_12.one LawA_ag_S_api_Cell rfl)) rfl <| vC rfl rfl rfl rfl LawA_en_slices_Equal_S_api_Cell_api_Cell_ (fun hc => ec (gt hc rfl) (ec (gt hc rfl) rfl)) (fun hc => equal_C _ _ _ _ _ _ W.bases V.bases _ (hW.B.keep z_15) (hV.B.keep z_15)) rfl fun w_18 x_19 => ?_
  have q_20 := x_19.size
  have z_18 := Ext.tr z_15 x_19
  refine vl (pA rfl rfl rfl rfl) rfl <| vl (mv rfl) rfl <| vQ rfl rfl rfl rfl (fun hc => fa LawA_fd_api_World_2 rfl) rfl <| ?_
  have B_5 := B_5.later x_19
  refine vQ rfl rfl rfl rfl (fun hc => ld (gt hc rfl) (B_5.one LawA_ag_S_int rfl)) rfl <| vQ rfl rfl rfl rfl (fun hc => fa LawA_fd_api_World_2 rfl) rfl <| ?_
  have B_12 := B_12.later x_19
  refine vQ rfl rfl rfl rfl (fun hc => ld (gt hc rfl) (B_12.one LawA_ag_S_int rfl)) rfl <| vC rfl rfl rfl rfl LawA_en_slices_Equal_S_int_int_ (fun hc => ec (gt hc rfl) (ec (gt hc rfl) rfl)) (fun hc => equal_Z _ _ _ _ _ _ W.stocks V.stocks _ (hW.S.keep z_18) (hV.S.keep z_18)) rfl fun w_21 x_22 => ?_
  have q_23 := x_22.size
  have z_21 := Ext.tr z_18 x_22
  refine vl (pA rfl rfl rfl rfl) rfl <| vl (mv rfl) rfl <| vQ rfl rfl rfl rfl (fun hc => fa LawA_fd_api_World_3 rfl) rfl <| ?_
  have B_5 := B_5.later x_22
  refine vQ rfl rfl rfl rfl (fun hc => ld (gt hc rfl) (B_5.one LawA_ag_S_int rfl)) rfl <| vQ rfl rfl rfl rfl (fun hc => fa LawA_fd_api_World_3 rfl) rfl <| ?_
  have B_12 := B_12.later x_22
  refine vQ rfl rfl rfl rfl (fun hc => ld (gt hc rfl) (B_12.one LawA_ag_S_int rfl)) rfl <| vC rfl rfl rfl rfl LawA_en_slices_Equal_S_int_int_ (fun hc => ec (gt hc rfl) (ec (gt hc rfl) rfl)) (fun hc => equal_Z _ _ _ _ _ _ W.mines V.mines _ (hW.M.keep z_21) (hV.M.keep z_21)) rfl fun w_24 x_25 => ?_
  have q_26 := x_25.size
  have z_24 := Ext.tr z_21 x_25
  refine vl (pA rfl rfl rfl rfl) rfl <| vl (mv rfl) rfl <| vQ rfl rfl rfl rfl (fun hc => fa LawA_fd_api_World_4 rfl) rfl <| ?_
  have B_5 := B_5.later x_25
  refine vQ rfl rfl rfl rfl (fun hc => ld (gt hc rfl) (B_5.one LawA_ag_S_api_Troop rfl)) rfl <| vQ rfl rfl rfl rfl (fun hc => fa LawA_fd_api_World_4 rfl) rfl <| ?_
  have B_12 := B_12.later x_25
  refine vQ rfl rfl rfl rfl (fun hc => ld (gt hc rfl) (B_12.one LawA_ag_S_api_Troop rfl)) rfl <| vC rfl rfl rfl rfl LawA_en_slices_Equal_S_api_Troop_api_Troop_ (fun hc => ec (gt hc rfl) (ec (gt hc rfl) rfl)) (fun hc => equal_T _ _ _ _ _ _ W.troops V.troops _ (hW.T.keep z_24) (hV.T.keep z_24)) rfl fun w_27 x_28 => ?_
  have q_29 := x_28.size
  have z_27 := Ext.tr z_24 x_28
  refine vl (pA rfl rfl rfl rfl) rfl <| vl (mv rfl) rfl <| vQ rfl rfl rfl rfl (fun hc => fa LawA_fd_api_World_5 rfl) rfl <| ?_
  have B_5 := B_5.later x_28
  refine vQ rfl rfl rfl rfl (fun hc => ld (gt hc rfl) (B_5.one LawA_ag_int rfl)) rfl <| vQ rfl rfl rfl rfl (fun hc => fa LawA_fd_api_World_5 rfl) rfl <| ?_
  have B_12 := B_12.later x_28
  refine vQ rfl rfl rfl rfl (fun hc => ld (gt hc rfl) (B_12.one LawA_ag_int rfl)) rfl <| vQ rfl rfl rfl rfl (fun hc => beq (gt hc rfl) (gt hc rfl)) rfl <| vl (pA rfl rfl rfl rfl) rfl <| vl (mv rfl) rfl <| vQ rfl rfl rfl rfl (fun hc => fa LawA_fd_api_World_6 rfl) rfl <| vQ rfl rfl rfl rfl (fun hc => ld (gt hc rfl) (B_5.one LawA_ag_int rfl)) rfl <| vQ rfl rfl rfl rfl (fun hc => fa LawA_fd_api_World_6 rfl) rfl <| vQ rfl rfl rfl rfl (fun hc => ld (gt hc rfl) (B_12.one LawA_ag_int rfl)) rfl <| vQ rfl rfl rfl rfl (fun hc => beq (gt hc rfl) (gt hc rfl)) rfl <| vl (pA rfl rfl rfl rfl) rfl <| vl (as_ rfl) rfl <| nl <| nT <| rt <| tR (.tmp rfl .nil) <| ?_
  exact ⟨by rw [← same_world]; rfl, z_27⟩
set_option maxRecDepth 100000 in
set_option maxHeartbeats 400000 in
theorem small_any  (w : World) :
    Calls Try.prog 67 #[] w (fun e w' => ∃ a, e = .returned (.agg (Wd.cells a smallW).toArray) ∧ WOwn w' w.heap.size a smallW ∧ Ext w w') := by
  refine calls_W (n := 11) Try.func67 rfl rfl rfl ?_
  refine sq <| rg <| al rfl LawA_zv_api_World rfl rfl fun w_1 b_2 x_3 l_4 B_5 => ?_
  have q_6 := x_3.size
  have z_1 := Ext.tr (Ext.rf w) x_3
  have q_7 := B_5.lt
  refine nl <| nT <| sq <| rg <| bs (e := 3) (cs := [.int .i64 0, .int .i64 0, .int .i64 3]) rfl (fun _ => by kernel_rfl) rfl fun w_8 b_9 x_10 l_11 B_12 => ?_
  have q_13 := x_10.size
  have z_8 := Ext.tr z_1 x_10
  have q_14 := B_12.lt
  refine vl (v := .agg #[.int .i64 3, .int .i64 1, .slice (some ⟨b_9, 0, none⟩) 3 3]) (bd rfl (by kernel_rfl)) rfl <| vl (v := .agg #[.int .i64 0, .int .i64 0]) (bd rfl (by kernel_rfl)) rfl <| bs (e := 42) (cs := [.int .i64 0, .int .i64 0]) rfl (fun _ => by kernel_rfl) rfl fun w_15 b_16 x_17 l_18 B_19 => ?_
  have q_20 := x_17.size
  have z_15 := Ext.tr z_8 x_17
  have q_21 := B_19.lt
  refine bs (e := 3) (cs := [.int .i64 20]) rfl (fun _ => by kernel_rfl) rfl fun w_22 b_23 x_24 l_25 B_26 => ?_
  have q_27 := x_24.size
  have z_22 := Ext.tr z_15 x_24
  have q_28 := B_26.lt
  refine bs (e := 3) (cs := [.int .i64 0, .int .i64 0, .int .i64 9]) rfl (fun _ => by kernel_rfl) rfl fun w_29 b_30 x_31 l_32 B_33 => ?_
  have q_34 := x_31.size
  have z_29 := Ext.tr z_22 x_31
  have q_35 := B_33.lt
  refine vl (v := .agg #[.int .i64 1, .int .i64 0]) (bd rfl (by kernel_rfl)) rfl <| vl (v := .agg #[.int .i64 1, .int .i64 0, .int .i64 1, .int .i64 1, .int .i64 0, .int .i64 10, .int .i64 0]) (bd rfl (by kernel_rfl)) rfl <| bs (e := 51) (cs := [.int .i64 1, .int .i64 0, .int .i64 1, .int .i64 1, .int .i64 0, .int .i64 10, .int .i64 0]) rfl (fun _ => by kernel_rfl) rfl fun w_36 b_37 x_38 l_39 B_40 => ?_
  have q_41 := x_38.size
  have z_36 := Ext.tr z_29 x_38
  have q_42 := B_40.lt
  refine vl (v := .agg #[.int .i64 3, .int .i64 1, .slice (some ⟨b_9, 0, none⟩) 3 3, .slice (some ⟨b_16, 0, none⟩) 1 1, .slice (some ⟨b_23, 0, none⟩) 1 1, .slice (some ⟨b_30, 0, none⟩) 3 3, .slice (some ⟨b_37, 0, none⟩) 1 1, .int .i64 2, .int .i64 0]) (bd rfl (by kernel_rfl)) rfl <| ?_
  have B_5 := B_5.later (Ext.tr x_10 (Ext.tr x_17 (Ext.tr x_24 (Ext.tr x_31 x_38))))
  refine st (new := [.int .i64 3, .int .i64 1, .slice (some ⟨b_9, 0, none⟩) 3 3, .slice (some ⟨b_16, 0, none⟩) 1 1, .slice (some ⟨b_23, 0, none⟩) 1 1, .slice (some ⟨b_30, 0, none⟩) 3 3, .slice (some ⟨b_37, 0, none⟩) 1 1, .int .i64 2, .int .i64 0]) rfl rfl B_5 rfl LawA_sz_api_World rfl rfl rfl fun w_43 m_44 B_5 => ?_
  have q_46 := m_44.size
  have z_43 := Ext.mod z_36 m_44 (by simp only [List.mem_singleton, forall_eq]; omega)
  have q_45 := m_44.size
  refine nl <| nT <| rt <| tR (.cell rfl (B_5.all LawA_ag_api_World LawA_sz_api_World) .nil) <| ?_
  have B_12 := B_12.later (Ext.tr x_17 (Ext.tr x_24 (Ext.tr x_31 x_38)))
  have B_12 := B_12.mod m_44 (by simp only [List.mem_singleton]; omega)
  have B_19 := B_19.later (Ext.tr x_24 (Ext.tr x_31 x_38))
  have B_19 := B_19.mod m_44 (by simp only [List.mem_singleton]; omega)
  have B_26 := B_26.later (Ext.tr x_31 x_38)
  have B_26 := B_26.mod m_44 (by simp only [List.mem_singleton]; omega)
  have B_33 := B_33.later x_38
  have B_33 := B_33.mod m_44 (by simp only [List.mem_singleton]; omega)
  have B_40 := B_40.mod m_44 (by simp only [List.mem_singleton]; omega)
  exact ⟨⟨some ⟨b_9, 0, none⟩, some ⟨b_16, 0, none⟩, some ⟨b_23, 0, none⟩, some ⟨b_30, 0, none⟩, some ⟨b_37, 0, none⟩, 3, 1, 1, 3, 1⟩, rfl, ⟨Blk.ownN (R := repI) (by_ := 8) (B := w.heap.size) (k := [0, 0, 3]) B_12 [[.int .i64 0], [.int .i64 0], [.int .i64 3]] rfl ⟨⟨rfl, okI_iff.2 (by decide)⟩, ⟨rfl, okI_iff.2 (by decide)⟩, ⟨rfl, okI_iff.2 (by decide)⟩, trivial⟩ (by simp) (by simp) (by decide) (by omega), Blk.ownN (R := Cel.rep) (by_ := 16) (B := w.heap.size) (k := [⟨0, 0⟩]) B_19 [[.int .i64 0, .int .i64 0]] rfl ⟨⟨rfl, okI_iff.2 (by decide), okI_iff.2 (by decide)⟩, trivial⟩ (by simp) (by simp) (by decide) (by omega), Blk.ownN (R := repI) (by_ := 8) (B := w.heap.size) (k := [20]) B_26 [[.int .i64 20]] rfl ⟨⟨rfl, okI_iff.2 (by decide)⟩, trivial⟩ (by simp) (by simp) (by decide) (by omega), Blk.ownN (R := repI) (by_ := 8) (B := w.heap.size) (k := [0, 0, 9]) B_33 [[.int .i64 0], [.int .i64 0], [.int .i64 9]] rfl ⟨⟨rfl, okI_iff.2 (by decide)⟩, ⟨rfl, okI_iff.2 (by decide)⟩, ⟨rfl, okI_iff.2 (by decide)⟩, trivial⟩ (by simp) (by simp) (by decide) (by omega), Blk.ownN (R := Trp.rep) (by_ := 56) (B := w.heap.size) (k := [⟨1, 0, 1, ⟨1, 0⟩, 10, 0⟩]) B_40 [[.int .i64 1, .int .i64 0, .int .i64 1, .int .i64 1, .int .i64 0, .int .i64 10, .int .i64 0]] rfl ⟨⟨rfl, okI_iff.2 (by decide), okI_iff.2 (by decide), okI_iff.2 (by decide), okI_iff.2 (by decide), okI_iff.2 (by decide), okI_iff.2 (by decide), okI_iff.2 (by decide)⟩, trivial⟩ (by simp) (by simp) (by decide) (by omega), by simp [Rep.blkOf]; omega, okI_iff.2 (by decide), okI_iff.2 (by decide), okI_iff.2 (by decide), okI_iff.2 (by decide)⟩, z_43⟩
end Go.Proofs.Ytkijhejjnlmbmaa
