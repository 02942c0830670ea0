import Derived.Test.YtffjpfpbpnhmcaaEql
import Derived.Test.YtffjpfpbpnhmcaaBas
import Derived.Test.YtffjpfpbpnhmcaaHpL
import Derived.Test.YtffjpfpbpnhmcaaCrt
set_option linter.unusedVariables false
set_option linter.unusedSimpArgs false
namespace Go.Proofs.Ytffjpfpbpnhmcaa
open Go.RowKit

theorem LawA_fd_api_Field_0 : Fd Try.prog 24 0 0 := fun _ _ _ => by kernel_rfl
theorem LawA_ag_int : Ag Try.prog 3 false := fun _ => by kernel_rfl
theorem LawA_fd_api_Field_1 : Fd Try.prog 24 1 1 := fun _ _ _ => by kernel_rfl
theorem LawA_fd_api_Field_2 : Fd Try.prog 24 2 2 := fun _ _ _ => by kernel_rfl
theorem LawA_ag_S_int : Ag Try.prog 22 false := fun _ => by kernel_rfl
theorem LawA_en_slices_Equal_S_int_int_ : Enters Try.prog 33 := en Try.func33 (by kernel_rfl) (by kernel_rfl)
theorem LawA_fd_api_World_0 : Fd Try.prog 49 0 0 := fun _ _ _ => by kernel_rfl
theorem LawA_ag_api_Field : Ag Try.prog 24 true := fun _ => by kernel_rfl
theorem LawA_sz_api_Field : Sz Try.prog 24 3 := fun _ => by kernel_rfl
theorem LawA_en_mustref_SameField : Enters Try.prog 65 := en Try.func65 (by kernel_rfl) (by kernel_rfl)
theorem LawA_fd_api_World_1 : Fd Try.prog 49 1 3 := fun _ _ _ => by kernel_rfl
theorem LawA_ag_S_api_Cell : Ag Try.prog 25 false := fun _ => by kernel_rfl
theorem LawA_en_slices_Equal_S_api_Cell_api_Cell_ : Enters Try.prog 23 := en Try.func23 (by kernel_rfl) (by kernel_rfl)
theorem LawA_fd_api_World_2 : Fd Try.prog 49 2 4 := fun _ _ _ => by kernel_rfl
theorem LawA_fd_api_World_3 : Fd Try.prog 49 3 5 := fun _ _ _ => by kernel_rfl
theorem LawA_fd_api_World_4 : Fd Try.prog 49 4 6 := fun _ _ _ => by kernel_rfl
theorem LawA_ag_S_api_Troop : Ag Try.prog 47 false := fun _ => by kernel_rfl
theorem LawA_en_slices_Equal_S_api_Troop_api_Troop_ : Enters Try.prog 43 := en Try.func43 (by kernel_rfl) (by kernel_rfl)
theorem LawA_fd_api_World_5 : Fd Try.prog 49 5 7 := fun _ _ _ => by kernel_rfl
theorem LawA_fd_api_World_6 : Fd Try.prog 49 6 8 := fun _ _ _ => by kernel_rfl
theorem LawA_zv_api_World : Zv Try.prog 49 (.agg #[.int .i64 0, .int .i64 0, .slice none 0 0, .slice none 0 0, .slice none 0 0, .slice none 0 0, .slice none 0 0, .int .i64 0, .int .i64 0]) := fun _ => by kernel_rfl
theorem LawA_sz_api_World : Sz Try.prog 49 9 := fun _ => by kernel_rfl
theorem LawA_ag_api_World : Ag Try.prog 49 true := fun _ => by kernel_rfl
theorem same_world {W V : Wd} : (((((( decide (W.field = V.field) && decide (W.bases = V.bases)) && decide (W.stocks = V.stocks)) && decide (W.mines = V.mines)) && decide (W.troops = V.troops)) && (W.next == V.next)) && (W.now == V.now)) = decide (W = V) := by
  obtain ⟨f, b, s, m, t, n, o⟩ := W
  obtain ⟨f', b', s', m', t', n', o'⟩ := V
  rw [Bool.eq_iff_iff]
  simp [and_assoc]
theorem same_field {f g : Fld} : (((f.wide == g.wide) && (f.high == g.high)) && decide (f.places = g.places)) = decide (f = g) := by
  obtain ⟨a, b, c⟩ := f
  obtain ⟨a', b', c'⟩ := g
  rw [Bool.eq_iff_iff]
  simp [and_assoc]
def smallW : Wd := ⟨⟨3, 1, [0, 0, 3]⟩, [⟨0, 0⟩], [20], [0, 0, 9], [⟨1, 0, 1, ⟨1, 0⟩, 10, 0⟩], 2, 0⟩
def smallL : List Ded := [(⟨1, 1, ⟨2, 0⟩, 0⟩ : Ded), (⟨3, 0, ⟨0, 0⟩, 2⟩ : Ded)]
def smallV : Wd := smallW.doW smallL
set_option maxRecDepth 100000 in
set_option maxHeartbeats 400000 in
theorem sameField_any (f g : Fld) (A B : Option Addr) (c d : Nat) (w : World) (h1 : repI.SHas 8 w A c f.places) (h2 : repI.SHas 8 w B d g.places) :
    Calls Try.prog 65 #[.agg #[.int .i64 f.wide, .int .i64 f.high, .slice A f.places.length c], .agg #[.int .i64 g.wide, .int .i64 g.high, .slice B g.places.length d]] w (fun e w' => e = .returned (.bool (decide (f = g))) ∧ Ext w w') := by
  refine calls_W (n := 24) Try.func65 rfl rfl rfl ?_
  refine sq <| rg <| bx rfl rfl rfl rfl fun w_1 b_2 x_3 l_4 B_5 => ?_
  have q_6 := x_3.size
  have z_1 := Ext.tr (Ext.rf w) x_3
  have q_7 := B_5.lt
  refine bx rfl rfl rfl rfl fun w_8 b_9 x_10 l_11 B_12 => ?_
  have q_13 := x_10.size
  have z_8 := Ext.tr z_1 x_10
  have q_14 := B_12.lt
  refine vl (as_ rfl) rfl <| nl <| nT <| sq <| rg <| vl (fa LawA_fd_api_Field_0 rfl) rfl <| ?_
  have B_5 := B_5.later x_10
  refine vl (ld rfl (B_5.one LawA_ag_int rfl)) rfl <| vl (fa LawA_fd_api_Field_0 rfl) rfl <| vl (ld rfl (B_12.one LawA_ag_int rfl)) rfl <| vl (beq rfl rfl) rfl <| vl (mv rfl) rfl <| vQ rfl rfl rfl rfl (fun hc => fa LawA_fd_api_Field_1 rfl) rfl <| vQ rfl rfl rfl rfl (fun hc => ld (gt hc rfl) (B_5.one LawA_ag_int rfl)) rfl <| vQ rfl rfl rfl rfl (fun hc => fa LawA_fd_api_Field_1 rfl) rfl <| vQ rfl rfl rfl rfl (fun hc => ld (gt hc rfl) (B_12.one LawA_ag_int rfl)) rfl <| vQ rfl rfl rfl rfl (fun hc => beq (gt hc rfl) (gt hc rfl)) rfl <| vl (pA rfl rfl rfl rfl) rfl <| vl (mv rfl) rfl <| vQ rfl rfl rfl rfl (fun hc => fa LawA_fd_api_Field_2 rfl) rfl <| vQ rfl rfl rfl rfl (fun hc => ld (gt hc rfl) (B_5.one LawA_ag_S_int rfl)) rfl <| vQ rfl rfl rfl rfl (fun hc => fa LawA_fd_api_Field_2 rfl) rfl <| vQ rfl rfl rfl rfl (fun hc => ld (gt hc rfl) (B_12.one LawA_ag_S_int rfl)) rfl <| vC rfl rfl rfl rfl LawA_en_slices_Equal_S_int_int_ (fun hc => ec (gt hc rfl) (ec (gt hc rfl) rfl)) (fun hc => equal_Z _ _ _ _ _ _ f.places g.places _ (h1.keep z_8) (h2.keep z_8)) rfl fun w_15 x_16 => ?_
  have q_17 := x_16.size
  have z_15 := Ext.tr z_8 x_16
  refine vl (pA rfl rfl rfl rfl) rfl <| vl (as_ rfl) rfl <| nl <| nT <| rt <| tR (.tmp rfl .nil) <| ?_
  exact ⟨by rw [← same_field]; rfl, z_15⟩
set_option maxRecDepth 100000 in
set_option maxHeartbeats 400000 in
theorem sameWorld_any  (w : World) (a : Wd.At) (W : Wd) (b : Wd.At) (V : Wd) (hW : Wd.Has w a W) (hV : Wd.Has w b V) :
    Calls Try.prog 32 #[.agg ((Wd.cells a W).toArray), .agg ((Wd.cells b V).toArray)] w (fun e w' => e = .returned (.bool (decide (W = V))) ∧ Ext w w') := by
  refine calls_W (n := 52) Try.func32 rfl rfl rfl ?_
  refine sq <| rg <| bx rfl rfl rfl rfl fun w_1 b_2 x_3 l_4 B_5 => ?_
  have q_6 := x_3.size
  have z_1 := Ext.tr (Ext.rf w) x_3
  have q_7 := B_5.lt
  refine bx rfl rfl rfl rfl fun w_8 b_9 x_10 l_11 B_12 => ?_
  have q_13 := x_10.size
  have z_8 := Ext.tr z_1 x_10
  have q_14 := B_12.lt
  refine vl (as_ rfl) rfl <| nl <| nT <| sq <| rg <| vl (fa LawA_fd_api_World_0 rfl) rfl <| ?_
  have B_5 := B_5.later x_10
  refine vl (ld rfl (B_5.par [.int .i64 W.field.wide, .int .i64 W.field.high, .slice a.P W.field.places.length a.p] LawA_ag_api_Field LawA_sz_api_Field rfl)) rfl <| vl (fa LawA_fd_api_World_0 rfl) rfl <| vl (ld rfl (B_12.par [.int .i64 V.field.wide, .int .i64 V.field.high, .slice b.P V.field.places.length b.p] LawA_ag_api_Field LawA_sz_api_Field rfl)) rfl <| ca LawA_en_mustref_SameField rfl rfl ((sameField_any W.field V.field _ _ _ _ _ (hW.P.keep z_8) (hV.P.keep z_8)).mono ?_)
  rintro e w_15 ⟨rfl, x_16⟩
  refine ⟨_, rfl, ?_⟩
  have q_17 := x_16.size
  have z_15 := Ext.tr z_8 x_16
  refine vl (mv rfl) rfl <| vQ rfl rfl rfl rfl (fun hc => fa LawA_fd_api_World_1 rfl) rfl <| ?_
  have B_5 := B_5.later x_16
  refine vQ rfl rfl rfl rfl (fun hc => ld (gt hc rfl) (B_5.one LawA_ag_S_api_Cell rfl)) rfl <| vQ rfl rfl rfl rfl (fun hc => fa LawA_fd_api_World_1 rfl) rfl <| ?_
  have B_12 := B_12.later x_16
  refine vQ rfl rfl rfl rfl (fun hc => ld (gt hc rfl) (B_12.one LawA_ag_S_api_Cell rfl)) rfl <| vC rfl rfl rfl rfl LawA_en_slices_Equal_S_api_Cell_api_Cell_ (fun hc => ec (gt hc rfl) (ec (gt hc rfl) rfl)) (fun hc => equal_C _ _ _ _ _ _ W.bases V.bases _ (hW.B.keep z_15) (hV.B.keep z_15)) rfl fun w_18 x_19 => ?_
  have q_20 := x_19.size
  have z_18 := Ext.tr z_15 x_19
  refine vl (pA rfl rfl rfl rfl) rfl <| vl (mv rfl) rfl <| vQ rfl rfl rfl rfl (fun hc => fa LawA_fd_api_World_2 rfl) rfl <| ?_
  have B_5 := B_5.later x_19
  refine vQ rfl rfl rfl rfl (fun hc => ld (gt hc rfl) (B_5.one LawA_ag_S_int rfl)) rfl <| vQ rfl rfl rfl rfl (fun hc => fa LawA_fd_api_World_2 rfl) rfl <| ?_
  have B_12 := B_12.later x_19
  refine vQ rfl rfl rfl rfl (fun hc => ld (gt hc rfl) (B_12.one LawA_ag_S_int rfl)) rfl <| vC rfl rfl rfl rfl LawA_en_slices_Equal_S_int_int_ (fun hc => ec (gt hc rfl) (ec (gt hc rfl) rfl)) (fun hc => equal_Z _ _ _ _ _ _ W.stocks V.stocks _ (hW.S.keep z_18) (hV.S.keep z_18)) rfl fun w_21 x_22 => ?_
  have q_23 := x_22.size
  have z_21 := Ext.tr z_18 x_22
  refine vl (pA rfl rfl rfl rfl) rfl <| vl (mv rfl) rfl <| vQ rfl rfl rfl rfl (fun hc => fa LawA_fd_api_World_3 rfl) rfl <| ?_
  have B_5 := B_5.later x_22
  refine vQ rfl rfl rfl rfl (fun hc => ld (gt hc rfl) (B_5.one LawA_ag_S_int rfl)) rfl <| vQ rfl rfl rfl rfl (fun hc => fa LawA_fd_api_World_3 rfl) rfl <| ?_
  have B_12 := B_12.later x_22
  refine vQ rfl rfl rfl rfl (fun hc => ld (gt hc rfl) (B_12.one LawA_ag_S_int rfl)) rfl <| vC rfl rfl rfl rfl LawA_en_slices_Equal_S_int_int_ (fun hc => ec (gt hc rfl) (ec (gt hc rfl) rfl)) (fun hc => equal_Z _ _ _ _ _ _ W.mines V.mines _ (hW.M.keep z_21) (hV.M.keep z_21)) rfl fun w_24 x_25 => ?_
  have q_26 := x_25.size
  have z_24 := Ext.tr z_21 x_25
  refine vl (pA rfl rfl rfl rfl) rfl <| vl (mv rfl) rfl <| vQ rfl rfl rfl rfl (fun hc => fa LawA_fd_api_World_4 rfl) rfl <| ?_
  have B_5 := B_5.later x_25
  refine vQ rfl rfl rfl rfl (fun hc => ld (gt hc rfl) (B_5.one LawA_ag_S_api_Troop rfl)) rfl <| vQ rfl rfl rfl rfl (fun hc => fa LawA_fd_api_World_4 rfl) rfl <| ?_
  have B_12 := B_12.later x_25
  refine vQ rfl rfl rfl rfl (fun hc => ld (gt hc rfl) (B_12.one LawA_ag_S_api_Troop rfl)) rfl <| vC rfl rfl rfl rfl LawA_en_slices_Equal_S_api_Troop_api_Troop_ (fun hc => ec (gt hc rfl) (ec (gt hc rfl) rfl)) (fun hc => equal_T _ _ _ _ _ _ W.troops V.troops _ (hW.T.keep z_24) (hV.T.keep z_24)) rfl fun w_27 x_28 => ?_
  have q_29 := x_28.size
  have z_27 := Ext.tr z_24 x_28
  refine vl (pA rfl rfl rfl rfl) rfl <| vl (mv rfl) rfl <| vQ rfl rfl rfl rfl (fun hc => fa LawA_fd_api_World_5 rfl) rfl <| ?_
  have B_5 := B_5.later x_28
  refine vQ rfl rfl rfl rfl (fun hc => ld (gt hc rfl) (B_5.one LawA_ag_int rfl)) rfl <| vQ rfl rfl rfl rfl (fun hc => fa LawA_fd_api_World_5 rfl) rfl <| ?_
  have B_12 := B_12.later x_28
  refine vQ rfl rfl rfl rfl (fun hc => ld (gt hc rfl) (B_12.one LawA_ag_int rfl)) rfl <| vQ rfl rfl rfl rfl (fun hc => beq (gt hc rfl) (gt hc rfl)) rfl <| vl (pA rfl rfl rfl rfl) rfl <| vl (mv rfl) rfl <| vQ rfl rfl rfl rfl (fun hc => fa LawA_fd_api_World_6 rfl) rfl <| vQ rfl rfl rfl rfl (fun hc => ld (gt hc rfl) (B_5.one LawA_ag_int rfl)) rfl <| vQ rfl rfl rfl rfl (fun hc => fa LawA_fd_api_World_6 rfl) rfl <| vQ rfl rfl rfl rfl (fun hc => ld (gt hc rfl) (B_12.one LawA_ag_int rfl)) rfl <| vQ rfl rfl rfl rfl (fun hc => beq (gt hc rfl) (gt hc rfl)) rfl <| vl (pA rfl rfl rfl rfl) rfl <| vl (as_ rfl) rfl <| nl <| nT <| rt <| tR (.tmp rfl .nil) <| ?_
  exact ⟨by rw [← same_world]; rfl, z_27⟩
set_option maxRecDepth 100000 in
set_option maxHeartbeats 400000 in
theorem small_any  (w : World) :
    Calls Try.prog 64 #[] w (fun e w' => ∃ a, e = .returned (.agg (Wd.cells a smallW).toArray) ∧ WOwn w' w.heap.size a smallW ∧ Ext w w') := by
  refine calls_W (n := 11) Try.func64 rfl rfl rfl ?_
  refine sq <| rg <| al rfl LawA_zv_api_World rfl rfl fun w_1 b_2 x_3 l_4 B_5 => ?_
  have q_6 := x_3.size
  have z_1 := Ext.tr (Ext.rf w) x_3
  have q_7 := B_5.lt
  refine nl <| nT <| sq <| rg <| bs (e := 3) (cs := [.int .i64 0, .int .i64 0, .int .i64 3]) rfl (fun _ => by kernel_rfl) rfl fun w_8 b_9 x_10 l_11 B_12 => ?_
  have q_13 := x_10.size
  have z_8 := Ext.tr z_1 x_10
  have q_14 := B_12.lt
  refine vl (v := .agg #[.int .i64 3, .int .i64 1, .slice (some ⟨b_9, 0, none⟩) 3 3]) (bd rfl (by kernel_rfl)) rfl <| vl (v := .agg #[.int .i64 0, .int .i64 0]) (bd rfl (by kernel_rfl)) rfl <| bs (e := 32) (cs := [.int .i64 0, .int .i64 0]) rfl (fun _ => by kernel_rfl) rfl fun w_15 b_16 x_17 l_18 B_19 => ?_
  have q_20 := x_17.size
  have z_15 := Ext.tr z_8 x_17
  have q_21 := B_19.lt
  refine bs (e := 3) (cs := [.int .i64 20]) rfl (fun _ => by kernel_rfl) rfl fun w_22 b_23 x_24 l_25 B_26 => ?_
  have q_27 := x_24.size
  have z_22 := Ext.tr z_15 x_24
  have q_28 := B_26.lt
  refine bs (e := 3) (cs := [.int .i64 0, .int .i64 0, .int .i64 9]) rfl (fun _ => by kernel_rfl) rfl fun w_29 b_30 x_31 l_32 B_33 => ?_
  have q_34 := x_31.size
  have z_29 := Ext.tr z_22 x_31
  have q_35 := B_33.lt
  refine vl (v := .agg #[.int .i64 1, .int .i64 0]) (bd rfl (by kernel_rfl)) rfl <| vl (v := .agg #[.int .i64 1, .int .i64 0, .int .i64 1, .int .i64 1, .int .i64 0, .int .i64 10, .int .i64 0]) (bd rfl (by kernel_rfl)) rfl <| bs (e := 65) (cs := [.int .i64 1, .int .i64 0, .int .i64 1, .int .i64 1, .int .i64 0, .int .i64 10, .int .i64 0]) rfl (fun _ => by kernel_rfl) rfl fun w_36 b_37 x_38 l_39 B_40 => ?_
  have q_41 := x_38.size
  have z_36 := Ext.tr z_29 x_38
  have q_42 := B_40.lt
  refine vl (v := .agg #[.int .i64 3, .int .i64 1, .slice (some ⟨b_9, 0, none⟩) 3 3, .slice (some ⟨b_16, 0, none⟩) 1 1, .slice (some ⟨b_23, 0, none⟩) 1 1, .slice (some ⟨b_30, 0, none⟩) 3 3, .slice (some ⟨b_37, 0, none⟩) 1 1, .int .i64 2, .int .i64 0]) (bd rfl (by kernel_rfl)) rfl <| ?_
  have B_5 := B_5.later (Ext.tr x_10 (Ext.tr x_17 (Ext.tr x_24 (Ext.tr x_31 x_38))))
  refine st (new := [.int .i64 3, .int .i64 1, .slice (some ⟨b_9, 0, none⟩) 3 3, .slice (some ⟨b_16, 0, none⟩) 1 1, .slice (some ⟨b_23, 0, none⟩) 1 1, .slice (some ⟨b_30, 0, none⟩) 3 3, .slice (some ⟨b_37, 0, none⟩) 1 1, .int .i64 2, .int .i64 0]) rfl rfl B_5 rfl LawA_sz_api_World rfl rfl rfl fun w_43 m_44 B_5 => ?_
  have q_46 := m_44.size
  have z_43 := Ext.mod z_36 m_44 (by simp only [List.mem_singleton, forall_eq]; omega)
  have q_45 := m_44.size
  refine nl <| nT <| rt <| tR (.cell rfl (B_5.all LawA_ag_api_World LawA_sz_api_World) .nil) <| ?_
  have B_12 := B_12.later (Ext.tr x_17 (Ext.tr x_24 (Ext.tr x_31 x_38)))
  have B_12 := B_12.mod m_44 (by simp only [List.mem_singleton]; omega)
  have B_19 := B_19.later (Ext.tr x_24 (Ext.tr x_31 x_38))
  have B_19 := B_19.mod m_44 (by simp only [List.mem_singleton]; omega)
  have B_26 := B_26.later (Ext.tr x_31 x_38)
  have B_26 := B_26.mod m_44 (by simp only [List.mem_singleton]; omega)
  have B_33 := B_33.later x_38
  have B_33 := B_33.mod m_44 (by simp only [List.mem_singleton]; omega)
  have B_40 := B_40.mod m_44 (by simp only [List.mem_singleton]; omega)
  exact ⟨⟨some ⟨b_9, 0, none⟩, some ⟨b_16, 0, none⟩, some ⟨b_23, 0, none⟩, some ⟨b_30, 0, none⟩, some ⟨b_37, 0, none⟩, 3, 1, 1, 3, 1⟩, rfl, ⟨Blk.ownN (R := repI) (by_ := 8) (B := w.heap.size) (k := [0, 0, 3]) B_12 [[.int .i64 0], [.int .i64 0], [.int .i64 3]] rfl ⟨⟨rfl, okI_iff.2 (by decide)⟩, ⟨rfl, okI_iff.2 (by decide)⟩, ⟨rfl, okI_iff.2 (by decide)⟩, trivial⟩ (by simp) (by simp) (by decide) (by omega), Blk.ownN (R := Cel.rep) (by_ := 16) (B := w.heap.size) (k := [⟨0, 0⟩]) B_19 [[.int .i64 0, .int .i64 0]] rfl ⟨⟨rfl, okI_iff.2 (by decide), okI_iff.2 (by decide)⟩, trivial⟩ (by simp) (by simp) (by decide) (by omega), Blk.ownN (R := repI) (by_ := 8) (B := w.heap.size) (k := [20]) B_26 [[.int .i64 20]] rfl ⟨⟨rfl, okI_iff.2 (by decide)⟩, trivial⟩ (by simp) (by simp) (by decide) (by omega), Blk.ownN (R := repI) (by_ := 8) (B := w.heap.size) (k := [0, 0, 9]) B_33 [[.int .i64 0], [.int .i64 0], [.int .i64 9]] rfl ⟨⟨rfl, okI_iff.2 (by decide)⟩, ⟨rfl, okI_iff.2 (by decide)⟩, ⟨rfl, okI_iff.2 (by decide)⟩, trivial⟩ (by simp) (by simp) (by decide) (by omega), Blk.ownN (R := Trp.rep) (by_ := 56) (B := w.heap.size) (k := [⟨1, 0, 1, ⟨1, 0⟩, 10, 0⟩]) B_40 [[.int .i64 1, .int .i64 0, .int .i64 1, .int .i64 1, .int .i64 0, .int .i64 10, .int .i64 0]] rfl ⟨⟨rfl, okI_iff.2 (by decide), okI_iff.2 (by decide), okI_iff.2 (by decide), okI_iff.2 (by decide), okI_iff.2 (by decide), okI_iff.2 (by decide), okI_iff.2 (by decide)⟩, trivial⟩ (by simp) (by simp) (by decide) (by omega), by simp [Rep.blkOf]; omega, okI_iff.2 (by decide), okI_iff.2 (by decide), okI_iff.2 (by decide), okI_iff.2 (by decide)⟩, z_43⟩
end Go.Proofs.Ytffjpfpbpnhmcaa
set_option linter.unusedVariables false
set_option linter.unusedSimpArgs false
namespace Go.Proofs.Ytffjpfpbpnhmcaa
open Go.RowKit

/-- No more things than there are places for them. -/
theorem nodup_le : ∀ (n : Nat) (l : List Nat), l.Nodup → (∀ x ∈ l, x < n) → l.length ≤ n := by
  intro n
  induction n with
  | zero =>
    intro l _ h
    cases l with
    | nil => exact Nat.le_refl _
    | cons x r => exact absurd (h x List.mem_cons_self) (by omega)
  | succ n ih =>
    intro l hn h
    by_cases hm : n ∈ l
    · have h1 := ih (l.erase n) (hn.erase _) (fun x hx => by
        have := h x (List.mem_of_mem_erase hx)
        have hne : x ≠ n := fun e => by subst e; exact (List.Nodup.not_mem_erase hn) hx
        omega)
      rw [List.length_erase_of_mem hm] at h1
      omega
    · have := ih l hn (fun x hx => by
        have := h x hx
        have hne : x ≠ n := fun e => hm (by rw [← e]; exact hx)
        omega)
      omega
section
variable {f : Fld} {a b c x y : Cel} {d D : Int} {far : List Int} {fr : Cel → Int}
theorem cells_le (hf : f.chk = 0) {l : List Cel} (hn : l.Nodup) (hi : ∀ x ∈ l, f.isIn x = true) : l.length ≤ f.places.length := by
  have h1 : (l.map f.at_).Nodup := by
    have : ∀ l : List Cel, l.Nodup → (∀ x ∈ l, f.isIn x = true) → (l.map f.at_).Nodup := by
      intro l
      induction l with
      | nil => intro _ _; exact List.nodup_nil
      | cons x r ih =>
        intro hn hi
        rw [List.nodup_cons] at hn
        rw [List.map_cons, List.nodup_cons]
        refine ⟨fun hm => ?_, ih hn.2 fun y hy => hi y (List.mem_cons_of_mem _ hy)⟩
        obtain ⟨y, hy, e⟩ := List.mem_map.1 hm
        have := Fld.at_inj hf (hi y (List.mem_cons_of_mem _ hy)) (hi x List.mem_cons_self) e
        subst this; exact hn.1 hy
    exact this l hn hi
  have := nodup_le f.places.length _ h1 (fun i hm => by
    obtain ⟨y, hy, rfl⟩ := List.mem_map.1 hm
    exact (Fld.at_lt hf (hi y hy)).1)
  rwa [List.length_map] at this
abbrev RchF (f : Fld) (a : Cel) : Cel → Int → Prop := Gra.Rch f.adj f.kost (fun s => s = a)
abbrev DstF (f : Fld) (a : Cel) : Cel → Int → Prop := Gra.IsD f.adj f.kost (fun s => s = a)
theorem RchF.nn (r : RchF f a x d) : 0 ≤ d := Gra.Rch.nn (Fld.okZ f) r
theorem RchF.ground (ha : f.ground a = true) (r : RchF f a x d) : f.ground x = true := by
  induction r with
  | start hs => rw [hs]; exact ha
  | step _ hy _ => exact (Fld.mem_adj.1 hy).2
theorem RchF.tr (r : RchF f a x d) {e : Int} (q : RchF f x y e) : RchF f a y (d + e) := by
  induction q with
  | start hs => rw [hs, Int.add_zero]; exact r
  | step _ hy ih => rw [← Int.add_assoc]; exact .step ih hy
theorem DstF.pred (h : DstF f a x d) : (x = a ∧ d = 0) ∨ ∃ p e, DstF f a p e ∧ x ∈ f.adj p ∧ d = e + f.kost x := by
  obtain ⟨r, hm⟩ := h
  cases r with
  | start hs => exact .inl ⟨hs, rfl⟩
  | @step p _ e hp hy =>
    obtain ⟨e', he⟩ := Gra.Rch.isD (Fld.okZ f) hp
    have h1 := he.2 _ hp
    have h2 := hm _ (.step he.1 hy)
    have : e = e' := by omega
    subst this
    exact .inr ⟨p, e, he, hy, rfl⟩
/-- A cell at a distance: a chain of cells towards it, none twice. -/
theorem DstF.chain (hf : f.chk = 0) (ha : f.ground a = true) : ∀ (n : Nat) (x : Cel) (d : Int), DstF f a x d → d.toNat = n → ∃ l : List Cel, l.Nodup ∧ (∀ y ∈ l, f.isIn y = true ∧ ∃ e, DstF f a y e ∧ e ≤ d) ∧ d + 3 ≤ 3 * (l.length : Int) := by
  intro n
  induction n using Nat.strongRecOn with
  | ind n ih =>
    intro x d h hn
    have hx := Fld.ground_in (RchF.ground ha h.1)
    rcases h.pred with ⟨h1, h2⟩ | ⟨p, e, h1, h2, h3⟩
    · refine ⟨[x], by simp, fun y hy => ?_, by rw [h2]; simp⟩
      rw [List.mem_singleton.1 hy]; exact ⟨hx, d, h, Int.le_refl _⟩
    · have hk := f.kost_bd (c := x)
      have he := RchF.nn h1.1
      obtain ⟨l, l1, l2, l3⟩ := ih e.toNat (by omega) p e h1 rfl
      refine ⟨x :: l, List.nodup_cons.2 ⟨fun hm => ?_, l1⟩, fun y hy => ?_, by rw [List.length_cons]; omega⟩
      · obtain ⟨_, e', h4, h5⟩ := l2 x hm
        have := h4.uniq h; omega
      · rcases List.mem_cons.1 hy with rfl | hy
        · exact ⟨hx, d, h, Int.le_refl _⟩
        · obtain ⟨h4, e', h5, h6⟩ := l2 y hy
          exact ⟨h4, e', h5, by omega⟩
theorem DstF.bd (hf : f.chk = 0) (ha : f.ground a = true) (h : DstF f a x d) : d + 3 ≤ 3 * (f.places.length : Int) := by
  obtain ⟨l, l1, l2, l3⟩ := h.chain hf ha _ x d rfl
  have := cells_le hf l1 fun y hy => (l2 y hy).1
  omega
/-- The cell of a place. -/
def cellAt (f : Fld) (i : Nat) : Cel := ⟨(i : Int) % f.wide, (i : Int) / f.wide⟩
end
end Go.Proofs.Ytffjpfpbpnhmcaa
set_option linter.unusedVariables false
set_option linter.unusedSimpArgs false
namespace Go.Proofs.Ytffjpfpbpnhmcaa
open Go.RowKit

theorem find_march : findE ⟨3, 1, [0, 0, 3]⟩ ⟨1, 0⟩ ⟨2, 0⟩ = 0 ∧ findP ⟨3, 1, [0, 0, 3]⟩ ⟨1, 0⟩ ⟨2, 0⟩ = [⟨1, 0⟩, ⟨2, 0⟩] := by
  obtain ⟨h1, h2, h3⟩ := find_by (f := ⟨3, 1, [0, 0, 3]⟩) (a := ⟨1, 0⟩) (b := ⟨2, 0⟩) (far := [-1, 0, 2]) (cert (dl := [2, 0, 2]) (by decide)) (by decide) (by decide) (by decide) (by decide)
  exact ⟨h1, h3.trans (by decide)⟩
def marchT : List Trp := [⟨1, 0, 1, ⟨2, 0⟩, 10, 0⟩]
def marchG : List Gox := [⟨1, ⟨2, 0⟩⟩]
theorem march_small : marchE smallW marchG = 0 ∧ marchM smallW marchG = [1] ∧ marchW smallW marchG = { smallW with troops := marchT } := by
  have h1 : step1 smallW.field marchG smallW.troops 0 = some ⟨2, 0⟩ := by
    have hg : goK marchG (smallW.troops.getD 0 default).id = 0 := by decide
    have e1 : findE smallW.field (smallW.troops.getD 0 default).spot (marchG.getD 0 default).to = 0 := find_march.1
    have e2 : findP smallW.field (smallW.troops.getD 0 default).spot (marchG.getD 0 default).to = [⟨1, 0⟩, ⟨2, 0⟩] := find_march.2
    have h0 : 0 ≤ goK marchG (smallW.troops.getD 0 default).id := by omega
    have := step1_some (f := smallW.field) (l := marchG) (T := smallW.troops) (k := 0) h0
    rw [hg] at this
    simp only [Int.toNat_zero] at this
    rw [e1, e2] at this
    exact this ⟨⟨rfl, by decide⟩, by decide⟩
  have h2 : stS smallW.field marchG smallW.troops 1 = (marchT, [1]) := stS_some (f := smallW.field) (l := marchG) (T := smallW.troops) (U := smallW.troops) (M := []) (k := 0) rfl h1
  obtain ⟨e1, e2, e3⟩ := march_ok (W := smallW) (l := marchG) (by decide +kernel) (by decide)
  refine ⟨e1, ?_, ?_⟩
  · rw [e3]; show (stS smallW.field marchG smallW.troops 1).2 = _; rw [h2]
  · rw [e2]; show ({ smallW with troops := (stS smallW.field marchG smallW.troops 1).1 } : Wd) = _; rw [h2]
end Go.Proofs.Ytffjpfpbpnhmcaa
set_option linter.unusedVariables false
set_option linter.unusedSimpArgs false
namespace Go.Proofs.Ytffjpfpbpnhmcaa
open Go.RowKit

theorem MrL_en_mustkeep_small : Enters Try.prog 64 := en Try.func64 (by kernel_rfl) (by kernel_rfl)
theorem MrL_en_march_Step : Enters Try.prog 28 := en Try.func28 (by kernel_rfl) (by kernel_rfl)
theorem MrL_zv_api_World : Zv Try.prog 49 (.agg #[.int .i64 0, .int .i64 0, .slice none 0 0, .slice none 0 0, .slice none 0 0, .slice none 0 0, .slice none 0 0, .int .i64 0, .int .i64 0]) := fun _ => by kernel_rfl
theorem MrL_sz_api_World : Sz Try.prog 49 9 := fun _ => by kernel_rfl
theorem MrL_en_slices_Equal_S_int_int_ : Enters Try.prog 33 := en Try.func33 (by kernel_rfl) (by kernel_rfl)
theorem MrL_fd_api_World_4 : Fd Try.prog 49 4 6 := fun _ _ _ => by kernel_rfl
theorem MrL_ag_S_api_Troop : Ag Try.prog 47 false := fun _ => by kernel_rfl
theorem MrL_sz_api_Troop : Sz Try.prog 65 7 := fun _ => by kernel_rfl
theorem MrL_fd_api_Troop_3 : Fd Try.prog 65 3 3 := fun _ _ _ => by kernel_rfl
theorem MrL_ag_api_Cell : Ag Try.prog 32 true := fun _ => by kernel_rfl
theorem MrL_sz_api_Cell : Sz Try.prog 32 2 := fun _ => by kernel_rfl
theorem MrL_eqs_api_Cell : EqS Try.prog Cel.cells 32 := by
  intro a b w
  obtain ⟨a0, a1⟩ := a
  obtain ⟨b0, b1⟩ := b
  simp only [Cel.cells, Cel.mk.injEq]
  constructor
  · go_simp
    repeat' split
    all_goals simp_all
  · go_simp
    repeat' split
    all_goals simp_all
theorem MrL_eqg_api_Cell : (Try.prog).eqGuardType (Try.prog).depth 32 = false := by kernel_rfl
def marchV : Wd := { smallW with troops := marchT }
theorem mstep_small (A : Option Addr) (c : Nat) (w : World) (a : Wd.At) (hW : Wd.Has w a smallW) (hl : Gox.rep.SHas 24 w A c [(⟨1, ⟨2, 0⟩⟩ : Gox)]) :
    Calls Try.prog 28 #[.agg ((Wd.cells a smallW).toArray), .slice A 1 c] w (fun e w' => ∃ a' A' c', e = .returned (.tuple #[.agg ((Wd.cells a' marchV).toArray), .slice A' 1 c', .int .i64 0]) ∧ WOwn w' w.heap.size a' marchV ∧ repI.SOwn 3 8 w' w.heap.size (Rep.blkOf A') A' c' [1] ∧ (∀ q ∈ Rep.blkOf A', q ∈ WOwn.foot a' → False) ∧ Ext w w') := by
  refine (mstep_any a smallW A c marchG w hW hl).mono ?_
  rintro e w' ⟨a', A', c', rfl, h1, h2, h3, h4⟩
  obtain ⟨e1, e2, e3⟩ := march_small
  rw [e1, e2, e3]
  rw [e3] at h1
  rw [e2] at h2
  exact ⟨a', A', c', rfl, h1, h2, h3, h4⟩
set_option maxRecDepth 100000 in
set_option maxHeartbeats 400000 in
theorem marchLives_any  (w : World) :
    Calls Try.prog 29 #[] w (fun e w' => e = .returned (.bool true) ∧ Ext w w') := by
  refine calls_W (n := 29) Try.func29 rfl rfl rfl ?_
  refine sq <| rg <| vl (as_ rfl) rfl <| nl <| nT <| sq <| rg <| ca MrL_en_mustkeep_small rfl rfl ((small_any _).mono ?_)
  rintro e w_4 ⟨a_1, rfl, HO_1, x_5⟩
  refine ⟨_, rfl, ?_⟩
  have q_6 := x_5.size
  have z_4 := Ext.tr (Ext.rf w) x_5
  have u_2 := fun q hq => (HO_1.lt q hq).2
  have lo_3 := fun q hq => (HO_1.lt q hq).1
  refine vl (v := .agg #[.int .i64 2, .int .i64 0]) (bd rfl (by kernel_rfl)) rfl <| vl (v := .agg #[.int .i64 1, .int .i64 2, .int .i64 0]) (bd rfl (by kernel_rfl)) rfl <| bs (e := 53) (cs := [.int .i64 1, .int .i64 2, .int .i64 0]) rfl (fun _ => by kernel_rfl) rfl fun w_7 b_8 x_9 l_10 B_11 => ?_
  have q_12 := x_9.size
  have z_7 := Ext.tr z_4 x_9
  have q_13 := B_11.lt
  have HO_1 := HO_1.later x_9
  refine ca MrL_en_march_Step rfl rfl ((mstep_small _ _ _ _ HO_1.has (Blk.hasN (R := Gox.rep) (by_ := 24) (k := [(⟨1, ⟨2, 0⟩⟩ : Gox)]) B_11 [[.int .i64 1, .int .i64 2, .int .i64 0]] rfl (⟨⟨rfl, ⟨okI_iff.2 (by (try dsimp only); omega), okI_iff.2 (by (try dsimp only); omega), okI_iff.2 (by (try dsimp only); omega)⟩⟩, trivial⟩) (by simp) (by simp))).mono ?_)
  rintro e w_23 ⟨a14, A14, c14, rfl, HO14, OM14, hd14, x_24⟩
  refine ⟨_, rfl, ?_⟩
  have q_25 := x_24.size
  have z_23 := Ext.tr z_7 x_24
  have u_15 := fun q hq => (HO14.lt q hq).2
  have lo_16 := fun q hq => (HO14.lt q hq).1
  have u_17 := fun q hq => (OM14.lt q hq).2
  have lo_18 := fun q hq => (OM14.lt q hq).1
  have dd14 : ∀ q ∈ Rep.blkOf A14, q ∈ WOwn.foot a14 → False := hd14
  have dw14 : ∀ q ∈ WOwn.foot a14, q ∈ Rep.blkOf A14 → False := fun q h1 h2 => hd14 q h2 h1
  refine vl (mv rfl) rfl <| vl (ex rfl rfl) rfl <| vl (ex rfl rfl) rfl <| vl (ex rfl rfl) rfl <| al rfl MrL_zv_api_World rfl rfl fun w_26 b_27 x_28 l_29 B_30 => ?_
  have q_31 := x_28.size
  have z_26 := Ext.tr z_23 x_28
  have q_32 := B_30.lt
  refine st rfl rfl B_30 rfl MrL_sz_api_World rfl rfl rfl fun w_33 m_34 B_30 => ?_
  have q_36 := m_34.size
  have z_33 := Ext.mod z_26 m_34 (by simp only [List.mem_singleton, forall_eq]; omega)
  have q_35 := m_34.size
  refine vl (as_ rfl) rfl <| vl (as_ rfl) rfl <| nl <| nT <| sq <| rg <| vl (mv rfl) rfl <| vl (beq rfl rfl) rfl <| vl (mv rfl) rfl <| ug rfl rfl rfl <| vl (mv rfl) rfl <| ug rfl rfl rfl <| bs (e := 3) (cs := [.int .i64 1]) rfl (fun _ => by kernel_rfl) rfl fun w_37 b_38 x_39 l_40 B_41 => ?_
  have q_42 := x_39.size
  have z_37 := Ext.tr z_33 x_39
  have q_43 := B_41.lt
  refine ug rfl rfl rfl <| ?_
  have OM14 := OM14.later x_28
  have OM14 := OM14.mod m_34 (fun q hq h => by have hb := List.mem_singleton.1 h; exfalso; (have := u_17 q hq; omega))
  have OM14 := OM14.later x_39
  refine ca MrL_en_slices_Equal_S_int_int_ rfl rfl ((equal_Z _ _ _ _ _ _ ([1]) ([1]) _ OM14.has (Blk.hasN (R := repI) (by_ := 8) (k := [1]) B_41 [[.int .i64 1]] rfl (⟨⟨rfl, okI_iff.2 (by (try dsimp only); omega)⟩, trivial⟩) (by simp) (by simp))).mono ?_)
  rintro e w_44 ⟨rfl, x_45⟩
  refine ⟨_, rfl, ?_⟩
  have q_46 := x_45.size
  have z_44 := Ext.tr z_37 x_45
  refine vl (pkT rfl rfl) rfl <| vl (mv rfl) rfl <| vQ rfl rfl rfl rfl (fun hc => fa MrL_fd_api_World_4 rfl) rfl <| ?_
  have B_30 := B_30.later (Ext.tr x_39 x_45)
  refine vQ rfl rfl rfl rfl (fun hc => ld (gt hc rfl) (B_30.one MrL_ag_S_api_Troop rfl)) rfl <| ?_
  have HO14 := HO14.later x_28
  have HO14 := HO14.mod m_34 (fun q hq h => by have hb := List.mem_singleton.1 h; exfalso; (have := u_15 q hq; omega))
  have HO14 := HO14.later (Ext.tr x_39 x_45)
  refine vQ rfl rfl rfl rfl (fun hc => iA 0 Try.underlying47 MrL_sz_api_Troop (gt hc rfl) rfl (HO14.T.has.adr (Nat.zero_lt_of_lt (show 0 < _ from (by decide +kernel : 0 < (marchV.troops).length)))) rfl (by decide +kernel : 0 < (marchV.troops).length)) rfl <| vQ rfl rfl rfl rfl (fun hc => fa MrL_fd_api_Troop_3 (gt hc rfl)) rfl <| vQ rfl rfl rfl rfl (fun hc => ld (gt hc rfl) (Rep.SHas.part hcT (HO14.T.has.adh (Nat.zero_lt_of_lt (show 0 < _ from (by decide +kernel : 0 < (marchV.troops).length)))) 3 (ds := [.int .i64 ((marchV.troops.getD 0 default).spot.x), .int .i64 ((marchV.troops.getD 0 default).spot.y)]) (get_d (l := marchV.troops) (u := default) (by decide +kernel : 0 < (marchV.troops).length)) rfl MrL_ag_api_Cell MrL_sz_api_Cell)) rfl <| vQ (v := .agg #[.int .i64 2, .int .i64 0]) rfl rfl rfl rfl (fun hc => bd rfl (by kernel_rfl)) rfl <| vQ rfl rfl rfl rfl (fun hc => bqS MrL_eqs_api_Cell MrL_eqg_api_Cell (p := (marchV.troops.getD 0 default).spot) (q := (⟨2, 0⟩ : Cel)) (gt hc rfl) (gt hc rfl)) rfl <| vl (pA rfl rfl rfl rfl) rfl <| vl (as_ rfl) rfl <| nl <| nT <| rt <| tR (.tmp rfl .nil) <| ?_
  exact ⟨ret_true (by decide +kernel), z_44⟩
end Go.Proofs.Ytffjpfpbpnhmcaa
set_option linter.unusedVariables false
set_option linter.unusedSimpArgs false
namespace Go.Proofs.Ytffjpfpbpnhmcaa
open Go.RowKit

theorem MrC_ag_api_World : Ag Try.prog 49 true := fun _ => by kernel_rfl
theorem MrC_sz_api_World : Sz Try.prog 49 9 := fun _ => by kernel_rfl
theorem MrC_ag_api_Cell : Ag Try.prog 32 true := fun _ => by kernel_rfl
theorem MrC_sz_api_Cell : Sz Try.prog 32 2 := fun _ => by kernel_rfl
theorem MrC_en_march_Reach : Enters Try.prog 39 := en Try.func39 (by kernel_rfl) (by kernel_rfl)
theorem MrC_zv_api_World : Zv Try.prog 49 (.agg #[.int .i64 0, .int .i64 0, .slice none 0 0, .slice none 0 0, .slice none 0 0, .slice none 0 0, .slice none 0 0, .int .i64 0, .int .i64 0]) := fun _ => by kernel_rfl
theorem MrC_en_mustkeep_marchLives : Enters Try.prog 29 := en Try.func29 (by kernel_rfl) (by kernel_rfl)
theorem MrC_en_mustref_SameWorld : Enters Try.prog 32 := en Try.func32 (by kernel_rfl) (by kernel_rfl)
theorem stS_same {f : Fld} {l : List Gox} {T : List Trp} : ∀ k, (stS f l T k).2 = [] → (stS f l T k).1 = T
  | 0, _ => rfl
  | k + 1, h => by
    cases hs : step1 f l (stS f l T k).1 k with
    | none => rw [stS_none rfl hs] at h ⊢; exact stS_same k h
    | some c => rw [stS_some rfl hs] at h; simp at h
theorem stepped_same {W : Wd} {l : List Gox} (h : (W.stepped l).2.length = 0) : (W.stepped l).1 = W := by
  unfold Wd.stepped at *
  rw [stS_same _ (List.eq_nil_of_length_eq_zero h)]
theorem reach_add (g : Gox) (m : Nat) : ∀ (n : Nat) (W : Wd), reachV g (n + m) W = reachV g m (reachV g n W) ∧ reachK g (n + m) W = reachK g n W + reachK g m (reachV g n W)
  | 0, W => by rw [Nat.zero_add]; exact ⟨rfl, (Nat.zero_add _).symm⟩
  | n + 1, W => by
    rw [show n + 1 + m = n + m + 1 from by omega]
    by_cases h : (W.stepped [g]).2.length = 0
    · have e := stepped_same h
      simp only [reachV, reachK, if_pos h]
      rw [e]
      cases m with
      | zero => exact ⟨rfl, rfl⟩
      | succ m => simp only [reachV, reachK, if_pos h, e]; exact ⟨trivial, trivial⟩
    · simp only [reachV, reachK, if_neg h]
      obtain ⟨h1, h2⟩ := reach_add g m n (W.stepped [g]).1
      exact ⟨h1, by rw [h2]; omega⟩
theorem reachE_in {W : Wd} {id n : Int} (h : reachE W id n = 0) : W.chk = 0 ∧ 0 ≤ n ∧ n ≤ 200 ∧ whichB W (isId id) = true := by
  unfold reachE at h
  split at h
  · contradiction
  · split at h
    · omega
    · split at h
      · omega
      · rename_i h1 h2 h3
        exact ⟨by simpa using h1, by omega, by omega, by simpa using h3⟩
theorem reachK_le (g : Gox) : ∀ (n : Nat) (W : Wd), reachK g n W ≤ n
  | 0, W => Nat.le_refl _
  | n + 1, W => by
    unfold reachK
    split
    · omega
    · have := reachK_le g n (W.stepped [g]).1; omega
theorem reach_cut {W : Wd} {id n m : Int} {to : Cel} (h1 : reachE W id n = 0) (h2 : reachE (reachW W id to n) id m = 0) (h3 : n + m ≤ 200) :
    reachE W id (n + m) = 0 ∧ reachW W id to (n + m) = reachW (reachW W id to n) id to m ∧ reachN W id to (n + m) = reachN W id to n + reachN (reachW W id to n) id to m := by
  obtain ⟨a1, a2, a3, a4⟩ := reachE_in h1
  obtain ⟨b1, b2, b3, b4⟩ := reachE_in h2
  have h4 : reachE W id (n + m) = 0 := reach_let a1 (by omega) h3 a4
  obtain ⟨_, e1, e2⟩ := reach_ok (to := to) h1
  obtain ⟨_, e3, e4⟩ := reach_ok (to := to) h2
  obtain ⟨_, e5, e6⟩ := reach_ok (to := to) h4
  obtain ⟨r1, r2⟩ := reach_add ⟨id, ⟨to.x, to.y⟩⟩ m.toNat n.toNat W
  have en : (n + m).toNat = n.toNat + m.toNat := by omega
  refine ⟨h4, ?_, ?_⟩
  · rw [e5, e3, e1, en, r1]
  · rw [e6, e4, e2, e1, en, r2]
theorem reachN_le {W : Wd} {id n : Int} {to : Cel} (h : reachE W id n = 0) : (reachN W id to n : Int) ≤ n := by
  obtain ⟨a1, a2, a3, a4⟩ := reachE_in h
  rw [(reach_ok (to := to) h).2.2]
  have := reachK_le ⟨id, ⟨to.x, to.y⟩⟩ n.toNat W
  omega
set_option maxRecDepth 100000 in
set_option maxHeartbeats 400000 in
theorem marchCuts_A (a : Wd.At) (W : Wd) (id n m : Int) (to : Cel) (w : World) (hW : Wd.Has w a W) (hid : okI id) (hto : to.ok) (h1 : reachE W id n ≠ 0) :
    Calls Try.prog 12 #[.agg ((Wd.cells a W).toArray), .int .i64 id, .agg #[.int .i64 to.x, .int .i64 to.y], .int .i64 n, .int .i64 m] w (fun e w' => e = .returned (.bool true) ∧ Ext w w') := by
  have k1 : (reachE W id n != 0) = true := by simpa using h1
  refine calls_W (n := 80) Try.func12 rfl rfl rfl ?_
  refine sq <| rg <| bx rfl rfl rfl rfl fun w_1 b_2 x_3 l_4 B_5 => ?_
  have q_6 := x_3.size
  have z_1 := Ext.tr (Ext.rf w) x_3
  have q_7 := B_5.lt
  refine bx rfl rfl rfl rfl fun w_8 b_9 x_10 l_11 B_12 => ?_
  have q_13 := x_10.size
  have z_8 := Ext.tr z_1 x_10
  have q_14 := B_12.lt
  refine vl (as_ rfl) rfl <| nl <| nT <| sq <| rg <| ?_
  have B_5 := B_5.later x_10
  refine vl (ld rfl (B_5.all MrC_ag_api_World MrC_sz_api_World)) rfl <| vl (mv rfl) rfl <| vl (ld rfl (B_12.all MrC_ag_api_Cell MrC_sz_api_Cell)) rfl <| vl (mv rfl) rfl <| ca MrC_en_march_Reach rfl rfl ((mreach_any a W id n to _ (hW.keep z_8) hid hto).mono ?_)
  rintro e w_18 ⟨a15, rfl, HO15, x_19⟩
  refine ⟨_, rfl, ?_⟩
  have q_20 := x_19.size
  have z_18 := Ext.tr z_8 x_19
  have u_16 := fun q hq => (HO15.lt q hq).2
  have lo_17 := fun q hq => (HO15.lt q hq).1
  refine vl (mv rfl) rfl <| vl (ex rfl rfl) rfl <| vl (ex rfl rfl) rfl <| vl (ex rfl rfl) rfl <| al rfl MrC_zv_api_World rfl rfl fun w_21 b_22 x_23 l_24 B_25 => ?_
  have q_26 := x_23.size
  have z_21 := Ext.tr z_18 x_23
  have q_27 := B_25.lt
  refine st rfl rfl B_25 rfl MrC_sz_api_World rfl rfl rfl fun w_28 m_29 B_25 => ?_
  have q_31 := m_29.size
  have z_28 := Ext.mod z_21 m_29 (by simp only [List.mem_singleton, forall_eq]; omega)
  have q_30 := m_29.size
  refine vl (as_ rfl) rfl <| vl (as_ rfl) rfl <| nl <| nT <| sq <| rg <| vl (ld rfl (B_25.all MrC_ag_api_World MrC_sz_api_World)) rfl <| vl (mv rfl) rfl <| ?_
  have B_12 := B_12.later (Ext.tr x_19 x_23)
  have B_12 := B_12.mod m_29 (by simp only [List.mem_singleton]; omega)
  refine vl (ld rfl (B_12.all MrC_ag_api_Cell MrC_sz_api_Cell)) rfl <| vl (mv rfl) rfl <| ?_
  have HO15 := HO15.later x_23
  have HO15 := HO15.mod m_29 (fun q hq h => by have hb := List.mem_singleton.1 h; exfalso; (have := u_16 q hq; omega))
  refine ca MrC_en_march_Reach rfl rfl ((mreach_any a15 (reachW W id to n) id m to _ HO15.has hid hto).mono ?_)
  rintro e w_35 ⟨a32, rfl, HO32, x_36⟩
  refine ⟨_, rfl, ?_⟩
  have q_37 := x_36.size
  have z_35 := Ext.tr z_28 x_36
  have u_33 := fun q hq => (HO32.lt q hq).2
  have lo_34 := fun q hq => (HO32.lt q hq).1
  refine vl (mv rfl) rfl <| vl (ex rfl rfl) rfl <| vl (ex rfl rfl) rfl <| vl (ex rfl rfl) rfl <| al rfl MrC_zv_api_World rfl rfl fun w_38 b_39 x_40 l_41 B_42 => ?_
  have q_43 := x_40.size
  have z_38 := Ext.tr z_35 x_40
  have q_44 := B_42.lt
  refine st rfl rfl B_42 rfl MrC_sz_api_World rfl rfl rfl fun w_45 m_46 B_42 => ?_
  have q_48 := m_46.size
  have z_45 := Ext.mod z_38 m_46 (by simp only [List.mem_singleton, forall_eq]; omega)
  have q_47 := m_46.size
  refine vl (as_ rfl) rfl <| vl (as_ rfl) rfl <| nl <| nT <| sq <| sq <| rg <| ca MrC_en_mustkeep_marchLives rfl rfl ((marchLives_any _).mono ?_)
  rintro e w_49 ⟨rfl, x_50⟩
  refine ⟨_, rfl, ?_⟩
  have q_51 := x_50.size
  have z_49 := Ext.tr z_45 x_50
  refine vl (nt rfl) rfl <| vl (mv rfl) rfl <| ug rfl rfl rfl <| vl (mv rfl) rfl <| ug rfl rfl rfl <| vl (bne rfl rfl) rfl <| vl (pkF rfl (evb rfl k1)) rfl <| vl (mv rfl) rfl <| vQ (v := undef) rfl rfl rfl rfl (fun hc => nomatch hc) rfl <| vQ (v := undef) rfl rfl rfl rfl (fun hc => nomatch hc) rfl <| vl (pkT rfl rfl) rfl <| vl (mv rfl) rfl <| vQ (v := undef) rfl rfl rfl rfl (fun hc => nomatch hc) rfl <| vQ (v := undef) rfl rfl rfl rfl (fun hc => nomatch hc) rfl <| vQ (v := undef) rfl rfl rfl rfl (fun hc => nomatch hc) rfl <| vQ (v := undef) rfl rfl rfl rfl (fun hc => nomatch hc) rfl <| vl (pkT rfl rfl) rfl <| nl <| nT <| cT rfl <| sq <| rg <| ca MrC_en_mustkeep_marchLives rfl rfl ((marchLives_any _).mono ?_)
  rintro e w_52 ⟨rfl, x_53⟩
  refine ⟨_, rfl, ?_⟩
  have q_54 := x_53.size
  have z_52 := Ext.tr z_49 x_53
  refine vl (as_ rfl) rfl <| nl <| nT <| rt <| tT <| tR (.tmp rfl .nil) <| ?_
  exact ⟨rfl, z_52⟩
set_option maxRecDepth 100000 in
set_option maxHeartbeats 400000 in
theorem marchCuts_B (a : Wd.At) (W : Wd) (id n m : Int) (to : Cel) (w : World) (hW : Wd.Has w a W) (hid : okI id) (hto : to.ok) (h1 : reachE W id n = 0) (h2 : reachE (reachW W id to n) id m ≠ 0) :
    Calls Try.prog 12 #[.agg ((Wd.cells a W).toArray), .int .i64 id, .agg #[.int .i64 to.x, .int .i64 to.y], .int .i64 n, .int .i64 m] w (fun e w' => e = .returned (.bool true) ∧ Ext w w') := by
  have k1 : (reachE W id n != 0) = false := by simpa using h1
  obtain ⟨_, n1, n2, _⟩ := reachE_in h1
  have k2 : (reachE (reachW W id to n) id m != 0) = true := by simpa using h2
  refine calls_W (n := 80) Try.func12 rfl rfl rfl ?_
  refine sq <| rg <| bx rfl rfl rfl rfl fun w_1 b_2 x_3 l_4 B_5 => ?_
  have q_6 := x_3.size
  have z_1 := Ext.tr (Ext.rf w) x_3
  have q_7 := B_5.lt
  refine bx rfl rfl rfl rfl fun w_8 b_9 x_10 l_11 B_12 => ?_
  have q_13 := x_10.size
  have z_8 := Ext.tr z_1 x_10
  have q_14 := B_12.lt
  refine vl (as_ rfl) rfl <| nl <| nT <| sq <| rg <| ?_
  have B_5 := B_5.later x_10
  refine vl (ld rfl (B_5.all MrC_ag_api_World MrC_sz_api_World)) rfl <| vl (mv rfl) rfl <| vl (ld rfl (B_12.all MrC_ag_api_Cell MrC_sz_api_Cell)) rfl <| vl (mv rfl) rfl <| ca MrC_en_march_Reach rfl rfl ((mreach_any a W id n to _ (hW.keep z_8) hid hto).mono ?_)
  rintro e w_18 ⟨a15, rfl, HO15, x_19⟩
  refine ⟨_, rfl, ?_⟩
  have q_20 := x_19.size
  have z_18 := Ext.tr z_8 x_19
  have u_16 := fun q hq => (HO15.lt q hq).2
  have lo_17 := fun q hq => (HO15.lt q hq).1
  refine vl (mv rfl) rfl <| vl (ex rfl rfl) rfl <| vl (ex rfl rfl) rfl <| vl (ex rfl rfl) rfl <| al rfl MrC_zv_api_World rfl rfl fun w_21 b_22 x_23 l_24 B_25 => ?_
  have q_26 := x_23.size
  have z_21 := Ext.tr z_18 x_23
  have q_27 := B_25.lt
  refine st rfl rfl B_25 rfl MrC_sz_api_World rfl rfl rfl fun w_28 m_29 B_25 => ?_
  have q_31 := m_29.size
  have z_28 := Ext.mod z_21 m_29 (by simp only [List.mem_singleton, forall_eq]; omega)
  have q_30 := m_29.size
  refine vl (as_ rfl) rfl <| vl (as_ rfl) rfl <| nl <| nT <| sq <| rg <| vl (ld rfl (B_25.all MrC_ag_api_World MrC_sz_api_World)) rfl <| vl (mv rfl) rfl <| ?_
  have B_12 := B_12.later (Ext.tr x_19 x_23)
  have B_12 := B_12.mod m_29 (by simp only [List.mem_singleton]; omega)
  refine vl (ld rfl (B_12.all MrC_ag_api_Cell MrC_sz_api_Cell)) rfl <| vl (mv rfl) rfl <| ?_
  have HO15 := HO15.later x_23
  have HO15 := HO15.mod m_29 (fun q hq h => by have hb := List.mem_singleton.1 h; exfalso; (have := u_16 q hq; omega))
  refine ca MrC_en_march_Reach rfl rfl ((mreach_any a15 (reachW W id to n) id m to _ HO15.has hid hto).mono ?_)
  rintro e w_35 ⟨a32, rfl, HO32, x_36⟩
  refine ⟨_, rfl, ?_⟩
  have q_37 := x_36.size
  have z_35 := Ext.tr z_28 x_36
  have u_33 := fun q hq => (HO32.lt q hq).2
  have lo_34 := fun q hq => (HO32.lt q hq).1
  refine vl (mv rfl) rfl <| vl (ex rfl rfl) rfl <| vl (ex rfl rfl) rfl <| vl (ex rfl rfl) rfl <| al rfl MrC_zv_api_World rfl rfl fun w_38 b_39 x_40 l_41 B_42 => ?_
  have q_43 := x_40.size
  have z_38 := Ext.tr z_35 x_40
  have q_44 := B_42.lt
  refine st rfl rfl B_42 rfl MrC_sz_api_World rfl rfl rfl fun w_45 m_46 B_42 => ?_
  have q_48 := m_46.size
  have z_45 := Ext.mod z_38 m_46 (by simp only [List.mem_singleton, forall_eq]; omega)
  have q_47 := m_46.size
  refine vl (as_ rfl) rfl <| vl (as_ rfl) rfl <| nl <| nT <| sq <| sq <| rg <| ca MrC_en_mustkeep_marchLives rfl rfl ((marchLives_any _).mono ?_)
  rintro e w_49 ⟨rfl, x_50⟩
  refine ⟨_, rfl, ?_⟩
  have q_51 := x_50.size
  have z_49 := Ext.tr z_45 x_50
  refine vl (nt rfl) rfl <| vl (mv rfl) rfl <| ug rfl rfl rfl <| vl (mv rfl) rfl <| ug rfl rfl rfl <| vl (bne rfl rfl) rfl <| vl (pkF rfl (evb rfl k1)) rfl <| vl (mv rfl) rfl <| ug rfl rfl rfl <| vl (mv rfl) rfl <| ug rfl rfl rfl <| vl (bne rfl rfl) rfl <| vl (pkF rfl (evb rfl k2)) rfl <| vl (mv rfl) rfl <| vQ (v := undef) rfl rfl rfl rfl (fun hc => nomatch hc) rfl <| vQ (v := undef) rfl rfl rfl rfl (fun hc => nomatch hc) rfl <| vQ (v := undef) rfl rfl rfl rfl (fun hc => nomatch hc) rfl <| vQ (v := undef) rfl rfl rfl rfl (fun hc => nomatch hc) rfl <| vl (pkT rfl rfl) rfl <| nl <| nT <| cT rfl <| sq <| rg <| ?_
  refine ca MrC_en_mustkeep_marchLives rfl rfl ((marchLives_any _).mono ?_)
  rintro e w_52 ⟨rfl, x_53⟩
  refine ⟨_, rfl, ?_⟩
  have q_54 := x_53.size
  have z_52 := Ext.tr z_49 x_53
  refine vl (as_ rfl) rfl <| nl <| nT <| rt <| tT <| tR (.tmp rfl .nil) <| ?_
  exact ⟨rfl, z_52⟩
set_option maxRecDepth 100000 in
set_option maxHeartbeats 400000 in
theorem marchCuts_C (a : Wd.At) (W : Wd) (id n m : Int) (to : Cel) (w : World) (hW : Wd.Has w a W) (hid : okI id) (hto : to.ok) (h1 : reachE W id n = 0) (h2 : reachE (reachW W id to n) id m = 0) :
    Calls Try.prog 12 #[.agg ((Wd.cells a W).toArray), .int .i64 id, .agg #[.int .i64 to.x, .int .i64 to.y], .int .i64 n, .int .i64 m] w (fun e w' => e = .returned (.bool true) ∧ Ext w w') := by
  have k1 : (reachE W id n != 0) = false := by simpa using h1
  obtain ⟨_, n1, n2, _⟩ := reachE_in h1
  have k2 : (reachE (reachW W id to n) id m != 0) = false := by simpa using h2
  obtain ⟨_, m1, m2, _⟩ := reachE_in h2
  have b1 := reachN_le (to := to) h1
  have b2 := reachN_le (to := to) h2
  refine calls_W (n := 80) Try.func12 rfl rfl rfl ?_
  refine sq <| rg <| bx rfl rfl rfl rfl fun w_1 b_2 x_3 l_4 B_5 => ?_
  have q_6 := x_3.size
  have z_1 := Ext.tr (Ext.rf w) x_3
  have q_7 := B_5.lt
  refine bx rfl rfl rfl rfl fun w_8 b_9 x_10 l_11 B_12 => ?_
  have q_13 := x_10.size
  have z_8 := Ext.tr z_1 x_10
  have q_14 := B_12.lt
  refine vl (as_ rfl) rfl <| nl <| nT <| sq <| rg <| ?_
  have B_5 := B_5.later x_10
  refine vl (ld rfl (B_5.all MrC_ag_api_World MrC_sz_api_World)) rfl <| vl (mv rfl) rfl <| vl (ld rfl (B_12.all MrC_ag_api_Cell MrC_sz_api_Cell)) rfl <| vl (mv rfl) rfl <| ca MrC_en_march_Reach rfl rfl ((mreach_any a W id n to _ (hW.keep z_8) hid hto).mono ?_)
  rintro e w_18 ⟨a15, rfl, HO15, x_19⟩
  refine ⟨_, rfl, ?_⟩
  have q_20 := x_19.size
  have z_18 := Ext.tr z_8 x_19
  have u_16 := fun q hq => (HO15.lt q hq).2
  have lo_17 := fun q hq => (HO15.lt q hq).1
  refine vl (mv rfl) rfl <| vl (ex rfl rfl) rfl <| vl (ex rfl rfl) rfl <| vl (ex rfl rfl) rfl <| al rfl MrC_zv_api_World rfl rfl fun w_21 b_22 x_23 l_24 B_25 => ?_
  have q_26 := x_23.size
  have z_21 := Ext.tr z_18 x_23
  have q_27 := B_25.lt
  refine st rfl rfl B_25 rfl MrC_sz_api_World rfl rfl rfl fun w_28 m_29 B_25 => ?_
  have q_31 := m_29.size
  have z_28 := Ext.mod z_21 m_29 (by simp only [List.mem_singleton, forall_eq]; omega)
  have q_30 := m_29.size
  refine vl (as_ rfl) rfl <| vl (as_ rfl) rfl <| nl <| nT <| sq <| rg <| vl (ld rfl (B_25.all MrC_ag_api_World MrC_sz_api_World)) rfl <| vl (mv rfl) rfl <| ?_
  have B_12 := B_12.later (Ext.tr x_19 x_23)
  have B_12 := B_12.mod m_29 (by simp only [List.mem_singleton]; omega)
  refine vl (ld rfl (B_12.all MrC_ag_api_Cell MrC_sz_api_Cell)) rfl <| vl (mv rfl) rfl <| ?_
  have HO15 := HO15.later x_23
  have HO15 := HO15.mod m_29 (fun q hq h => by have hb := List.mem_singleton.1 h; exfalso; (have := u_16 q hq; omega))
  refine ca MrC_en_march_Reach rfl rfl ((mreach_any a15 (reachW W id to n) id m to _ HO15.has hid hto).mono ?_)
  rintro e w_35 ⟨a32, rfl, HO32, x_36⟩
  refine ⟨_, rfl, ?_⟩
  have q_37 := x_36.size
  have z_35 := Ext.tr z_28 x_36
  have u_33 := fun q hq => (HO32.lt q hq).2
  have lo_34 := fun q hq => (HO32.lt q hq).1
  refine vl (mv rfl) rfl <| vl (ex rfl rfl) rfl <| vl (ex rfl rfl) rfl <| vl (ex rfl rfl) rfl <| al rfl MrC_zv_api_World rfl rfl fun w_38 b_39 x_40 l_41 B_42 => ?_
  have q_43 := x_40.size
  have z_38 := Ext.tr z_35 x_40
  have q_44 := B_42.lt
  refine st rfl rfl B_42 rfl MrC_sz_api_World rfl rfl rfl fun w_45 m_46 B_42 => ?_
  have q_48 := m_46.size
  have z_45 := Ext.mod z_38 m_46 (by simp only [List.mem_singleton, forall_eq]; omega)
  have q_47 := m_46.size
  refine vl (as_ rfl) rfl <| vl (as_ rfl) rfl <| nl <| nT <| sq <| sq <| rg <| ca MrC_en_mustkeep_marchLives rfl rfl ((marchLives_any _).mono ?_)
  rintro e w_49 ⟨rfl, x_50⟩
  refine ⟨_, rfl, ?_⟩
  have q_51 := x_50.size
  have z_49 := Ext.tr z_45 x_50
  refine vl (nt rfl) rfl <| vl (mv rfl) rfl <| ug rfl rfl rfl <| vl (mv rfl) rfl <| ug rfl rfl rfl <| vl (bne rfl rfl) rfl <| vl (pkF rfl (evb rfl k1)) rfl <| vl (mv rfl) rfl <| ug rfl rfl rfl <| vl (mv rfl) rfl <| ug rfl rfl rfl <| vl (bne rfl rfl) rfl <| vl (pkF rfl (evb rfl k2)) rfl <| vl (mv rfl) rfl <| ug rfl rfl rfl <| vl (mv rfl) rfl <| ug rfl rfl rfl <| vl (mv rfl) rfl <| ug rfl rfl rfl <| vl (bad rfl rfl (inI (by omega))) rfl <| ug rfl rfl rfl <| vl (bgt rfl rfl) rfl <| vl (pkF rfl rfl) rfl <| nl <| ?_
  refine nT <| ?_
  refine clt rfl (fun h_52 => ?_) (fun h_52 => ?_)
  · refine sq <| rg <| ca MrC_en_mustkeep_marchLives rfl rfl ((marchLives_any _).mono ?_)
    rintro e w_53 ⟨rfl, x_54⟩
    refine ⟨_, rfl, ?_⟩
    have q_55 := x_54.size
    have z_53 := Ext.tr z_49 x_54
    refine vl (as_ rfl) rfl <| nl <| nT <| rt <| tT <| tR (.tmp rfl .nil) <| ?_
    exact ⟨rfl, z_53⟩
  · obtain ⟨c1, c2, c3⟩ := reach_cut h1 h2 (by omega)
    refine sk <| nT <| sq <| rg <| ?_
    have B_5 := B_5.later (Ext.tr x_19 x_23)
    have B_5 := B_5.mod m_29 (by simp only [List.mem_singleton]; omega)
    have B_5 := B_5.later (Ext.tr x_36 x_40)
    have B_5 := B_5.mod m_46 (by simp only [List.mem_singleton]; omega)
    have B_5 := B_5.later x_50
    refine vl (ld rfl (B_5.all MrC_ag_api_World MrC_sz_api_World)) rfl <| vl (mv rfl) rfl <| ?_
    have B_12 := B_12.later (Ext.tr x_36 x_40)
    have B_12 := B_12.mod m_46 (by simp only [List.mem_singleton]; omega)
    have B_12 := B_12.later x_50
    refine vl (ld rfl (B_12.all MrC_ag_api_Cell MrC_sz_api_Cell)) rfl <| vl (mv rfl) rfl <| vl (mv rfl) rfl <| vl (bad rfl rfl (inI (by omega))) rfl <| ca MrC_en_march_Reach rfl rfl ((mreach_any a W id (n + m) to _ (hW.keep z_49) hid hto).mono ?_)
    rintro e w_59 ⟨a56, rfl, HO56, x_60⟩
    refine ⟨_, rfl, ?_⟩
    have q_61 := x_60.size
    have z_59 := Ext.tr z_49 x_60
    have u_57 := fun q hq => (HO56.lt q hq).2
    have lo_58 := fun q hq => (HO56.lt q hq).1
    refine vl (mv rfl) rfl <| vl (ex rfl rfl) rfl <| vl (ex rfl rfl) rfl <| vl (ex rfl rfl) rfl <| al rfl MrC_zv_api_World rfl rfl fun w_62 b_63 x_64 l_65 B_66 => ?_
    have q_67 := x_64.size
    have z_62 := Ext.tr z_59 x_64
    have q_68 := B_66.lt
    refine st rfl rfl B_66 rfl MrC_sz_api_World rfl rfl rfl fun w_69 m_70 B_66 => ?_
    have q_72 := m_70.size
    have z_69 := Ext.mod z_62 m_70 (by simp only [List.mem_singleton, forall_eq]; omega)
    have q_71 := m_70.size
    refine vl (as_ rfl) rfl <| vl (as_ rfl) rfl <| nl <| nT <| sq <| rg <| vl (mv rfl) rfl <| vl (beq rfl rfl) rfl <| vl (mv rfl) rfl <| vQ rfl rfl rfl rfl (fun hc => mv rfl) rfl <| vQ rfl rfl rfl rfl (fun hc => mv rfl) rfl <| vQ rfl rfl rfl rfl (fun hc => mv rfl) rfl <| vQ rfl rfl rfl rfl (fun hc => bad (gt hc rfl) (gt hc rfl) (inI (by (try simp only [Bool.or_eq_true, Bool.or_eq_false_iff, Bool.and_eq_true, Bool.and_eq_false_iff, decide_eq_true_eq, decide_eq_false_iff_not, beq_iff_eq, bne_iff_ne, beq_eq_false_iff_ne, bne_eq_false_iff_eq, Bool.not_eq_true', Bool.not_eq_false', Bool.not_eq_true, Bool.not_eq_false, Int.not_lt, Int.not_le, Nat.not_lt, Nat.not_le, ne_eq, Classical.not_not] at hc); omega))) rfl <| vQ rfl rfl rfl rfl (fun hc => beq (gt hc rfl) (gt hc rfl)) rfl <| vl (pA rfl rfl rfl rfl) rfl <| vl (mv rfl) rfl <| ?_
    have B_42 := B_42.later (Ext.tr x_50 (Ext.tr x_60 x_64))
    have B_42 := B_42.mod m_70 (by simp only [List.mem_singleton]; omega)
    refine vQ rfl rfl rfl rfl (fun hc => ld rfl (B_42.all MrC_ag_api_World MrC_sz_api_World)) rfl <| vQ rfl rfl rfl rfl (fun hc => ld rfl (B_66.all MrC_ag_api_World MrC_sz_api_World)) rfl <| ?_
    have HO32 := HO32.later x_40
    have HO32 := HO32.mod m_46 (fun q hq h => by have hb := List.mem_singleton.1 h; exfalso; (have := u_33 q hq; omega))
    have HO32 := HO32.later (Ext.tr x_50 (Ext.tr x_60 x_64))
    have HO32 := HO32.mod m_70 (fun q hq h => by have hb := List.mem_singleton.1 h; exfalso; (have := u_33 q hq; omega))
    have HO56 := HO56.later x_64
    have HO56 := HO56.mod m_70 (fun q hq h => by have hb := List.mem_singleton.1 h; exfalso; (have := u_57 q hq; omega))
    refine vC rfl rfl rfl rfl MrC_en_mustref_SameWorld (fun hc => ec (gt hc rfl) (ec (gt hc rfl) rfl)) (fun hc => sameWorld_any _ a32 (reachW (reachW W id to n) id to m) a56 (reachW W id to (n + m)) HO32.has HO56.has) rfl fun w_73 x_74 => ?_
    have q_75 := x_74.size
    have z_73 := Ext.tr z_69 x_74
    refine vl (pA rfl rfl rfl rfl) rfl <| vl (as_ rfl) rfl <| nl <| nT <| rt <| tR (.tmp rfl .nil) <| ?_
    exact ⟨ret_true (by rw [c1, c2, c3]; simp), z_73⟩
theorem marchCuts_any (c0 : Array Value) (a1 : Int) (c2 : Array Value) (a3 : Int) (a4 : Int) (w : World) (h0 : (.cons (.cons (.int .i64) (.cons (.int .i64) (.cons (.slice (.int .i64) 8) .nil))) (.cons (.slice (.cons (.int .i64) (.cons (.int .i64) .nil)) 16) (.cons (.slice (.int .i64) 8) (.cons (.slice (.int .i64) 8) (.cons (.slice (.cons (.int .i64) (.cons (.int .i64) (.cons (.int .i64) (.cons (.cons (.int .i64) (.cons (.int .i64) .nil)) (.cons (.int .i64) (.cons (.int .i64) .nil)))))) 56) (.cons (.int .i64) (.cons (.int .i64) .nil)))))) : Sh).Ok w c0.toList) (w1 : (Lit.int .i64 a1).wf = true) (h2 : (.cons (.int .i64) (.cons (.int .i64) .nil) : Sh).Ok w c2.toList) (w3 : (Lit.int .i64 a3).wf = true) (w4 : (Lit.int .i64 a4).wf = true) :
    Calls Try.prog 12 #[.agg c0, .int .i64 a1, .agg c2, .int .i64 a3, .int .i64 a4] w fun e w' => e = .returned (.bool true) ∧ Below w.heap.size w w' := by
  obtain ⟨a, W, e, hW⟩ := Wd.opens w _ (show Wd.sh.Ok w c0.toList from h0)
  have hc : c0 = (Wd.cells a W).toArray := by rw [← e]
  subst hc
  obtain ⟨to, hto0⟩ := Cel.opens w _ (show Cel.sh.Ok w c2.toList from h2)
  obtain ⟨e2, hto⟩ := (show _ ∧ _ from hto0)
  have hc2 : c2 = #[.int .i64 to.x, .int .i64 to.y] := by apply Array.ext'; rw [e2]; rfl
  subst hc2
  by_cases k1 : reachE W a1 a3 = 0
  · by_cases k2 : reachE (reachW W a1 to a3) a1 a4 = 0
    · exact marchCuts_C a W a1 a3 a4 to w hW w1 hto k1 k2
    · exact marchCuts_B a W a1 a3 a4 to w hW w1 hto k1 k2
  · exact marchCuts_A a W a1 a3 a4 to w hW w1 hto k1
end Go.Proofs.Ytffjpfpbpnhmcaa
