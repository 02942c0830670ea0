/-
  Two worlds, the same; a small one; something is mined, and someone made. (Printed by bin/goodslaw1.py.)
-/
import Derived.Test.YtkijhejjnlmbmaaGooR
import Derived.Test.YtkijhejjnlmbmaaEql
import Derived.Test.YtkijhejjnlmbmaaBas
set_option linter.unusedVariables false
set_option linter.unusedSimpArgs false
namespace Go.Proofs.Ytkijhejjnlmbmaa
open Go.RowKit

theorem LawA_zv_api_World : Zv Try.prog 46 (.agg #[.int .i64 0, .int .i64 0, .slice none 0 0, .slice none 0 0, .slice none 0 0, .slice none 0 0, .slice none 0 0, .int .i64 0, .int .i64 0]) := fun _ => by kernel_rfl
theorem LawA_sz_api_World : Sz Try.prog 46 9 := fun _ => by kernel_rfl
theorem LawA_ag_api_World : Ag Try.prog 46 true := fun _ => by kernel_rfl
def smallW : Wd := ⟨⟨3, 1, [0, 0, 3]⟩, [⟨0, 0⟩], [20], [0, 0, 9], [⟨1, 0, 1, ⟨1, 0⟩, 10, 0⟩], 2, 0⟩
def smallL : List Ded := [(⟨1, 1, ⟨2, 0⟩, 0⟩ : Ded), (⟨3, 0, ⟨0, 0⟩, 2⟩ : Ded)]
def smallV : Wd := smallW.doW smallL
set_option maxRecDepth 100000 in
set_option maxHeartbeats 400000 in
theorem small_any  (w : World) :
    Calls Try.prog 67 #[] w (fun e w' => ∃ a, e = .returned (.agg (Wd.cells a smallW).toArray) ∧ WOwn w' w.heap.size a smallW ∧ Ext w w') := by
  refine calls_W (n := 11) Try.func67 rfl rfl rfl ?_
  refine sq <| rg <| al rfl LawA_zv_api_World rfl rfl fun w_1 b_2 x_3 l_4 B_5 => ?_
  have q_6 := x_3.size
  have z_1 := Ext.tr (Ext.rf w) x_3
  have q_7 := B_5.lt
  refine nl <| nT <| sq <| rg <| bs (e := 3) (cs := [.int .i64 0, .int .i64 0, .int .i64 3]) rfl (fun _ => by kernel_rfl) rfl fun w_8 b_9 x_10 l_11 B_12 => ?_
  have q_13 := x_10.size
  have z_8 := Ext.tr z_1 x_10
  have q_14 := B_12.lt
  refine vl (v := .agg #[.int .i64 3, .int .i64 1, .slice (some ⟨b_9, 0, none⟩) 3 3]) (bd rfl (by kernel_rfl)) rfl <| vl (v := .agg #[.int .i64 0, .int .i64 0]) (bd rfl (by kernel_rfl)) rfl <| bs (e := 42) (cs := [.int .i64 0, .int .i64 0]) rfl (fun _ => by kernel_rfl) rfl fun w_15 b_16 x_17 l_18 B_19 => ?_
  have q_20 := x_17.size
  have z_15 := Ext.tr z_8 x_17
  have q_21 := B_19.lt
  refine bs (e := 3) (cs := [.int .i64 20]) rfl (fun _ => by kernel_rfl) rfl fun w_22 b_23 x_24 l_25 B_26 => ?_
  have q_27 := x_24.size
  have z_22 := Ext.tr z_15 x_24
  have q_28 := B_26.lt
  refine bs (e := 3) (cs := [.int .i64 0, .int .i64 0, .int .i64 9]) rfl (fun _ => by kernel_rfl) rfl fun w_29 b_30 x_31 l_32 B_33 => ?_
  have q_34 := x_31.size
  have z_29 := Ext.tr z_22 x_31
  have q_35 := B_33.lt
  refine vl (v := .agg #[.int .i64 1, .int .i64 0]) (bd rfl (by kernel_rfl)) rfl <| vl (v := .agg #[.int .i64 1, .int .i64 0, .int .i64 1, .int .i64 1, .int .i64 0, .int .i64 10, .int .i64 0]) (bd rfl (by kernel_rfl)) rfl <| bs (e := 51) (cs := [.int .i64 1, .int .i64 0, .int .i64 1, .int .i64 1, .int .i64 0, .int .i64 10, .int .i64 0]) rfl (fun _ => by kernel_rfl) rfl fun w_36 b_37 x_38 l_39 B_40 => ?_
  have q_41 := x_38.size
  have z_36 := Ext.tr z_29 x_38
  have q_42 := B_40.lt
  refine vl (v := .agg #[.int .i64 3, .int .i64 1, .slice (some ⟨b_9, 0, none⟩) 3 3, .slice (some ⟨b_16, 0, none⟩) 1 1, .slice (some ⟨b_23, 0, none⟩) 1 1, .slice (some ⟨b_30, 0, none⟩) 3 3, .slice (some ⟨b_37, 0, none⟩) 1 1, .int .i64 2, .int .i64 0]) (bd rfl (by kernel_rfl)) rfl <| ?_
  have B_5 := B_5.later (Ext.tr x_10 (Ext.tr x_17 (Ext.tr x_24 (Ext.tr x_31 x_38))))
  refine st (new := [.int .i64 3, .int .i64 1, .slice (some ⟨b_9, 0, none⟩) 3 3, .slice (some ⟨b_16, 0, none⟩) 1 1, .slice (some ⟨b_23, 0, none⟩) 1 1, .slice (some ⟨b_30, 0, none⟩) 3 3, .slice (some ⟨b_37, 0, none⟩) 1 1, .int .i64 2, .int .i64 0]) rfl rfl B_5 rfl LawA_sz_api_World rfl rfl rfl fun w_43 m_44 B_5 => ?_
  have q_46 := m_44.size
  have z_43 := Ext.mod z_36 m_44 (by simp only [List.mem_singleton, forall_eq]; omega)
  have q_45 := m_44.size
  refine nl <| nT <| rt <| tR (.cell rfl (B_5.all LawA_ag_api_World LawA_sz_api_World) .nil) <| ?_
  have B_12 := B_12.later (Ext.tr x_17 (Ext.tr x_24 (Ext.tr x_31 x_38)))
  have B_12 := B_12.mod m_44 (by simp only [List.mem_singleton]; omega)
  have B_19 := B_19.later (Ext.tr x_24 (Ext.tr x_31 x_38))
  have B_19 := B_19.mod m_44 (by simp only [List.mem_singleton]; omega)
  have B_26 := B_26.later (Ext.tr x_31 x_38)
  have B_26 := B_26.mod m_44 (by simp only [List.mem_singleton]; omega)
  have B_33 := B_33.later x_38
  have B_33 := B_33.mod m_44 (by simp only [List.mem_singleton]; omega)
  have B_40 := B_40.mod m_44 (by simp only [List.mem_singleton]; omega)
  exact ⟨⟨some ⟨b_9, 0, none⟩, some ⟨b_16, 0, none⟩, some ⟨b_23, 0, none⟩, some ⟨b_30, 0, none⟩, some ⟨b_37, 0, none⟩, 3, 1, 1, 3, 1⟩, rfl, ⟨Blk.ownN (R := repI) (by_ := 8) (B := w.heap.size) (k := [0, 0, 3]) B_12 [[.int .i64 0], [.int .i64 0], [.int .i64 3]] rfl ⟨⟨rfl, okI_iff.2 (by decide)⟩, ⟨rfl, okI_iff.2 (by decide)⟩, ⟨rfl, okI_iff.2 (by decide)⟩, trivial⟩ (by simp) (by simp) (by decide) (by omega), Blk.ownN (R := Cel.rep) (by_ := 16) (B := w.heap.size) (k := [⟨0, 0⟩]) B_19 [[.int .i64 0, .int .i64 0]] rfl ⟨⟨rfl, okI_iff.2 (by decide), okI_iff.2 (by decide)⟩, trivial⟩ (by simp) (by simp) (by decide) (by omega), Blk.ownN (R := repI) (by_ := 8) (B := w.heap.size) (k := [20]) B_26 [[.int .i64 20]] rfl ⟨⟨rfl, okI_iff.2 (by decide)⟩, trivial⟩ (by simp) (by simp) (by decide) (by omega), Blk.ownN (R := repI) (by_ := 8) (B := w.heap.size) (k := [0, 0, 9]) B_33 [[.int .i64 0], [.int .i64 0], [.int .i64 9]] rfl ⟨⟨rfl, okI_iff.2 (by decide)⟩, ⟨rfl, okI_iff.2 (by decide)⟩, ⟨rfl, okI_iff.2 (by decide)⟩, trivial⟩ (by simp) (by simp) (by decide) (by omega), Blk.ownN (R := Trp.rep) (by_ := 56) (B := w.heap.size) (k := [⟨1, 0, 1, ⟨1, 0⟩, 10, 0⟩]) B_40 [[.int .i64 1, .int .i64 0, .int .i64 1, .int .i64 1, .int .i64 0, .int .i64 10, .int .i64 0]] rfl ⟨⟨rfl, okI_iff.2 (by decide), okI_iff.2 (by decide), okI_iff.2 (by decide), okI_iff.2 (by decide), okI_iff.2 (by decide), okI_iff.2 (by decide), okI_iff.2 (by decide)⟩, trivial⟩ (by simp) (by simp) (by decide) (by omega), by simp [Rep.blkOf]; omega, okI_iff.2 (by decide), okI_iff.2 (by decide), okI_iff.2 (by decide), okI_iff.2 (by decide)⟩, z_43⟩
end Go.Proofs.Ytkijhejjnlmbmaa
