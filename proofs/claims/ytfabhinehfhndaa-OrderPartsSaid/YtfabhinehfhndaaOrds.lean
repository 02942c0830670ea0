/-
  order.within, bare, Check, all. (Printed by bin/orders.py.)
-/
import Derived.Test.YtfabhinehfhndaaOdr
import Derived.Test.YtfabhinehfhndaaFnc
set_option linter.unusedVariables false
set_option linter.unusedSimpArgs false
namespace Go.Proofs.Ytfabhinehfhndaa
open Go.RowKit

theorem Ords_zv_api_Order : Zv Try.prog 92 (.agg #[.int .i64 0, .int .i64 0, .int .i64 0, .int .i64 0, .int .i64 0, .int .i64 0]) := fun _ => by kernel_rfl
theorem Ords_fd_api_Order_1 : Fd Try.prog 92 1 1 := fun _ _ _ => by kernel_rfl
theorem Ords_ag_int : Ag Try.prog 3 false := fun _ => by kernel_rfl
theorem Ords_fd_api_Order_2 : Fd Try.prog 92 2 2 := fun _ _ _ => by kernel_rfl
theorem Ords_sz_int : Sz Try.prog 3 1 := fun _ => by kernel_rfl
theorem Ords_fd_api_Order_3 : Fd Try.prog 92 3 3 := fun _ _ _ => by kernel_rfl
theorem Ords_sz_api_Cell : Sz Try.prog 90 2 := fun _ => by kernel_rfl
theorem Ords_fd_api_Order_4 : Fd Try.prog 92 4 5 := fun _ _ _ => by kernel_rfl
theorem Ords_ag_api_Order : Ag Try.prog 92 true := fun _ => by kernel_rfl
theorem Ords_sz_api_Order : Sz Try.prog 92 6 := fun _ => by kernel_rfl
theorem Ords_fd_api_Order_0 : Fd Try.prog 92 0 0 := fun _ _ _ => by kernel_rfl
theorem Ords_en_order_within : Enters Try.prog 92 := en Try.func92 (by kernel_rfl) (by kernel_rfl)
theorem Ords_fd_api_Cell_0 : Fd Try.prog 90 0 0 := fun _ _ _ => by kernel_rfl
theorem Ords_fd_api_Cell_1 : Fd Try.prog 90 1 1 := fun _ _ _ => by kernel_rfl
theorem Ords_en_order_bare : Enters Try.prog 93 := en Try.func93 (by kernel_rfl) (by kernel_rfl)
theorem Ords_eqs_api_Order : EqS Try.prog Odr.cells 92 := by
  intro a b w
  obtain ⟨a0, a1, a2, ⟨a3, a4⟩, a5⟩ := a
  obtain ⟨b0, b1, b2, ⟨b3, b4⟩, b5⟩ := b
  simp only [Odr.cells, Odr.mk.injEq, Cel.mk.injEq]
  constructor
  · go_simp
    repeat' split
    all_goals simp_all
  · go_simp
    repeat' split
    all_goals simp_all
theorem Ords_eqg_api_Order : (Try.prog).eqGuardType (Try.prog).depth 92 = false := by kernel_rfl
theorem Ords_en_order_Check : Enters Try.prog 75 := en Try.func75 (by kernel_rfl) (by kernel_rfl)
theorem hcO {w : World} {cs : List Value} {a : Odr} (h : Odr.rep.has w cs a) : cs = a.cells := And.left (show cs = a.cells ∧ a.ok from h)
def Odr.bare (o : Odr) : Odr := ⟨o.by_, o.kind, if o.kind = 5 then 0 else o.who, if o.kind ≠ 2 ∧ o.kind ≠ 3 then ⟨0, 0⟩ else o.spot, if o.kind ≠ 1 ∧ o.kind ≠ 5 then 0 else o.what⟩
def Odr.outR (o : Odr) : Bool := !inB o.by_ 0 7 || !inB o.kind 1 5 || !inB o.who 0 1000000 || !inB o.spot.x (-1000) 1000 || !inB o.spot.y (-1000) 1000 || !inB o.what 0 1000000
def Odr.chk (o : Odr) : Int := if o.outR = true then 1 else if (!decide (o.bare = o)) = true then 4 else 0
theorem Odr.chk_arg {o : Odr} (h : o.outR = true) : o.chk = 1 := by unfold Odr.chk; rw [if_pos h]
theorem Odr.chk_form {o : Odr} (h : o.outR = false) (h2 : (!decide (o.bare = o)) = true) : o.chk = 4 := by unfold Odr.chk; rw [if_neg (by rw [h]; decide), if_pos h2]
theorem Odr.chk_good {o : Odr} (h : o.outR = false) (h2 : (!decide (o.bare = o)) = false) : o.chk = 0 := by unfold Odr.chk; rw [if_neg (by rw [h]; decide), if_neg (by rw [h2]; decide)]
def ordsE (l : List Odr) : Int := if 100 < l.length then 2 else match l.find? (fun o => o.chk != 0) with | some o => o.chk | none => 0
theorem ordsE_large {l : List Odr} (h : 100 < l.length) : ordsE l = 2 := by unfold ordsE; rw [if_pos h]
theorem ordsE_ok {l : List Odr} (h : l.length ≤ 100) (hg : ∀ i, i < l.length → (l.getD i default).chk = 0) : ordsE l = 0 := by
  unfold ordsE; rw [if_neg (by omega)]
  have : l.find? (fun o => o.chk != 0) = none := List.find?_eq_none.2 fun x hx => by
    obtain ⟨i, hi, rfl⟩ := List.mem_iff_getElem.1 hx
    have := hg i hi
    rw [getD_dd hi] at this; simp [this]
  rw [this]
theorem ordsE_at {l : List Odr} {k : Nat} (h : l.length ≤ 100) (hk : k < l.length) (hg : ∀ i, i < k → (l.getD i default).chk = 0) (hb : ¬ (l.getD k default).chk = 0) : ordsE l = (l.getD k default).chk := by
  unfold ordsE; rw [if_neg (by omega)]
  have : l.find? (fun o => o.chk != 0) = some (l.getD k default) := by
    rw [List.find?_eq_some_iff_getElem]
    refine ⟨by simpa using hb, k, hk, (getD_dd hk).symm, fun j hj => ?_⟩
    have := hg j hj
    rw [getD_dd (by omega)] at this; simp [this]
  rw [this]
set_option maxRecDepth 100000 in
set_option maxHeartbeats 400000 in
theorem owithin_any (n lo hi : Int) (w : World) :
    Calls Try.prog 92 #[.int .i64 n, .int .i64 lo, .int .i64 hi] w (fun e w' => e = .returned (.bool (inB n lo hi)) ∧ Ext w w') := by
  refine calls_W (n := 15) Try.func92 rfl rfl rfl ?_
  refine sq <| rg <| vl (as_ rfl) rfl <| nl <| nT <| sq <| rg <| vl (mv rfl) rfl <| vl (mv rfl) rfl <| vl (bge rfl rfl) rfl <| vl (mv rfl) rfl <| vQ rfl rfl rfl rfl (fun hc => mv rfl) rfl <| vQ rfl rfl rfl rfl (fun hc => mv rfl) rfl <| vQ rfl rfl rfl rfl (fun hc => ble (gt hc rfl) (gt hc rfl)) rfl <| vl (pA rfl rfl rfl rfl) rfl <| vl (as_ rfl) rfl <| nl <| nT <| rt <| tR (.tmp rfl .nil) <| ?_
  exact ⟨rfl, (Ext.rf w)⟩
set_option maxRecDepth 100000 in
set_option maxHeartbeats 400000 in
theorem obare_any (o : Odr) (w : World) :
    Calls Try.prog 93 #[.agg #[.int .i64 o.by_, .int .i64 o.kind, .int .i64 o.who, .int .i64 o.spot.x, .int .i64 o.spot.y, .int .i64 o.what]] w (fun e w' => e = .returned (.agg (Odr.bare o).cells.toArray) ∧ Ext w w') := by
  refine calls_W (n := 27) Try.func93 rfl rfl rfl ?_
  refine sq <| rg <| bx rfl rfl rfl rfl fun w_1 b_2 x_3 l_4 B_5 => ?_
  have q_6 := x_3.size
  have z_1 := Ext.tr (Ext.rf w) x_3
  have q_7 := B_5.lt
  refine al rfl Ords_zv_api_Order rfl rfl fun w_8 b_9 x_10 l_11 B_12 => ?_
  have q_13 := x_10.size
  have z_8 := Ext.tr z_1 x_10
  have q_14 := B_12.lt
  refine nl <| nT <| sq <| sq <| rg <| vl (fa Ords_fd_api_Order_1 rfl) rfl <| ?_
  have B_5 := B_5.later x_10
  refine vl (ld rfl (B_5.one Ords_ag_int rfl)) rfl <| vl (beq rfl rfl) rfl <| nl <| nT <| ?_
  refine ceq rfl (fun h_15 => ?_) (fun h_15 => ?_)
  · refine rg <| vl (fa Ords_fd_api_Order_2 rfl) rfl <| st (new := [.int .i64 o.by_, .int .i64 o.kind, .int .i64 0, .int .i64 o.spot.x, .int .i64 o.spot.y, .int .i64 o.what]) rfl rfl B_5 rfl Ords_sz_int rfl rfl rfl fun w_16 m_17 B_5 => ?_
    have q_19 := m_17.size
    have z_16 := Ext.mod z_8 m_17 (by simp only [List.mem_singleton, forall_eq]; omega)
    have q_18 := m_17.size
    refine nl <| nT <| sq <| sq <| rg <| vl (fa Ords_fd_api_Order_1 rfl) rfl <| vl (ld rfl (B_5.one Ords_ag_int rfl)) rfl <| vl (bne rfl rfl) rfl <| vl (mv rfl) rfl <| vQ rfl rfl rfl rfl (fun hc => fa Ords_fd_api_Order_1 rfl) rfl <| vQ rfl rfl rfl rfl (fun hc => ld (gt hc rfl) (B_5.one Ords_ag_int rfl)) rfl <| vQ rfl rfl rfl rfl (fun hc => bne (gt hc rfl) rfl) rfl <| vl (pA rfl rfl rfl rfl) rfl <| nl <| nT <| ?_
    refine cb rfl (fun h_20 => ?_) (fun h_20 => ?_)
    · simp only [Bool.or_eq_true, Bool.or_eq_false_iff, Bool.and_eq_true, Bool.and_eq_false_iff, decide_eq_true_eq, decide_eq_false_iff_not, beq_iff_eq, bne_iff_ne, beq_eq_false_iff_ne, bne_eq_false_iff_eq, Bool.not_eq_true', Bool.not_eq_false', Bool.not_eq_true, Bool.not_eq_false, Int.not_lt, Int.not_le, Nat.not_lt, Nat.not_le, ne_eq, Classical.not_not] at h_20
      refine rg <| vl (v := .agg #[.int .i64 0, .int .i64 0]) (bd rfl (by kernel_rfl)) rfl <| vl (fa Ords_fd_api_Order_3 rfl) rfl <| st (new := [.int .i64 o.by_, .int .i64 o.kind, .int .i64 0, .int .i64 0, .int .i64 0, .int .i64 o.what]) rfl rfl B_5 rfl Ords_sz_api_Cell rfl rfl rfl fun w_21 m_22 B_5 => ?_
      have q_24 := m_22.size
      have z_21 := Ext.mod z_16 m_22 (by simp only [List.mem_singleton, forall_eq]; omega)
      have q_23 := m_22.size
      refine nl <| nT <| sq <| sq <| rg <| vl (fa Ords_fd_api_Order_1 rfl) rfl <| vl (ld rfl (B_5.one Ords_ag_int rfl)) rfl <| vl (bne rfl rfl) rfl <| vl (mv rfl) rfl <| vQ rfl rfl rfl rfl (fun hc => fa Ords_fd_api_Order_1 rfl) rfl <| vQ rfl rfl rfl rfl (fun hc => ld (gt hc rfl) (B_5.one Ords_ag_int rfl)) rfl <| vQ rfl rfl rfl rfl (fun hc => bne (gt hc rfl) rfl) rfl <| vl (pA rfl rfl rfl rfl) rfl <| nl <| nT <| ?_
      refine cb rfl (fun h_25 => ?_) (fun h_25 => ?_)
      · simp only [Bool.or_eq_true, Bool.or_eq_false_iff, Bool.and_eq_true, Bool.and_eq_false_iff, decide_eq_true_eq, decide_eq_false_iff_not, beq_iff_eq, bne_iff_ne, beq_eq_false_iff_ne, bne_eq_false_iff_eq, Bool.not_eq_true', Bool.not_eq_false', Bool.not_eq_true, Bool.not_eq_false, Int.not_lt, Int.not_le, Nat.not_lt, Nat.not_le, ne_eq, Classical.not_not] at h_25
        refine rg <| vl (fa Ords_fd_api_Order_4 rfl) rfl <| st (new := [.int .i64 o.by_, .int .i64 o.kind, .int .i64 0, .int .i64 0, .int .i64 0, .int .i64 0]) rfl rfl B_5 rfl Ords_sz_int rfl rfl rfl fun w_26 m_27 B_5 => ?_
        have q_29 := m_27.size
        have z_26 := Ext.mod z_21 m_27 (by simp only [List.mem_singleton, forall_eq]; omega)
        have q_28 := m_27.size
        refine nl <| nT <| sq <| rg <| vl (ld rfl (B_5.all Ords_ag_api_Order Ords_sz_api_Order)) rfl <| ?_
        have B_12 := B_12.mod m_17 (by simp only [List.mem_singleton]; omega)
        have B_12 := B_12.mod m_22 (by simp only [List.mem_singleton]; omega)
        have B_12 := B_12.mod m_27 (by simp only [List.mem_singleton]; omega)
        refine st (new := [.int .i64 o.by_, .int .i64 o.kind, .int .i64 0, .int .i64 0, .int .i64 0, .int .i64 0]) rfl rfl B_12 rfl Ords_sz_api_Order rfl rfl rfl fun w_30 m_31 B_12 => ?_
        have q_33 := m_31.size
        have z_30 := Ext.mod z_26 m_31 (by simp only [List.mem_singleton, forall_eq]; omega)
        have q_32 := m_31.size
        refine nl <| nT <| rt <| tR (.cell rfl (B_12.all Ords_ag_api_Order Ords_sz_api_Order) .nil) <| ?_
        exact ⟨by rw [show Odr.bare o = (⟨o.by_, o.kind, 0, ⟨0, 0⟩, 0⟩ : Odr) from by unfold Odr.bare; congr 1 <;> (first | rfl | (split <;> first | rfl | omega))]; rfl, z_30⟩
      · simp only [Bool.or_eq_true, Bool.or_eq_false_iff, Bool.and_eq_true, Bool.and_eq_false_iff, decide_eq_true_eq, decide_eq_false_iff_not, beq_iff_eq, bne_iff_ne, beq_eq_false_iff_ne, bne_eq_false_iff_eq, Bool.not_eq_true', Bool.not_eq_false', Bool.not_eq_true, Bool.not_eq_false, Int.not_lt, Int.not_le, Nat.not_lt, Nat.not_le, ne_eq, Classical.not_not] at h_25
        refine sk <| nT <| sq <| rg <| vl (ld rfl (B_5.all Ords_ag_api_Order Ords_sz_api_Order)) rfl <| ?_
        have B_12 := B_12.mod m_17 (by simp only [List.mem_singleton]; omega)
        have B_12 := B_12.mod m_22 (by simp only [List.mem_singleton]; omega)
        refine st (new := [.int .i64 o.by_, .int .i64 o.kind, .int .i64 0, .int .i64 0, .int .i64 0, .int .i64 o.what]) rfl rfl B_12 rfl Ords_sz_api_Order rfl rfl rfl fun w_34 m_35 B_12 => ?_
        have q_37 := m_35.size
        have z_34 := Ext.mod z_21 m_35 (by simp only [List.mem_singleton, forall_eq]; omega)
        have q_36 := m_35.size
        refine nl <| nT <| rt <| tR (.cell rfl (B_12.all Ords_ag_api_Order Ords_sz_api_Order) .nil) <| ?_
        exact ⟨by rw [show Odr.bare o = (⟨o.by_, o.kind, 0, ⟨0, 0⟩, o.what⟩ : Odr) from by unfold Odr.bare; congr 1 <;> (first | rfl | (split <;> first | rfl | omega))]; rfl, z_34⟩
    · simp only [Bool.or_eq_true, Bool.or_eq_false_iff, Bool.and_eq_true, Bool.and_eq_false_iff, decide_eq_true_eq, decide_eq_false_iff_not, beq_iff_eq, bne_iff_ne, beq_eq_false_iff_ne, bne_eq_false_iff_eq, Bool.not_eq_true', Bool.not_eq_false', Bool.not_eq_true, Bool.not_eq_false, Int.not_lt, Int.not_le, Nat.not_lt, Nat.not_le, ne_eq, Classical.not_not] at h_20
      refine sk <| nT <| sq <| sq <| rg <| vl (fa Ords_fd_api_Order_1 rfl) rfl <| vl (ld rfl (B_5.one Ords_ag_int rfl)) rfl <| vl (bne rfl rfl) rfl <| vl (mv rfl) rfl <| vQ rfl rfl rfl rfl (fun hc => fa Ords_fd_api_Order_1 rfl) rfl <| vQ rfl rfl rfl rfl (fun hc => ld (gt hc rfl) (B_5.one Ords_ag_int rfl)) rfl <| vQ rfl rfl rfl rfl (fun hc => bne (gt hc rfl) rfl) rfl <| vl (pA rfl rfl rfl rfl) rfl <| nl <| nT <| ?_
      refine cb rfl (fun h_38 => ?_) (fun h_38 => ?_)
      · simp only [Bool.or_eq_true, Bool.or_eq_false_iff, Bool.and_eq_true, Bool.and_eq_false_iff, decide_eq_true_eq, decide_eq_false_iff_not, beq_iff_eq, bne_iff_ne, beq_eq_false_iff_ne, bne_eq_false_iff_eq, Bool.not_eq_true', Bool.not_eq_false', Bool.not_eq_true, Bool.not_eq_false, Int.not_lt, Int.not_le, Nat.not_lt, Nat.not_le, ne_eq, Classical.not_not] at h_38
        refine rg <| vl (fa Ords_fd_api_Order_4 rfl) rfl <| st (new := [.int .i64 o.by_, .int .i64 o.kind, .int .i64 0, .int .i64 o.spot.x, .int .i64 o.spot.y, .int .i64 0]) rfl rfl B_5 rfl Ords_sz_int rfl rfl rfl fun w_39 m_40 B_5 => ?_
        have q_42 := m_40.size
        have z_39 := Ext.mod z_16 m_40 (by simp only [List.mem_singleton, forall_eq]; omega)
        have q_41 := m_40.size
        refine nl <| nT <| sq <| rg <| vl (ld rfl (B_5.all Ords_ag_api_Order Ords_sz_api_Order)) rfl <| ?_
        have B_12 := B_12.mod m_17 (by simp only [List.mem_singleton]; omega)
        have B_12 := B_12.mod m_40 (by simp only [List.mem_singleton]; omega)
        refine st (new := [.int .i64 o.by_, .int .i64 o.kind, .int .i64 0, .int .i64 o.spot.x, .int .i64 o.spot.y, .int .i64 0]) rfl rfl B_12 rfl Ords_sz_api_Order rfl rfl rfl fun w_43 m_44 B_12 => ?_
        have q_46 := m_44.size
        have z_43 := Ext.mod z_39 m_44 (by simp only [List.mem_singleton, forall_eq]; omega)
        have q_45 := m_44.size
        refine nl <| nT <| rt <| tR (.cell rfl (B_12.all Ords_ag_api_Order Ords_sz_api_Order) .nil) <| ?_
        exact ⟨by rw [show Odr.bare o = (⟨o.by_, o.kind, 0, ⟨o.spot.x, o.spot.y⟩, 0⟩ : Odr) from by unfold Odr.bare; congr 1 <;> (first | rfl | (split <;> first | rfl | omega))]; rfl, z_43⟩
      · simp only [Bool.or_eq_true, Bool.or_eq_false_iff, Bool.and_eq_true, Bool.and_eq_false_iff, decide_eq_true_eq, decide_eq_false_iff_not, beq_iff_eq, bne_iff_ne, beq_eq_false_iff_ne, bne_eq_false_iff_eq, Bool.not_eq_true', Bool.not_eq_false', Bool.not_eq_true, Bool.not_eq_false, Int.not_lt, Int.not_le, Nat.not_lt, Nat.not_le, ne_eq, Classical.not_not] at h_38
        refine sk <| nT <| sq <| rg <| vl (ld rfl (B_5.all Ords_ag_api_Order Ords_sz_api_Order)) rfl <| ?_
        have B_12 := B_12.mod m_17 (by simp only [List.mem_singleton]; omega)
        refine st (new := [.int .i64 o.by_, .int .i64 o.kind, .int .i64 0, .int .i64 o.spot.x, .int .i64 o.spot.y, .int .i64 o.what]) rfl rfl B_12 rfl Ords_sz_api_Order rfl rfl rfl fun w_47 m_48 B_12 => ?_
        have q_50 := m_48.size
        have z_47 := Ext.mod z_16 m_48 (by simp only [List.mem_singleton, forall_eq]; omega)
        have q_49 := m_48.size
        refine nl <| nT <| rt <| tR (.cell rfl (B_12.all Ords_ag_api_Order Ords_sz_api_Order) .nil) <| ?_
        exact ⟨by rw [show Odr.bare o = (⟨o.by_, o.kind, 0, ⟨o.spot.x, o.spot.y⟩, o.what⟩ : Odr) from by unfold Odr.bare; congr 1 <;> (first | rfl | (split <;> first | rfl | omega))]; rfl, z_47⟩
  · refine sk <| nT <| sq <| sq <| rg <| vl (fa Ords_fd_api_Order_1 rfl) rfl <| vl (ld rfl (B_5.one Ords_ag_int rfl)) rfl <| vl (bne rfl rfl) rfl <| vl (mv rfl) rfl <| vQ rfl rfl rfl rfl (fun hc => fa Ords_fd_api_Order_1 rfl) rfl <| vQ rfl rfl rfl rfl (fun hc => ld (gt hc rfl) (B_5.one Ords_ag_int rfl)) rfl <| vQ rfl rfl rfl rfl (fun hc => bne (gt hc rfl) rfl) rfl <| vl (pA rfl rfl rfl rfl) rfl <| nl <| nT <| ?_
    refine cb rfl (fun h_51 => ?_) (fun h_51 => ?_)
    · simp only [Bool.or_eq_true, Bool.or_eq_false_iff, Bool.and_eq_true, Bool.and_eq_false_iff, decide_eq_true_eq, decide_eq_false_iff_not, beq_iff_eq, bne_iff_ne, beq_eq_false_iff_ne, bne_eq_false_iff_eq, Bool.not_eq_true', Bool.not_eq_false', Bool.not_eq_true, Bool.not_eq_false, Int.not_lt, Int.not_le, Nat.not_lt, Nat.not_le, ne_eq, Classical.not_not] at h_51
      refine rg <| vl (v := .agg #[.int .i64 0, .int .i64 0]) (bd rfl (by kernel_rfl)) rfl <| vl (fa Ords_fd_api_Order_3 rfl) rfl <| st (new := [.int .i64 o.by_, .int .i64 o.kind, .int .i64 o.who, .int .i64 0, .int .i64 0, .int .i64 o.what]) rfl rfl B_5 rfl Ords_sz_api_Cell rfl rfl rfl fun w_52 m_53 B_5 => ?_
      have q_55 := m_53.size
      have z_52 := Ext.mod z_8 m_53 (by simp only [List.mem_singleton, forall_eq]; omega)
      have q_54 := m_53.size
      refine nl <| nT <| sq <| sq <| rg <| vl (fa Ords_fd_api_Order_1 rfl) rfl <| vl (ld rfl (B_5.one Ords_ag_int rfl)) rfl <| vl (bne rfl rfl) rfl <| vl (mv rfl) rfl <| vQ rfl rfl rfl rfl (fun hc => fa Ords_fd_api_Order_1 rfl) rfl <| vQ rfl rfl rfl rfl (fun hc => ld (gt hc rfl) (B_5.one Ords_ag_int rfl)) rfl <| vQ rfl rfl rfl rfl (fun hc => bne (gt hc rfl) rfl) rfl <| vl (pA rfl rfl rfl rfl) rfl <| nl <| nT <| ?_
      refine cb rfl (fun h_56 => ?_) (fun h_56 => ?_)
      · simp only [Bool.or_eq_true, Bool.or_eq_false_iff, Bool.and_eq_true, Bool.and_eq_false_iff, decide_eq_true_eq, decide_eq_false_iff_not, beq_iff_eq, bne_iff_ne, beq_eq_false_iff_ne, bne_eq_false_iff_eq, Bool.not_eq_true', Bool.not_eq_false', Bool.not_eq_true, Bool.not_eq_false, Int.not_lt, Int.not_le, Nat.not_lt, Nat.not_le, ne_eq, Classical.not_not] at h_56
        refine rg <| vl (fa Ords_fd_api_Order_4 rfl) rfl <| st (new := [.int .i64 o.by_, .int .i64 o.kind, .int .i64 o.who, .int .i64 0, .int .i64 0, .int .i64 0]) rfl rfl B_5 rfl Ords_sz_int rfl rfl rfl fun w_57 m_58 B_5 => ?_
        have q_60 := m_58.size
        have z_57 := Ext.mod z_52 m_58 (by simp only [List.mem_singleton, forall_eq]; omega)
        have q_59 := m_58.size
        refine nl <| nT <| sq <| rg <| vl (ld rfl (B_5.all Ords_ag_api_Order Ords_sz_api_Order)) rfl <| ?_
        have B_12 := B_12.mod m_53 (by simp only [List.mem_singleton]; omega)
        have B_12 := B_12.mod m_58 (by simp only [List.mem_singleton]; omega)
        refine st (new := [.int .i64 o.by_, .int .i64 o.kind, .int .i64 o.who, .int .i64 0, .int .i64 0, .int .i64 0]) rfl rfl B_12 rfl Ords_sz_api_Order rfl rfl rfl fun w_61 m_62 B_12 => ?_
        have q_64 := m_62.size
        have z_61 := Ext.mod z_57 m_62 (by simp only [List.mem_singleton, forall_eq]; omega)
        have q_63 := m_62.size
        refine nl <| nT <| rt <| tR (.cell rfl (B_12.all Ords_ag_api_Order Ords_sz_api_Order) .nil) <| ?_
        exact ⟨by rw [show Odr.bare o = (⟨o.by_, o.kind, o.who, ⟨0, 0⟩, 0⟩ : Odr) from by unfold Odr.bare; congr 1 <;> (first | rfl | (split <;> first | rfl | omega))]; rfl, z_61⟩
      · simp only [Bool.or_eq_true, Bool.or_eq_false_iff, Bool.and_eq_true, Bool.and_eq_false_iff, decide_eq_true_eq, decide_eq_false_iff_not, beq_iff_eq, bne_iff_ne, beq_eq_false_iff_ne, bne_eq_false_iff_eq, Bool.not_eq_true', Bool.not_eq_false', Bool.not_eq_true, Bool.not_eq_false, Int.not_lt, Int.not_le, Nat.not_lt, Nat.not_le, ne_eq, Classical.not_not] at h_56
        refine sk <| nT <| sq <| rg <| vl (ld rfl (B_5.all Ords_ag_api_Order Ords_sz_api_Order)) rfl <| ?_
        have B_12 := B_12.mod m_53 (by simp only [List.mem_singleton]; omega)
        refine st (new := [.int .i64 o.by_, .int .i64 o.kind, .int .i64 o.who, .int .i64 0, .int .i64 0, .int .i64 o.what]) rfl rfl B_12 rfl Ords_sz_api_Order rfl rfl rfl fun w_65 m_66 B_12 => ?_
        have q_68 := m_66.size
        have z_65 := Ext.mod z_52 m_66 (by simp only [List.mem_singleton, forall_eq]; omega)
        have q_67 := m_66.size
        refine nl <| nT <| rt <| tR (.cell rfl (B_12.all Ords_ag_api_Order Ords_sz_api_Order) .nil) <| ?_
        exact ⟨by rw [show Odr.bare o = (⟨o.by_, o.kind, o.who, ⟨0, 0⟩, o.what⟩ : Odr) from by unfold Odr.bare; congr 1 <;> (first | rfl | (split <;> first | rfl | omega))]; rfl, z_65⟩
    · simp only [Bool.or_eq_true, Bool.or_eq_false_iff, Bool.and_eq_true, Bool.and_eq_false_iff, decide_eq_true_eq, decide_eq_false_iff_not, beq_iff_eq, bne_iff_ne, beq_eq_false_iff_ne, bne_eq_false_iff_eq, Bool.not_eq_true', Bool.not_eq_false', Bool.not_eq_true, Bool.not_eq_false, Int.not_lt, Int.not_le, Nat.not_lt, Nat.not_le, ne_eq, Classical.not_not] at h_51
      refine sk <| nT <| sq <| sq <| rg <| vl (fa Ords_fd_api_Order_1 rfl) rfl <| vl (ld rfl (B_5.one Ords_ag_int rfl)) rfl <| vl (bne rfl rfl) rfl <| vl (mv rfl) rfl <| vQ rfl rfl rfl rfl (fun hc => fa Ords_fd_api_Order_1 rfl) rfl <| vQ rfl rfl rfl rfl (fun hc => ld (gt hc rfl) (B_5.one Ords_ag_int rfl)) rfl <| vQ rfl rfl rfl rfl (fun hc => bne (gt hc rfl) rfl) rfl <| vl (pA rfl rfl rfl rfl) rfl <| nl <| nT <| ?_
      refine cb rfl (fun h_69 => ?_) (fun h_69 => ?_)
      · simp only [Bool.or_eq_true, Bool.or_eq_false_iff, Bool.and_eq_true, Bool.and_eq_false_iff, decide_eq_true_eq, decide_eq_false_iff_not, beq_iff_eq, bne_iff_ne, beq_eq_false_iff_ne, bne_eq_false_iff_eq, Bool.not_eq_true', Bool.not_eq_false', Bool.not_eq_true, Bool.not_eq_false, Int.not_lt, Int.not_le, Nat.not_lt, Nat.not_le, ne_eq, Classical.not_not] at h_69
        refine rg <| vl (fa Ords_fd_api_Order_4 rfl) rfl <| st (new := [.int .i64 o.by_, .int .i64 o.kind, .int .i64 o.who, .int .i64 o.spot.x, .int .i64 o.spot.y, .int .i64 0]) rfl rfl B_5 rfl Ords_sz_int rfl rfl rfl fun w_70 m_71 B_5 => ?_
        have q_73 := m_71.size
        have z_70 := Ext.mod z_8 m_71 (by simp only [List.mem_singleton, forall_eq]; omega)
        have q_72 := m_71.size
        refine nl <| nT <| sq <| rg <| vl (ld rfl (B_5.all Ords_ag_api_Order Ords_sz_api_Order)) rfl <| ?_
        have B_12 := B_12.mod m_71 (by simp only [List.mem_singleton]; omega)
        refine st (new := [.int .i64 o.by_, .int .i64 o.kind, .int .i64 o.who, .int .i64 o.spot.x, .int .i64 o.spot.y, .int .i64 0]) rfl rfl B_12 rfl Ords_sz_api_Order rfl rfl rfl fun w_74 m_75 B_12 => ?_
        have q_77 := m_75.size
        have z_74 := Ext.mod z_70 m_75 (by simp only [List.mem_singleton, forall_eq]; omega)
        have q_76 := m_75.size
        refine nl <| nT <| rt <| tR (.cell rfl (B_12.all Ords_ag_api_Order Ords_sz_api_Order) .nil) <| ?_
        exact ⟨by rw [show Odr.bare o = (⟨o.by_, o.kind, o.who, ⟨o.spot.x, o.spot.y⟩, 0⟩ : Odr) from by unfold Odr.bare; congr 1 <;> (first | rfl | (split <;> first | rfl | omega))]; rfl, z_74⟩
      · simp only [Bool.or_eq_true, Bool.or_eq_false_iff, Bool.and_eq_true, Bool.and_eq_false_iff, decide_eq_true_eq, decide_eq_false_iff_not, beq_iff_eq, bne_iff_ne, beq_eq_false_iff_ne, bne_eq_false_iff_eq, Bool.not_eq_true', Bool.not_eq_false', Bool.not_eq_true, Bool.not_eq_false, Int.not_lt, Int.not_le, Nat.not_lt, Nat.not_le, ne_eq, Classical.not_not] at h_69
        refine sk <| nT <| sq <| rg <| vl (ld rfl (B_5.all Ords_ag_api_Order Ords_sz_api_Order)) rfl <| st (new := [.int .i64 o.by_, .int .i64 o.kind, .int .i64 o.who, .int .i64 o.spot.x, .int .i64 o.spot.y, .int .i64 o.what]) rfl rfl B_12 rfl Ords_sz_api_Order rfl rfl rfl fun w_78 m_79 B_12 => ?_
        have q_81 := m_79.size
        have z_78 := Ext.mod z_8 m_79 (by simp only [List.mem_singleton, forall_eq]; omega)
        have q_80 := m_79.size
        refine nl <| nT <| rt <| tR (.cell rfl (B_12.all Ords_ag_api_Order Ords_sz_api_Order) .nil) <| ?_
        exact ⟨by rw [show Odr.bare o = (⟨o.by_, o.kind, o.who, ⟨o.spot.x, o.spot.y⟩, o.what⟩ : Odr) from by unfold Odr.bare; congr 1 <;> (first | rfl | (split <;> first | rfl | omega))]; rfl, z_78⟩
set_option maxRecDepth 100000 in
set_option maxHeartbeats 400000 in
theorem ocheck_any (o : Odr) (w : World) :
    Calls Try.prog 75 #[.agg #[.int .i64 o.by_, .int .i64 o.kind, .int .i64 o.who, .int .i64 o.spot.x, .int .i64 o.spot.y, .int .i64 o.what]] w (fun e w' => e = .returned (.int .i64 o.chk) ∧ Ext w w') := by
  refine calls_W (n := 43) Try.func75 rfl rfl rfl ?_
  refine sq <| rg <| bx rfl rfl rfl rfl fun w_1 b_2 x_3 l_4 B_5 => ?_
  have q_6 := x_3.size
  have z_1 := Ext.tr (Ext.rf w) x_3
  have q_7 := B_5.lt
  refine vl (as_ rfl) rfl <| nl <| nT <| sq <| sq <| rg <| vl (fa Ords_fd_api_Order_0 rfl) rfl <| vl (ld rfl (B_5.one Ords_ag_int rfl)) rfl <| ca Ords_en_order_within rfl rfl ((owithin_any o.by_ 0 7 _).mono ?_)
  rintro e w_8 ⟨rfl, x_9⟩
  refine ⟨_, rfl, ?_⟩
  have q_10 := x_9.size
  have z_8 := Ext.tr z_1 x_9
  refine vl (nt rfl) rfl <| vl (mv rfl) rfl <| vQ rfl rfl rfl rfl (fun hc => fa Ords_fd_api_Order_1 rfl) rfl <| ?_
  have B_5 := B_5.later x_9
  refine vQ rfl rfl rfl rfl (fun hc => ld (gt hc rfl) (B_5.one Ords_ag_int rfl)) rfl <| vC rfl rfl rfl rfl Ords_en_order_within (fun hc => ec (gt hc rfl) (ec rfl (ec rfl rfl))) (fun hc => owithin_any o.kind 1 5 _) rfl fun w_11 x_12 => ?_
  have q_13 := x_12.size
  have z_11 := Ext.tr z_8 x_12
  refine vQ rfl rfl rfl rfl (fun hc => nt (gt hc rfl)) rfl <| vl (pO rfl rfl rfl rfl) rfl <| vl (mv rfl) rfl <| vQ rfl rfl rfl rfl (fun hc => fa Ords_fd_api_Order_2 rfl) rfl <| ?_
  have B_5 := B_5.later x_12
  refine vQ rfl rfl rfl rfl (fun hc => ld (gt hc rfl) (B_5.one Ords_ag_int rfl)) rfl <| vC rfl rfl rfl rfl Ords_en_order_within (fun hc => ec (gt hc rfl) (ec rfl (ec rfl rfl))) (fun hc => owithin_any o.who 0 1000000 _) rfl fun w_14 x_15 => ?_
  have q_16 := x_15.size
  have z_14 := Ext.tr z_11 x_15
  refine vQ rfl rfl rfl rfl (fun hc => nt (gt hc rfl)) rfl <| vl (pO rfl rfl rfl rfl) rfl <| vl (mv rfl) rfl <| vQ rfl rfl rfl rfl (fun hc => fa Ords_fd_api_Order_3 rfl) rfl <| vQ rfl rfl rfl rfl (fun hc => fa Ords_fd_api_Cell_0 (gt hc rfl)) rfl <| ?_
  have B_5 := B_5.later x_15
  refine vQ rfl rfl rfl rfl (fun hc => ld (gt hc rfl) (B_5.one Ords_ag_int rfl)) rfl <| vC rfl rfl rfl rfl Ords_en_order_within (fun hc => ec (gt hc rfl) (ec rfl (ec rfl rfl))) (fun hc => owithin_any o.spot.x (-1000) 1000 _) rfl fun w_17 x_18 => ?_
  have q_19 := x_18.size
  have z_17 := Ext.tr z_14 x_18
  refine vQ rfl rfl rfl rfl (fun hc => nt (gt hc rfl)) rfl <| vl (pO rfl rfl rfl rfl) rfl <| vl (mv rfl) rfl <| vQ rfl rfl rfl rfl (fun hc => fa Ords_fd_api_Order_3 rfl) rfl <| vQ rfl rfl rfl rfl (fun hc => fa Ords_fd_api_Cell_1 (gt hc rfl)) rfl <| ?_
  have B_5 := B_5.later x_18
  refine vQ rfl rfl rfl rfl (fun hc => ld (gt hc rfl) (B_5.one Ords_ag_int rfl)) rfl <| vC rfl rfl rfl rfl Ords_en_order_within (fun hc => ec (gt hc rfl) (ec rfl (ec rfl rfl))) (fun hc => owithin_any o.spot.y (-1000) 1000 _) rfl fun w_20 x_21 => ?_
  have q_22 := x_21.size
  have z_20 := Ext.tr z_17 x_21
  refine vQ rfl rfl rfl rfl (fun hc => nt (gt hc rfl)) rfl <| vl (pO rfl rfl rfl rfl) rfl <| vl (mv rfl) rfl <| vQ rfl rfl rfl rfl (fun hc => fa Ords_fd_api_Order_4 rfl) rfl <| ?_
  have B_5 := B_5.later x_21
  refine vQ rfl rfl rfl rfl (fun hc => ld (gt hc rfl) (B_5.one Ords_ag_int rfl)) rfl <| vC rfl rfl rfl rfl Ords_en_order_within (fun hc => ec (gt hc rfl) (ec rfl (ec rfl rfl))) (fun hc => owithin_any o.what 0 1000000 _) rfl fun w_23 x_24 => ?_
  have q_25 := x_24.size
  have z_23 := Ext.tr z_20 x_24
  refine vQ rfl rfl rfl rfl (fun hc => nt (gt hc rfl)) rfl <| vl (pO rfl rfl rfl rfl) rfl <| nl <| nT <| ?_
  refine cb rfl (fun h_26 => ?_) (fun h_26 => ?_)
  · refine sq <| rg <| vl (as_ rfl) rfl <| nl <| nT <| rt <| tT <| tR (.tmp rfl .nil) <| ?_
    exact ⟨by rw [Odr.chk_arg h_26]; rfl, z_23⟩
  · refine sk <| nT <| sq <| sq <| ?_
    refine rd [(0, 0), (1, 0), (2, 0)] [0, 1, 2, 3] (by kernel_rfl) (by kernel_rfl) ?_
    have B_5 := B_5.later x_24
    refine fq rfl rfl (fun _ x => ld rfl ((B_5.later x).all Ords_ag_api_Order Ords_sz_api_Order)) rfl <| fc rfl rfl Ords_en_order_bare rfl (fun _ x => obare_any o _) rfl <| fq rfl rfl (fun _ x => ld rfl ((B_5.later x).all Ords_ag_api_Order Ords_sz_api_Order)) rfl <| fw rfl rfl (fun _ => bnS Ords_eqs_api_Order Ords_eqg_api_Order (p := Odr.bare o) (q := o) rfl rfl) rfl <| fn fun w_27 x_28 => ?_
    have q_29 := x_28.size
    have z_27 := Ext.tr z_23 x_28
    refine nT <| ?_
    refine cb rfl (fun h_30 => ?_) (fun h_30 => ?_)
    · refine sq <| rg <| vl (as_ rfl) rfl <| nl <| nT <| rt <| tT <| tR (.tmp rfl .nil) <| ?_
      exact ⟨by rw [Odr.chk_form h_26 h_30]; rfl, z_27⟩
    · refine sk <| nT <| sq <| rg <| vl (as_ rfl) rfl <| nl <| nT <| rt <| tR (.tmp rfl .nil) <| ?_
      exact ⟨by rw [Odr.chk_good h_26 h_30]; rfl, z_27⟩
set_option maxRecDepth 100000 in
set_option maxHeartbeats 400000 in
theorem oall_any (A : Option Addr) (c : Nat) (l : List Odr) (w : World) (hl : Odr.rep.SHas 48 w A c l) :
    Calls Try.prog 60 #[.slice A l.length c] w (fun e w' => e = .returned (.int .i64 (ordsE l)) ∧ Ext w w') := by
  have hll := hl.len_le
  refine calls_W (n := 21) Try.func60 rfl rfl rfl ?_
  refine sq <| rg <| vl (as_ rfl) rfl <| nl <| nT <| sq <| sq <| rg <| vl (mv rfl) rfl <| vl (ln Try.underlying76 rfl) rfl <| vl (bgt rfl rfl) rfl <| nl <| nT <| ?_
  refine clt rfl (fun h_1 => ?_) (fun h_1 => ?_)
  · refine sq <| rg <| vl (as_ rfl) rfl <| nl <| nT <| rt <| tT <| tR (.tmp rfl .nil) <| ?_
    exact ⟨by rw [ordsE_large (by omega)]; rfl, (Ext.rf w)⟩
  · refine sk <| nT <| sq <| sq <| rg <| vl (mv rfl) rfl <| vl (ln Try.underlying76 rfl) rfl <| vl (mv rfl) rfl <| nl <| nT <| bk <| ?_
    refine lp (fun mI EI wI => ∃ k : Nat, EI = [(9, .slice A l.length c), (10, .int .i64 (l.length : Int)), (11, .int .i64 (k : Int))] ∧ mI = l.length - k ∧ Ext w wI ∧ (k ≤ l.length) ∧ (∀ i, i < k → (l.getD i default).chk = 0)) _ _ ⟨0, rfl, rfl, (Ext.rf w), by omega, fun i hi => by omega⟩ (.cons rfl (.cons rfl (.cons (loI rfl (by first | omega | rfl | (simp <;> omega))) .nil))) ?_
    rintro m_3 E_4 w_2 ⟨k, rfl, rfl, z_2, hk, hg⟩
    have q_5 := z_2.size
    refine sq <| rg <| vl (blt rfl rfl) rfl <| nl <| nT <| sq <| ?_
    refine clt rfl (fun h_6 => ?_) (fun h_6 => ?_)
    · refine sk <| nT <| sq <| bk <| sq <| rg <| vl (iA k Try.underlying76 Ords_sz_api_Order rfl rfl ((hl.keep z_2).adr (Nat.zero_lt_of_lt (show k < _ from (by omega)))) rfl (by omega)) rfl <| vl (ld rfl (Rep.SHas.elt hcO ((hl.keep z_2).adh (Nat.zero_lt_of_lt (show k < _ from (by omega)))) (get_d (l := l) (u := default) (by omega)) Ords_ag_api_Order Ords_sz_api_Order)) rfl <| al rfl Ords_zv_api_Order rfl rfl fun w_7 b_8 x_9 l_10 B_11 => ?_
      have q_12 := x_9.size
      have z_7 := Ext.tr z_2 x_9
      have q_13 := B_11.lt
      refine st (new := [.int .i64 ((l.getD k default).by_), .int .i64 ((l.getD k default).kind), .int .i64 ((l.getD k default).who), .int .i64 ((l.getD k default).spot.x), .int .i64 ((l.getD k default).spot.y), .int .i64 ((l.getD k default).what)]) rfl rfl B_11 rfl Ords_sz_api_Order rfl rfl rfl fun w_14 m_15 B_11 => ?_
      have q_17 := m_15.size
      have z_14 := Ext.mod z_7 m_15 (by simp only [List.mem_singleton, forall_eq]; omega)
      have q_16 := m_15.size
      refine nl <| nT <| sq <| rg <| vl (ld rfl (B_11.all Ords_ag_api_Order Ords_sz_api_Order)) rfl <| ca Ords_en_order_Check rfl rfl ((ocheck_any (l.getD k default) _).mono ?_)
      rintro e w_18 ⟨rfl, x_19⟩
      refine ⟨_, rfl, ?_⟩
      have q_20 := x_19.size
      have z_18 := Ext.tr z_14 x_19
      refine vl (as_ rfl) rfl <| nl <| nT <| sq <| rg <| vl (mv rfl) rfl <| vl (bne rfl rfl) rfl <| nl <| nT <| ?_
      refine cne rfl (fun h_21 => ?_) (fun h_21 => ?_)
      · refine sq <| rg <| vl (mv rfl) rfl <| vl (as_ rfl) rfl <| nl <| nT <| rt <| tB <| tT <| tK <| tB <| tT <| tR (.tmp rfl .nil) <| ?_
        exact ⟨by rw [ordsE_at (by omega) (show k < l.length by omega) hg (by simpa using h_21)]; rfl, z_18⟩
      · refine sk <| nB <| nT <| rg <| vl (bad rfl rfl (inI (by omega))) rfl <| vl (mv rfl) rfl <| nl <| ?_
        exact nI _ _ ⟨k + 1, rfl, rfl, z_18, by omega, lt_succ_all hg (by simpa using h_21)⟩ (by omega) (.cons rfl (.cons rfl (.cons (loI rfl (by first | omega | rfl | (simp <;> omega))) .nil)))
    · refine xt <| xT <| xK <| xB <| nT <| sq <| rg <| vl (as_ rfl) rfl <| nl <| nT <| rt <| tR (.tmp rfl .nil) <| ?_
      exact ⟨by rw [ordsE_ok (by omega) (fun i hi => hg i (by omega))]; rfl, z_2⟩
end Go.Proofs.Ytfabhinehfhndaa
