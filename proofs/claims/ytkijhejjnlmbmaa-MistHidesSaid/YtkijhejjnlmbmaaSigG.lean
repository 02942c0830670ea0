/-
  sight.bare, sight.Sees. (Printed by bin/sightg.py.)
-/
import Derived.Test.YtkijhejjnlmbmaaLinG
import Derived.Test.YtkijhejjnlmbmaaWOwn2
set_option linter.unusedVariables false
set_option linter.unusedSimpArgs false
namespace Go.Proofs.Ytkijhejjnlmbmaa
open Go.RowKit

theorem SigG_ag_api_Cell : Ag Try.prog 42 true := fun _ => by kernel_rfl
theorem SigG_sz_api_Cell : Sz Try.prog 42 2 := fun _ => by kernel_rfl
theorem SigG_en_line_Cells : Enters Try.prog 161 := en Try.func161 (by kernel_rfl) (by kernel_rfl)
theorem SigG_zv_api_Cell : Zv Try.prog 42 (.agg #[.int .i64 0, .int .i64 0]) := fun _ => by kernel_rfl
theorem SigG_ag_api_Field : Ag Try.prog 24 true := fun _ => by kernel_rfl
theorem SigG_sz_api_Field : Sz Try.prog 24 3 := fun _ => by kernel_rfl
theorem SigG_en_field_At : Enters Try.prog 24 := en Try.func24 (by kernel_rfl) (by kernel_rfl)
theorem lineC_bd {a b : Cel} (h : -1000 ≤ a.x ∧ a.x ≤ 1000 ∧ -1000 ≤ a.y ∧ a.y ≤ 1000) (h2 : -1000 ≤ b.x ∧ b.x ≤ 1000 ∧ -1000 ≤ b.y ∧ b.y ≤ 1000) : 1 ≤ (lineC a b).length ∧ (lineC a b).length ≤ 2001 ∧ (lineC a b).length = (far a b).toNat + 1 := by
  have h3 := sz_bd (b.x - a.x); have h4 := sz_bd (b.y - a.y)
  unfold lineC; rw [pts_len]; unfold far; omega
/-- Neither rock nor wood. -/
def Fld.clear (f : Fld) (c : Cel) : Bool := !(f.atV c == 1 || f.atV c == 2)
def bareC (f : Fld) (a b : Cel) : Bool := decide ((lineC a b).length < 3) || (((lineC a b).drop 1).take ((lineC a b).length - 1 - 1)).all f.clear
theorem bareC_few {f : Fld} {a b : Cel} (h : (lineC a b).length < 3) : bareC f a b = true := by unfold bareC; rw [decide_eq_true h]; rfl
theorem bareC_yes {f : Fld} {a b : Cel} (h : ∀ i, i < (((lineC a b).drop 1).take ((lineC a b).length - 1 - 1)).length → f.clear ((((lineC a b).drop 1).take ((lineC a b).length - 1 - 1)).getD i default) = true) : bareC f a b = true := by
  unfold bareC
  rw [Bool.or_eq_true]
  refine .inr (List.all_eq_true.2 fun x hx => ?_)
  obtain ⟨i, hi, rfl⟩ := List.getElem_of_mem hx
  have := h i hi
  rwa [List.getD_eq_getElem?_getD, List.getElem?_eq_getElem hi] at this
theorem bareC_no {f : Fld} {a b : Cel} {k : Nat} (hk : k < (((lineC a b).drop 1).take ((lineC a b).length - 1 - 1)).length) (h : f.clear ((((lineC a b).drop 1).take ((lineC a b).length - 1 - 1)).getD k default) = false) : bareC f a b = false := by
  unfold bareC
  have h3 : ¬ (lineC a b).length < 3 := by rw [List.length_take, List.length_drop] at hk; omega
  rw [decide_eq_false h3, Bool.false_or]
  rw [List.all_eq_false]
  refine ⟨_, List.getElem_mem hk, ?_⟩
  rw [List.getD_eq_getElem?_getD, List.getElem?_eq_getElem hk] at h
  simpa using h
def seesE (f : Fld) (a b : Cel) : Int := if f.atE a ≠ 0 then f.atE a else f.atE b
def seesV (f : Fld) (a b : Cel) : Bool := if seesE f a b ≠ 0 then false else bareC f a b || bareC f b a
def seesR (f : Fld) (a b : Cel) : Value := .tuple #[.bool (seesV f a b), .int .i64 (seesE f a b)]
set_option maxRecDepth 100000 in
set_option maxHeartbeats 400000 in
theorem bare_in (f : Fld) (a b : Cel) (A : Option Addr) (c : Nat) (w : World) (hP : repI.SHas 8 w A c f.places) (h : -1000 ≤ a.x ∧ a.x ≤ 1000 ∧ -1000 ≤ a.y ∧ a.y ≤ 1000) (h2 : -1000 ≤ b.x ∧ b.x ≤ 1000 ∧ -1000 ≤ b.y ∧ b.y ≤ 1000) :
    Calls Try.prog 146 #[.agg #[.int .i64 f.wide, .int .i64 f.high, .slice A f.places.length c], .agg #[.int .i64 a.x, .int .i64 a.y], .agg #[.int .i64 b.x, .int .i64 b.y]] w (fun e w' => e = .returned (.bool (bareC f a b)) ∧ Ext w w') := by
  refine calls_W (n := 45) Try.func146 rfl rfl rfl ?_
  refine sq <| rg <| bx rfl rfl rfl rfl fun w_1 b_2 x_3 l_4 B_5 => ?_
  have q_6 := x_3.size
  have z_1 := Ext.tr (Ext.rf w) x_3
  have q_7 := B_5.lt
  refine bx rfl rfl rfl rfl fun w_8 b_9 x_10 l_11 B_12 => ?_
  have q_13 := x_10.size
  have z_8 := Ext.tr z_1 x_10
  have q_14 := B_12.lt
  refine bx rfl rfl rfl rfl fun w_15 b_16 x_17 l_18 B_19 => ?_
  have q_20 := x_17.size
  have z_15 := Ext.tr z_8 x_17
  have q_21 := B_19.lt
  refine vl (as_ rfl) rfl <| nl <| nT <| sq <| rg <| ?_
  have B_12 := B_12.later x_17
  refine vl (ld rfl (B_12.all SigG_ag_api_Cell SigG_sz_api_Cell)) rfl <| vl (ld rfl (B_19.all SigG_ag_api_Cell SigG_sz_api_Cell)) rfl <| ca SigG_en_line_Cells rfl rfl ((cells_in a b _ (by omega) (by omega)).mono ?_)
  rintro e w_25 ⟨A_22, c_22, rfl, OL_22, x_26⟩
  refine ⟨_, rfl, ?_⟩
  have q_27 := x_26.size
  have z_25 := Ext.tr z_15 x_26
  have u_23 := fun q hq => (OL_22.lt q hq).2
  have lo_24 := fun q hq => (OL_22.lt q hq).1
  have hl_22 := lineC_bd (a := a) (b := b) (by omega) (by omega)
  refine vl (mv rfl) rfl <| vl (ex rfl rfl) rfl <| vl (ex rfl rfl) rfl <| vl (as_ rfl) rfl <| vl (as_ rfl) rfl <| nl <| nT <| sq <| sq <| rg <| vl (mv rfl) rfl <| vl (ln Try.underlying43 rfl) rfl <| vl (blt rfl rfl) rfl <| nl <| nT <| ?_
  refine clt rfl (fun h_28 => ?_) (fun h_28 => ?_)
  · refine sq <| rg <| vl (as_ rfl) rfl <| nl <| nT <| rt <| tT <| tR (.tmp rfl .nil) <| ?_
    exact ⟨by rw [bareC_few (by omega)]; rfl, z_25⟩
  · refine sk <| nT <| sq <| sq <| rg <| vl (mv rfl) rfl <| vl (mv rfl) rfl <| vl (ln Try.underlying43 rfl) rfl <| vl (bsu rfl rfl (inI (by omega))) rfl <| vl (sI 1 ((lineC a b).length - 1) Try.underlying43 SigG_sz_api_Cell rfl rfl rfl rfl (by omega) (by omega) (by have := OL_22.has.1; omega)) rfl <| vl (ln Try.underlying43 rfl) rfl <| vl (mv rfl) rfl <| nl <| nT <| bk <| ?_
    have B_5 := B_5.later (Ext.tr x_10 (Ext.tr x_17 x_26))
    refine lp (fun mI EI wI => ∃ k : Nat, EI = [(3, .pointer (some ⟨b_2, 0, none⟩)), (26, .slice (sA A_22 c_22 1 2) ((lineC a b).length - 1 - 1) (c_22 - 1)), (27, .int .i64 ((((lineC a b).length - 1 - 1 : Nat) : Int))), (28, .int .i64 (k : Int))] ∧ mI = (lineC a b).length - 1 - 1 - k ∧ Ext w wI ∧ Blk wI b_2 [.int .i64 f.wide, .int .i64 f.high, .slice A f.places.length c] 24 (0, 0) ∧ Cel.rep.SOwn 42 16 wI w_15.heap.size (Rep.blkOf A_22) A_22 c_22 (lineC a b) ∧ (k ≤ (lineC a b).length - 1 - 1) ∧ (∀ i, i < k → f.clear ((((lineC a b).drop 1).take ((lineC a b).length - 1 - 1)).getD i default) = true)) _ _ ⟨0, rfl, rfl, z_25, B_5, OL_22, by omega, fun i hi => by omega⟩ (.cons rfl (.cons rfl (.cons rfl (.cons (loI rfl (by first | omega | rfl | (simp <;> omega))) .nil)))) ?_
    rintro m_30 E_31 w_29 ⟨k, rfl, rfl, z_29, B_5, OL_22, hk, hg⟩
    have q_32 := z_29.size
    have q_33 := B_5.lt
    have u_34 := fun q hq => (OL_22.lt q hq).2
    refine sq <| rg <| vl (blt rfl rfl) rfl <| nl <| nT <| sq <| ?_
    refine clt rfl (fun h_35 => ?_) (fun h_35 => ?_)
    · refine sk <| nT <| sq <| bk <| sq <| rg <| vl (iA k Try.underlying43 SigG_sz_api_Cell rfl rfl ((OL_22.has.sub 1 ((lineC a b).length - 1) (by omega) (by omega)).adr (Nat.zero_lt_of_lt (show k < _ from (by rw [List.length_take, List.length_drop]; omega)))) rfl (by omega)) rfl <| vl (ld rfl (Rep.SHas.elt hcC ((OL_22.has.sub 1 ((lineC a b).length - 1) (by omega) (by omega)).adh (Nat.zero_lt_of_lt (show k < _ from (by rw [List.length_take, List.length_drop]; omega)))) (get_d (l := ((lineC a b).drop 1).take ((lineC a b).length - 1 - 1)) (u := default) (by rw [List.length_take, List.length_drop]; omega)) SigG_ag_api_Cell SigG_sz_api_Cell)) rfl <| al rfl SigG_zv_api_Cell rfl rfl fun w_36 b_37 x_38 l_39 B_40 => ?_
      have q_41 := x_38.size
      have z_36 := Ext.tr z_29 x_38
      have q_42 := B_40.lt
      refine st (new := [.int .i64 (((((lineC a b).drop 1).take ((lineC a b).length - 1 - 1)).getD k default).x), .int .i64 (((((lineC a b).drop 1).take ((lineC a b).length - 1 - 1)).getD k default).y)]) rfl rfl B_40 rfl SigG_sz_api_Cell rfl rfl rfl fun w_43 m_44 B_40 => ?_
      have q_46 := m_44.size
      have z_43 := Ext.mod z_36 m_44 (by simp only [List.mem_singleton, forall_eq]; omega)
      have q_45 := m_44.size
      refine nl <| nT <| sq <| rg <| ?_
      have B_5 := B_5.later x_38
      have B_5 := B_5.mod m_44 (by simp only [List.mem_singleton]; omega)
      refine vl (ld rfl (B_5.all SigG_ag_api_Field SigG_sz_api_Field)) rfl <| vl (ld rfl (B_40.all SigG_ag_api_Cell SigG_sz_api_Cell)) rfl <| ca SigG_en_field_At rfl rfl ((fldAt2 f (((((lineC a b).drop 1).take ((lineC a b).length - 1 - 1)).getD k default)) _ _ _ (hP.keep z_43)).mono ?_)
      rintro e w_47 ⟨rfl, x_48⟩
      refine ⟨_, rfl, ?_⟩
      have q_49 := x_48.size
      have z_47 := Ext.tr z_43 x_48
      refine vl (mv rfl) rfl <| vl (ex rfl rfl) rfl <| vl (ex rfl rfl) rfl <| vl (as_ rfl) rfl <| vl (as_ rfl) rfl <| nl <| nT <| sq <| rg <| vl (mv rfl) rfl <| vl (beq rfl rfl) rfl <| vl (mv rfl) rfl <| vQ rfl rfl rfl rfl (fun hc => mv rfl) rfl <| vQ rfl rfl rfl rfl (fun hc => beq (gt hc rfl) rfl) rfl <| vl (pO rfl rfl rfl rfl) rfl <| nl <| nT <| ?_
      refine cb rfl (fun h_50 => ?_) (fun h_50 => ?_)
      · refine sq <| rg <| vl (as_ rfl) rfl <| nl <| nT <| rt <| tB <| tT <| tK <| tB <| tT <| tR (.tmp rfl .nil) <| ?_
        exact ⟨by rw [bareC_no (k := k) (by rw [List.length_take, List.length_drop]; omega) (by unfold Fld.clear; rw [h_50]; rfl)]; rfl, z_47⟩
      · refine sk <| nB <| nT <| rg <| vl (bad rfl rfl (inI (by omega))) rfl <| vl (mv rfl) rfl <| nl <| ?_
        have B_5 := B_5.later x_48
        have OL_22 := OL_22.later x_38
        have OL_22 := OL_22.mod m_44 (fun q hq h => by have hb := List.mem_singleton.1 h; exfalso; (have := u_34 q hq; omega))
        have OL_22 := OL_22.later x_48
        exact nI _ _ ⟨k + 1, rfl, rfl, z_47, B_5, OL_22, by omega, lt_succ_all hg (by unfold Fld.clear; rw [h_50]; rfl)⟩ (by omega) (.cons rfl (.cons rfl (.cons rfl (.cons (loI rfl (by first | omega | rfl | (simp <;> omega))) .nil))))
    · refine xt <| xT <| xK <| xB <| nT <| sq <| rg <| vl (as_ rfl) rfl <| nl <| nT <| rt <| tR (.tmp rfl .nil) <| ?_
      exact ⟨by rw [bareC_yes fun i hi => hg i (by rw [List.length_take, List.length_drop] at hi; omega)]; rfl, z_29⟩
end Go.Proofs.Ytkijhejjnlmbmaa
