/-
  FieldOwn. (Printed by bin/fieldown.py.)
-/
import Derived.Test.YtkijhejjnlmbmaaFldT
import Derived.Test.YtkijhejjnlmbmaaClone
set_option linter.unusedVariables false
set_option linter.unusedSimpArgs false
namespace Go.Proofs.Ytkijhejjnlmbmaa
open Go.RowKit

theorem FldO_fd_api_Field_2 : Fd Try.prog 24 2 2 := fun _ _ _ => by kernel_rfl
theorem FldO_ag_S_int : Ag Try.prog 22 false := fun _ => by kernel_rfl
theorem FldO_en_slices_Clone_S_int_int_ : Enters Try.prog 19 := en Try.func19 (by kernel_rfl) (by kernel_rfl)
theorem FldO_ag_api_Field : Ag Try.prog 24 true := fun _ => by kernel_rfl
theorem FldO_sz_api_Field : Sz Try.prog 24 3 := fun _ => by kernel_rfl
theorem FldO_en_field_Turn : Enters Try.prog 20 := en Try.func20 (by kernel_rfl) (by kernel_rfl)
theorem FldO_zv_api_Field : Zv Try.prog 24 (.agg #[.int .i64 0, .int .i64 0, .slice none 0 0]) := fun _ => by kernel_rfl
theorem FldO_en_slices_Equal_S_int_int_ : Enters Try.prog 21 := en Try.func21 (by kernel_rfl) (by kernel_rfl)
theorem FldO_sz_int : Sz Try.prog 3 1 := fun _ => by kernel_rfl
theorem FldO_ag_int : Ag Try.prog 3 false := fun _ => by kernel_rfl
theorem FldO_en_mustkeep_fieldLives : Enters Try.prog 18 := en Try.func18 (by kernel_rfl) (by kernel_rfl)
set_option maxRecDepth 100000 in
set_option maxHeartbeats 400000 in
theorem fieldOwn_walk (f : Fld) (A : Option Addr) (cq : Nat) (w : World) (hP : repI.SHas 8 w A cq f.places) :
    Calls Try.prog 4 #[.agg #[.int .i64 f.wide, .int .i64 f.high, .slice A f.places.length cq]] w (fun e w' => e = .returned (.bool true) ∧ Ext w w') := by
  refine calls_W (n := 49) Try.func4 rfl rfl rfl ?_
  refine sq <| rg <| bx rfl rfl rfl rfl fun w_1 b_2 x_3 l_4 B_5 => ?_
  have q_6 := x_3.size
  have z_1 := Ext.tr (Ext.rf w) x_3
  have q_7 := B_5.lt
  refine vl (as_ rfl) rfl <| nl <| nT <| sq <| rg <| vl (fa FldO_fd_api_Field_2 rfl) rfl <| vl (ld rfl (B_5.one FldO_ag_S_int rfl)) rfl <| ca FldO_en_slices_Clone_S_int_int_ rfl rfl ((clone_I _ _ f.places _ (hP.keep z_1)).mono ?_)
  rintro e w_11 ⟨A_8, c_8, rfl, OC_8, hn_8, x_12⟩
  refine ⟨_, rfl, ?_⟩
  have q_13 := x_12.size
  have z_11 := Ext.tr z_1 x_12
  have u_9 := fun q hq => (OC_8.lt q hq).2
  have lo_10 := fun q hq => (OC_8.lt q hq).1
  refine vl (as_ rfl) rfl <| nl <| nT <| sq <| rg <| ?_
  have B_5 := B_5.later x_12
  refine vl (ld rfl (B_5.all FldO_ag_api_Field FldO_sz_api_Field)) rfl <| ca FldO_en_field_Turn rfl rfl ((turn_any f _ _ _ (hP.keep z_11)).mono ?_)
  rintro e w_17 ⟨A_14, c_14, rfl, OT_14, x_18⟩
  refine ⟨_, rfl, ?_⟩
  have q_19 := x_18.size
  have z_17 := Ext.tr z_11 x_18
  have u_15 := fun q hq => (OT_14.lt q hq).2
  have lo_16 := fun q hq => (OT_14.lt q hq).1
  refine vl (mv rfl) rfl <| vl (ex rfl rfl) rfl <| vl (ex rfl rfl) rfl <| al rfl FldO_zv_api_Field rfl rfl fun w_20 b_21 x_22 l_23 B_24 => ?_
  have q_25 := x_22.size
  have z_20 := Ext.tr z_17 x_22
  have q_26 := B_24.lt
  refine st (new := [.int .i64 ((turnF f).wide), .int .i64 ((turnF f).high), .slice A_14 ((turnF f).places.length) c_14]) rfl rfl B_24 rfl FldO_sz_api_Field rfl rfl rfl fun w_27 m_28 B_24 => ?_
  have q_30 := m_28.size
  have z_27 := Ext.mod z_20 m_28 (by simp only [List.mem_singleton, forall_eq]; omega)
  have q_29 := m_28.size
  refine vl (as_ rfl) rfl <| nl <| nT <| sq <| rg <| vl (fa FldO_fd_api_Field_2 rfl) rfl <| ?_
  have B_5 := B_5.later (Ext.tr x_18 x_22)
  have B_5 := B_5.mod m_28 (by simp only [List.mem_singleton]; omega)
  refine vl (ld rfl (B_5.one FldO_ag_S_int rfl)) rfl <| vl (mv rfl) rfl <| ?_
  have OC_8 := OC_8.later (Ext.tr x_18 x_22)
  have OC_8 := OC_8.mod m_28 (fun q hq h => by have hb := List.mem_singleton.1 h; exfalso; (have := u_9 q hq; omega))
  refine ca FldO_en_slices_Equal_S_int_int_ rfl rfl ((equal_Z _ _ _ _ _ _ f.places f.places _ (hP.keep z_27) OC_8.has).mono ?_)
  rintro e w_31 ⟨rfl, x_32⟩
  refine ⟨_, rfl, ?_⟩
  have q_33 := x_32.size
  have z_31 := Ext.tr z_27 x_32
  refine vl (as_ rfl) rfl <| nl <| nT <| sq <| rg <| vl (fa FldO_fd_api_Field_2 rfl) rfl <| ?_
  have B_24 := B_24.later x_32
  refine vl (ld rfl (B_24.one FldO_ag_S_int rfl)) rfl <| vl (fa FldO_fd_api_Field_2 rfl) rfl <| vl (ld rfl (B_24.one FldO_ag_S_int rfl)) rfl <| vl (cp Try.underlying22 rfl) rfl <| ?_
  have OT_14 := OT_14.later x_22
  have OT_14 := OT_14.mod m_28 (fun q hq h => by have hb := List.mem_singleton.1 h; exfalso; (have := u_15 q hq; omega))
  have OT_14 := OT_14.later x_32
  have R_34 : Raw w_11.heap.size 1 0 w_31 A_14 c_14 := Raw.of (R := repI) OT_14 rfl (fun u h => h)
  have hcpR_34 : (c_14 : Int) ≤ 9223372036854775807 := by have := (OT_14.has).2.1; omega
  have lrR_34 : ∀ q ∈ Rep.blkOf A_14, w_11.heap.size ≤ q := fun q hq => (OT_14.lt q hq).1
  refine vl (sx Try.underlying22 FldO_sz_int rfl rfl) rfl <| vl (as_ rfl) rfl <| nl <| nT <| sq <| sq <| rg <| vl (mv rfl) rfl <| vl (ln Try.underlying22 rfl) rfl <| vl (mv rfl) rfl <| nl <| nT <| bk <| ?_
  have B_5 := B_5.later x_32
  have OC_8 := OC_8.later x_32
  refine lp (fun mI EI wI => ∃ k : Nat, EI = [(1, .pointer (some ⟨b_2, 0, none⟩)), (2, .bool false), (3, .slice A_8 ((f.places).length) c_8), (6, .bool (decide (f.places = f.places))), (7, .slice A_14 c_14 c_14), (28, .int .i64 (c_14 : Int)), (29, .int .i64 (k : Int))] ∧ mI = c_14 - k ∧ Ext w wI ∧ Blk wI b_2 [.int .i64 f.wide, .int .i64 f.high, .slice A f.places.length cq] 24 (0, 0) ∧ repI.SOwn 3 8 wI w_1.heap.size (Rep.blkOf A_8) A_8 c_8 (f.places) ∧ Raw w_11.heap.size 1 0 wI A_14 c_14 ∧ (k ≤ c_14)) _ _ ⟨0, rfl, rfl, z_31, B_5, OC_8, R_34, by omega⟩ (.cons rfl (.cons rfl (.cons rfl (.cons rfl (.cons rfl (.cons rfl (.cons (loI rfl (by first | omega | rfl | (simp <;> omega))) .nil))))))) ?_
  rintro m_36 E_37 w_35 ⟨k, rfl, rfl, z_35, B_5, OC_8, R_34, hk⟩
  have q_38 := z_35.size
  have q_39 := B_5.lt
  have u_40 := fun q hq => (OC_8.lt q hq).2
  have u_41 := fun q hq => (R_34.lt q hq).2
  refine sq <| rg <| vl (blt rfl rfl) rfl <| nl <| nT <| sq <| ?_
  refine clt rfl (fun h_42 => ?_) (fun h_42 => ?_)
  · refine sk <| nT <| sq <| bk <| sq <| rg <| vl (mv rfl) rfl <| vl (as_ rfl) rfl <| nl <| nT <| rg <| vl (mv rfl) rfl <| vl (mv rfl) rfl <| vl (iA k Try.underlying22 FldO_sz_int rfl rfl (R_34.adr (Nat.zero_lt_of_lt (show k < _ from (by omega)))) rfl (by omega)) rfl <| ?_
    obtain ⟨v_43, hv_44⟩ := R_34.get (i := k) (by omega)
    refine vl (ld rfl (Lds.one FldO_ag_int hv_44)) rfl <| vl (badW rfl rfl) rfl <| vl (iA k Try.underlying22 FldO_sz_int rfl rfl (R_34.adr (Nat.zero_lt_of_lt (show k < _ from (by omega)))) rfl (by omega)) rfl <| sr (i := k) R_34 (by omega) rfl rfl FldO_sz_int fun w_45 m_46 R_34 => ?_
    have q_47 := m_46.size
    have z_45 := Ext.mod z_35 m_46 (fun q hq => by have := lrR_34 q hq; omega)
    have q_48 := m_46.size
    refine nl <| nB <| nT <| rg <| vl (bad rfl rfl (inI (by omega))) rfl <| vl (mv rfl) rfl <| nl <| ?_
    have d_49 : ∀ q ∈ Rep.blkOf A_14, q = b_2 → False := fun q hq hb => by (have := lrR_34 q hq; omega)
    have B_5 := B_5.mod m_46 (fun hq => d_49 _ hq rfl)
    have OC_8 := OC_8.mod m_46 (fun q hq h => by exfalso; (have := lrR_34 q h; (have := u_40 q hq; have := u_9 q hq; omega)))
    exact nI _ _ ⟨k + 1, rfl, rfl, z_45, B_5, OC_8, R_34, by omega⟩ (by omega) (.cons rfl (.cons rfl (.cons rfl (.cons rfl (.cons rfl (.cons rfl (.cons (loI rfl (by first | omega | rfl | (simp <;> omega))) .nil)))))))
  · refine xt <| xT <| xK <| xB <| nT <| sq <| rg <| ca FldO_en_mustkeep_fieldLives rfl rfl ((fieldLives_any _).mono ?_)
    rintro e w_50 ⟨rfl, x_51⟩
    refine ⟨_, rfl, ?_⟩
    have q_52 := x_51.size
    have z_50 := Ext.tr z_35 x_51
    refine vl (mv rfl) rfl <| ug rfl rfl rfl <| vl (mv rfl) rfl <| vl (pkT rfl rfl) rfl <| vl (mv rfl) rfl <| vQ rfl rfl rfl rfl (fun hc => fa FldO_fd_api_Field_2 rfl) rfl <| ?_
    have B_5 := B_5.later x_51
    refine vQ rfl rfl rfl rfl (fun hc => ld (gt hc rfl) (B_5.one FldO_ag_S_int rfl)) rfl <| vQ rfl rfl rfl rfl (fun hc => mv rfl) rfl <| ?_
    have OC_8 := OC_8.later x_51
    refine vC rfl rfl rfl rfl FldO_en_slices_Equal_S_int_int_ (fun hc => ec (gt hc rfl) (ec (gt hc rfl) rfl)) (fun hc => equal_Z _ _ _ _ _ _ f.places f.places _ (hP.keep z_50) OC_8.has) rfl fun w_53 x_54 => ?_
    have q_55 := x_54.size
    have z_53 := Ext.tr z_50 x_54
    refine vl (pA rfl rfl rfl rfl) rfl <| vl (as_ rfl) rfl <| nl <| nT <| rt <| tR (.tmp rfl .nil) <| ?_
    exact ⟨ret_true (by simp), z_53⟩
theorem fieldOwn_any (c0 : Array Value) (w : World) (h0 : (.cons (.int .i64) (.cons (.int .i64) (.cons (.slice (.int .i64) 8) .nil)) : Sh).Ok w c0.toList) :
    Calls Try.prog 4 #[.agg c0] w fun e w' => e = .returned (.bool true) ∧ Below w.heap.size w w' := by
  obtain ⟨f, A, cq, e0, hP, hkw, hkh⟩ := Fld.opens w _ (show Wd.fsh.Ok w c0.toList from h0)
  have hc : c0 = #[.int .i64 f.wide, .int .i64 f.high, .slice A f.places.length cq] := by rw [← e0]
  subst hc
  exact fieldOwn_walk f A cq w hP
end Go.Proofs.Ytkijhejjnlmbmaa
