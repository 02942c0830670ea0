/-
  A rock between; who is among cells. (Printed by bin/sightlaw.py.)
-/
import Derived.Test.YticfnngppcmidaaSigS
import Derived.Test.YticfnngppcmidaaFldR
set_option linter.unusedVariables false
set_option linter.unusedSimpArgs false
namespace Go.Proofs.Yticfnngppcmidaa
open Go.RowKit

theorem SigL_en_field_Read : Enters Try.prog 63 := en Try.func63 (by kernel_rfl) (by kernel_rfl)
theorem SigL_zv_api_Field : Zv Try.prog 24 (.agg #[.int .i64 0, .int .i64 0, .slice none 0 0]) := fun _ => by kernel_rfl
theorem SigL_sz_api_Field : Sz Try.prog 24 3 := fun _ => by kernel_rfl
theorem SigL_ag_api_Field : Ag Try.prog 24 true := fun _ => by kernel_rfl
theorem SigL_en_sight_Sees : Enters Try.prog 46 := en Try.func46 (by kernel_rfl) (by kernel_rfl)
theorem SigL_sz_int : Sz Try.prog 3 1 := fun _ => by kernel_rfl
theorem SigL_ag_int : Ag Try.prog 3 false := fun _ => by kernel_rfl
theorem SigL_en_slices_Index_S_int_int_ : Enters Try.prog 61 := en Try.func61 (by kernel_rfl) (by kernel_rfl)
theorem SigL_ag_api_Cell : Ag Try.prog 37 true := fun _ => by kernel_rfl
theorem SigL_sz_api_Cell : Sz Try.prog 37 2 := fun _ => by kernel_rfl
theorem SigL_eqs_api_Cell : EqS Try.prog Cel.cells 37 := by
  intro a b w
  obtain ⟨a0, a1⟩ := a
  obtain ⟨b0, b1⟩ := b
  simp only [Cel.cells, Cel.mk.injEq]
  constructor
  · go_simp
    repeat' split
    all_goals simp_all
  · go_simp
    repeat' split
    all_goals simp_all
theorem SigL_eqg_api_Cell : (Try.prog).eqGuardType (Try.prog).depth 37 = false := by kernel_rfl
theorem SigL_en_slices_Index_S_api_Cell_api_Cell_ : Enters Try.prog 64 := en Try.func64 (by kernel_rfl) (by kernel_rfl)
def sightF : Fld := ⟨3, 2, [0, 1, 0, 0, 0, 0]⟩
theorem read_sight (w : World) : Calls Try.prog 63 #[.string (bytesS [46, 35, 46, 10, 46, 46, 46, 10])] w fun e w' => ∃ A c, e = .returned (.tuple #[.agg #[.int .i64 sightF.wide, .int .i64 sightF.high, .slice A sightF.places.length c], .int .i64 0]) ∧ repI.SOwn 3 8 w' w.heap.size (Rep.blkOf A) A c sightF.places ∧ Ext w w' := by
  have e1 : readW (bytesS [46, 35, 46, 10, 46, 46, 46, 10]) = sightF := by decide +kernel
  have e2 : readE (bytesS [46, 35, 46, 10, 46, 46, 46, 10]) = 0 := by decide +kernel
  have := read_any (bytesS [46, 35, 46, 10, 46, 46, 46, 10]) w (by decide)
  rw [e1, e2] at this
  exact this
theorem idx_none_d {α : Type} [Inhabited α] {p : α → Bool} {l : List α} (h : ∀ i, i < l.length → p (l.getD i default) = false) : idxI p l = -1 :=
  idxI_none fun j hj => by have := h j hj; rwa [List.getD_eq_getElem?_getD, List.getElem?_eq_getElem hj] at this
theorem idx_some_d {α : Type} [Inhabited α] {p : α → Bool} {l : List α} {k : Nat} (hk : k < l.length) (h1 : p (l.getD k default) = true) (h : ∀ i, i < k → p (l.getD i default) = false) : idxI p l = (k : Int) :=
  idxI_some hk (by rwa [List.getD_eq_getElem?_getD, List.getElem?_eq_getElem hk] at h1) fun j hj => by have := h j hj; rwa [List.getD_eq_getElem?_getD, List.getElem?_eq_getElem (by omega : j < l.length)] at this
set_option maxRecDepth 100000 in
set_option maxHeartbeats 400000 in
theorem sightLives_any  (w : World) :
    Calls Try.prog 47 #[] w (fun e w' => e = .returned (.bool true) ∧ Ext w w') := by
  refine calls_W (n := 42) Try.func47 rfl rfl rfl ?_
  refine sq <| rg <| vl (as_ rfl) rfl <| nl <| nT <| sq <| rg <| ca SigL_en_field_Read rfl rfl ((read_sight _).mono ?_)
  rintro e w_4 ⟨A_1, c_1, rfl, OR_1, x_5⟩
  refine ⟨_, rfl, ?_⟩
  have q_6 := x_5.size
  have z_4 := Ext.tr (Ext.rf w) x_5
  have u_2 := fun q hq => (OR_1.lt q hq).2
  have lo_3 := fun q hq => (OR_1.lt q hq).1
  refine vl (mv rfl) rfl <| vl (ex rfl rfl) rfl <| vl (ex rfl rfl) rfl <| al rfl SigL_zv_api_Field rfl rfl fun w_7 b_8 x_9 l_10 B_11 => ?_
  have q_12 := x_9.size
  have z_7 := Ext.tr z_4 x_9
  have q_13 := B_11.lt
  refine st (new := [.int .i64 sightF.wide, .int .i64 sightF.high, .slice A_1 sightF.places.length c_1]) rfl rfl B_11 rfl SigL_sz_api_Field rfl rfl rfl fun w_14 m_15 B_11 => ?_
  have q_17 := m_15.size
  have z_14 := Ext.mod z_7 m_15 (by simp only [List.mem_singleton, forall_eq]; omega)
  have q_16 := m_15.size
  refine vl (as_ rfl) rfl <| nl <| nT <| sq <| rg <| vl (ld rfl (B_11.all SigL_ag_api_Field SigL_sz_api_Field)) rfl <| vl (v := .agg #[.int .i64 0, .int .i64 0]) (bd rfl (by kernel_rfl)) rfl <| vl (v := .agg #[.int .i64 2, .int .i64 0]) (bd rfl (by kernel_rfl)) rfl <| ?_
  have OR_1 := OR_1.later x_9
  have OR_1 := OR_1.mod m_15 (fun q hq h => by have hb := List.mem_singleton.1 h; exfalso; (have := u_2 q hq; omega))
  refine ca SigL_en_sight_Sees rfl rfl ((sees_any sightF (⟨0, 0⟩ : Cel) (⟨2, 0⟩ : Cel) _ _ _ OR_1.has).mono ?_)
  rintro e w_18 ⟨rfl, x_19⟩
  refine ⟨_, rfl, ?_⟩
  have q_20 := x_19.size
  have z_18 := Ext.tr z_14 x_19
  refine vl (mv rfl) rfl <| vl (ex rfl rfl) rfl <| vl (ex rfl rfl) rfl <| vl (as_ rfl) rfl <| vl (as_ rfl) rfl <| nl <| nT <| sq <| rg <| ?_
  have B_11 := B_11.later x_19
  refine vl (ld rfl (B_11.all SigL_ag_api_Field SigL_sz_api_Field)) rfl <| vl (v := .agg #[.int .i64 0, .int .i64 1]) (bd rfl (by kernel_rfl)) rfl <| vl (v := .agg #[.int .i64 2, .int .i64 1]) (bd rfl (by kernel_rfl)) rfl <| ?_
  have OR_1 := OR_1.later x_19
  refine ca SigL_en_sight_Sees rfl rfl ((sees_any sightF (⟨0, 1⟩ : Cel) (⟨2, 1⟩ : Cel) _ _ _ OR_1.has).mono ?_)
  rintro e w_21 ⟨rfl, x_22⟩
  refine ⟨_, rfl, ?_⟩
  have q_23 := x_22.size
  have z_21 := Ext.tr z_18 x_22
  refine vl (mv rfl) rfl <| vl (ex rfl rfl) rfl <| vl (ex rfl rfl) rfl <| vl (as_ rfl) rfl <| vl (as_ rfl) rfl <| nl <| nT <| sq <| rg <| vl (mv rfl) rfl <| vl (beq rfl rfl) rfl <| vl (mv rfl) rfl <| ug rfl rfl rfl <| vl (mv rfl) rfl <| ug rfl rfl rfl <| vl (beq rfl rfl) rfl <| vl (pkT rfl rfl) rfl <| vl (mv rfl) rfl <| vQ rfl rfl rfl rfl (fun hc => mv rfl) rfl <| vQ rfl rfl rfl rfl (fun hc => beq (gt hc rfl) rfl) rfl <| vl (pA rfl rfl rfl rfl) rfl <| vl (mv rfl) rfl <| vQ rfl rfl rfl rfl (fun hc => mv rfl) rfl <| vQ rfl rfl rfl rfl (fun hc => nt (gt hc rfl)) rfl <| ?_
  refine vl (pA rfl rfl rfl rfl) rfl <| vl (mv rfl) rfl <| vQ rfl rfl rfl rfl (fun hc => mv rfl) rfl <| vl (pA rfl rfl rfl rfl) rfl <| vl (as_ rfl) rfl <| nl <| nT <| rt <| tR (.tmp rfl .nil) <| ?_
  exact ⟨ret_true (by decide +kernel), z_21⟩
set_option maxRecDepth 100000 in
set_option maxHeartbeats 400000 in
theorem index_I (x : Int) (A : Option Addr) (c : Nat) (l : List Int) (w : World) (hl : repI.SHas 8 w A c l) :
    Calls Try.prog 61 #[.slice A l.length c, .int .i64 x] w (fun e w' => e = .returned (.int .i64 (idxI (fun y => x == y) l)) ∧ Ext w w') := by
  have hll := hl.len_le
  refine calls_W (n := 19) Try.func61 rfl rfl rfl ?_
  refine sq <| rg <| vl (as_ rfl) rfl <| nl <| nT <| sq <| sq <| rg <| vl (mv rfl) rfl <| vl (ln Try.underlying22 rfl) rfl <| vl (mv rfl) rfl <| nl <| nT <| bk <| ?_
  refine lp (fun mI EI wI => ∃ k : Nat, EI = [(0, .slice A l.length c), (1, .int .i64 x), (7, .int .i64 (l.length : Int)), (8, .int .i64 (k : Int))] ∧ mI = l.length - k ∧ Ext w wI ∧ (k ≤ l.length) ∧ (∀ i, i < k → ((fun y => x == y)) (l.getD i 0) = false)) _ _ ⟨0, rfl, rfl, (Ext.rf w), by omega, fun i hi => by omega⟩ (.cons rfl (.cons rfl (.cons rfl (.cons (loI rfl (by first | omega | rfl | (simp <;> omega))) .nil)))) ?_
  rintro m_2 E_3 w_1 ⟨k, rfl, rfl, z_1, hk, hg⟩
  have q_4 := z_1.size
  refine sq <| rg <| vl (blt rfl rfl) rfl <| nl <| nT <| sq <| ?_
  refine clt rfl (fun h_5 => ?_) (fun h_5 => ?_)
  · refine sk <| nT <| sq <| bk <| sq <| rg <| vl (mv rfl) rfl <| vl (as_ rfl) rfl <| nl <| nT <| sq <| rg <| vl (mv rfl) rfl <| vl (mv rfl) rfl <| vl (mv rfl) rfl <| vl (iA k Try.underlying22 SigL_sz_int rfl rfl ((hl.keep z_1).adr (Nat.zero_lt_of_lt (show k < _ from (by omega)))) rfl (by omega)) rfl <| vl (ld rfl (Rep.SHas.one' hcI ((hl.keep z_1).adh (Nat.zero_lt_of_lt (show k < _ from (by omega)))) (get_d (l := l) (u := 0) (by omega)) rfl SigL_ag_int)) rfl <| vl (beq rfl rfl) rfl <| nl <| nT <| ?_
    refine ceq rfl (fun h_6 => ?_) (fun h_6 => ?_)
    · refine sq <| rg <| vl (mv rfl) rfl <| vl (as_ rfl) rfl <| nl <| nT <| rt <| tB <| tT <| tK <| tB <| tT <| tR (.tmp rfl .nil) <| ?_
      exact ⟨by have e := idx_some_d (p := (fun y => x == y)) (l := l) (k := k) (by omega) (by simpa using h_6) hg; rw [e]; rfl, z_1⟩
    · refine sk <| nB <| nT <| rg <| vl (bad rfl rfl (inI (by omega))) rfl <| vl (mv rfl) rfl <| nl <| ?_
      exact nI _ _ ⟨k + 1, rfl, rfl, z_1, by omega, lt_succ_all hg (by simpa using h_6)⟩ (by omega) (.cons rfl (.cons rfl (.cons rfl (.cons (loI rfl (by first | omega | rfl | (simp <;> omega))) .nil))))
  · refine xt <| xT <| xK <| xB <| nT <| sq <| rg <| vl (as_ rfl) rfl <| nl <| nT <| rt <| tR (.tmp rfl .nil) <| ?_
    exact ⟨by have e := idx_none_d (p := (fun y => x == y)) (l := l) (fun i hi => hg i (by omega)); rw [e]; rfl, z_1⟩
set_option maxRecDepth 100000 in
set_option maxHeartbeats 400000 in
theorem contains_I (x : Int) (A : Option Addr) (c : Nat) (l : List Int) (w : World) (hl : repI.SHas 8 w A c l) :
    Calls Try.prog 45 #[.slice A l.length c, .int .i64 x] w (fun e w' => e = .returned (.bool (l.any (fun y => x == y))) ∧ Ext w w') := by
  refine calls_W (n := 9) Try.func45 rfl rfl rfl ?_
  refine sq <| rg <| vl (as_ rfl) rfl <| nl <| nT <| sq <| rg <| vl (mv rfl) rfl <| vl (mv rfl) rfl <| ca SigL_en_slices_Index_S_int_int_ rfl rfl ((index_I x _ _ l _ (hl.keep (Ext.rf w))).mono ?_)
  rintro e w_1 ⟨rfl, x_2⟩
  refine ⟨_, rfl, ?_⟩
  have q_3 := x_2.size
  have z_1 := Ext.tr (Ext.rf w) x_2
  refine vl (bge rfl rfl) rfl <| vl (as_ rfl) rfl <| nl <| nT <| rt <| tR (.tmp rfl .nil) <| ?_
  exact ⟨by rw [idxI_any]; rfl, z_1⟩
set_option maxRecDepth 100000 in
set_option maxHeartbeats 400000 in
theorem index_C (x : Cel) (A : Option Addr) (c : Nat) (l : List Cel) (w : World) (hl : Cel.rep.SHas 16 w A c l) :
    Calls Try.prog 64 #[.slice A l.length c, .agg #[.int .i64 x.x, .int .i64 x.y]] w (fun e w' => e = .returned (.int .i64 (idxI (fun y => decide (x = y)) l)) ∧ Ext w w') := by
  have hll := hl.len_le
  refine calls_W (n := 19) Try.func64 rfl rfl rfl ?_
  refine sq <| rg <| bx rfl rfl rfl rfl fun w_1 b_2 x_3 l_4 B_5 => ?_
  have q_6 := x_3.size
  have z_1 := Ext.tr (Ext.rf w) x_3
  have q_7 := B_5.lt
  refine vl (as_ rfl) rfl <| nl <| nT <| sq <| sq <| rg <| vl (mv rfl) rfl <| vl (ln Try.underlying25 rfl) rfl <| vl (mv rfl) rfl <| nl <| nT <| bk <| ?_
  refine lp (fun mI EI wI => ∃ k : Nat, EI = [(0, .slice A l.length c), (3, .pointer (some ⟨b_2, 0, none⟩)), (7, .int .i64 (l.length : Int)), (8, .int .i64 (k : Int))] ∧ mI = l.length - k ∧ Ext w wI ∧ Blk wI b_2 [.int .i64 x.x, .int .i64 x.y] 37 (0, 0) ∧ (k ≤ l.length) ∧ (∀ i, i < k → ((fun y => decide (x = y))) (l.getD i default) = false)) _ _ ⟨0, rfl, rfl, z_1, B_5, by omega, fun i hi => by omega⟩ (.cons rfl (.cons rfl (.cons rfl (.cons (loI rfl (by first | omega | rfl | (simp <;> omega))) .nil)))) ?_
  rintro m_9 E_10 w_8 ⟨k, rfl, rfl, z_8, B_5, hk, hg⟩
  have q_11 := z_8.size
  have q_12 := B_5.lt
  refine sq <| rg <| vl (blt rfl rfl) rfl <| nl <| nT <| sq <| ?_
  refine clt rfl (fun h_13 => ?_) (fun h_13 => ?_)
  · refine sk <| nT <| sq <| bk <| sq <| rg <| vl (mv rfl) rfl <| vl (as_ rfl) rfl <| nl <| nT <| sq <| ?_
    refine rd [(0, 0), (4, 0)] [0, 1, 2, 3, 4, 5] (by kernel_rfl) (by kernel_rfl) ?_
    refine fq rfl rfl (fun _ x => ld rfl ((B_5.later x).all SigL_ag_api_Cell SigL_sz_api_Cell)) rfl <| fw rfl rfl (fun _ => mv rfl) rfl <| fw rfl rfl (fun _ => mv rfl) rfl <| fw rfl rfl (fun _ => iA k Try.underlying25 SigL_sz_api_Cell rfl rfl ((hl.keep z_8).adr (Nat.zero_lt_of_lt (show k < _ from (by omega)))) rfl (by omega)) rfl <| fq rfl rfl (fun _ x => ld rfl (Rep.SHas.elt hcC ((hl.keep (Ext.tr z_8 x)).adh (Nat.zero_lt_of_lt (show k < _ from (by omega)))) (get_d (l := l) (u := default) (by omega)) SigL_ag_api_Cell SigL_sz_api_Cell)) rfl <| fw rfl rfl (fun _ => bqS SigL_eqs_api_Cell SigL_eqg_api_Cell (p := x) (q := l.getD k default) rfl rfl) rfl <| fn fun w_14 x_15 => ?_
    have q_16 := x_15.size
    have z_14 := Ext.tr z_8 x_15
    refine nT <| ?_
    refine cb rfl (fun h_17 => ?_) (fun h_17 => ?_)
    · refine sq <| rg <| vl (mv rfl) rfl <| vl (as_ rfl) rfl <| nl <| nT <| rt <| tB <| tT <| tK <| tB <| tT <| tR (.tmp rfl .nil) <| ?_
      exact ⟨by have e := idx_some_d (p := (fun y => decide (x = y))) (l := l) (k := k) (by omega) h_17 hg; rw [e]; rfl, z_14⟩
    · refine sk <| nB <| nT <| rg <| vl (bad rfl rfl (inI (by omega))) rfl <| vl (mv rfl) rfl <| nl <| ?_
      have B_5 := B_5.later x_15
      exact nI _ _ ⟨k + 1, rfl, rfl, z_14, B_5, by omega, lt_succ_all hg h_17⟩ (by omega) (.cons rfl (.cons rfl (.cons rfl (.cons (loI rfl (by first | omega | rfl | (simp <;> omega))) .nil))))
  · refine xt <| xT <| xK <| xB <| nT <| sq <| rg <| vl (as_ rfl) rfl <| nl <| nT <| rt <| tR (.tmp rfl .nil) <| ?_
    exact ⟨by have e := idx_none_d (p := (fun y => decide (x = y))) (l := l) (fun i hi => hg i (by omega)); rw [e]; rfl, z_8⟩
set_option maxRecDepth 100000 in
set_option maxHeartbeats 400000 in
theorem contains_C (x : Cel) (A : Option Addr) (c : Nat) (l : List Cel) (w : World) (hl : Cel.rep.SHas 16 w A c l) :
    Calls Try.prog 49 #[.slice A l.length c, .agg #[.int .i64 x.x, .int .i64 x.y]] w (fun e w' => e = .returned (.bool (l.any (fun y => decide (x = y)))) ∧ Ext w w') := by
  refine calls_W (n := 9) Try.func49 rfl rfl rfl ?_
  refine sq <| rg <| bx rfl rfl rfl rfl fun w_1 b_2 x_3 l_4 B_5 => ?_
  have q_6 := x_3.size
  have z_1 := Ext.tr (Ext.rf w) x_3
  have q_7 := B_5.lt
  refine vl (as_ rfl) rfl <| nl <| nT <| sq <| rg <| vl (mv rfl) rfl <| vl (ld rfl (B_5.all SigL_ag_api_Cell SigL_sz_api_Cell)) rfl <| ca SigL_en_slices_Index_S_api_Cell_api_Cell_ rfl rfl ((index_C x _ _ l _ (hl.keep z_1)).mono ?_)
  rintro e w_8 ⟨rfl, x_9⟩
  refine ⟨_, rfl, ?_⟩
  have q_10 := x_9.size
  have z_8 := Ext.tr z_1 x_9
  refine vl (bge rfl rfl) rfl <| vl (as_ rfl) rfl <| nl <| nT <| rt <| tR (.tmp rfl .nil) <| ?_
  exact ⟨by rw [idxI_any]; rfl, z_8⟩
end Go.Proofs.Yticfnngppcmidaa
