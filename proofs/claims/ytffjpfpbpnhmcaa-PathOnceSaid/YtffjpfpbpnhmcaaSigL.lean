/-
  A rock between; who is among cells. (Printed by bin/sightlaw.py.)
-/
import Derived.Test.YtffjpfpbpnhmcaaSigS
import Derived.Test.YtffjpfpbpnhmcaaFldR
set_option linter.unusedVariables false
set_option linter.unusedSimpArgs false
namespace Go.Proofs.Ytffjpfpbpnhmcaa
open Go.RowKit

theorem SigL_ag_api_Cell : Ag Try.prog 32 true := fun _ => by kernel_rfl
theorem SigL_sz_api_Cell : Sz Try.prog 32 2 := fun _ => by kernel_rfl
theorem SigL_eqs_api_Cell : EqS Try.prog Cel.cells 32 := by
  intro a b w
  obtain ⟨a0, a1⟩ := a
  obtain ⟨b0, b1⟩ := b
  simp only [Cel.cells, Cel.mk.injEq]
  constructor
  · go_simp
    repeat' split
    all_goals simp_all
  · go_simp
    repeat' split
    all_goals simp_all
theorem SigL_eqg_api_Cell : (Try.prog).eqGuardType (Try.prog).depth 32 = false := by kernel_rfl
theorem SigL_en_slices_Index_S_api_Cell_api_Cell_ : Enters Try.prog 61 := en Try.func61 (by kernel_rfl) (by kernel_rfl)
def sightF : Fld := ⟨3, 2, [0, 1, 0, 0, 0, 0]⟩
theorem idx_none_d {α : Type} [Inhabited α] {p : α → Bool} {l : List α} (h : ∀ i, i < l.length → p (l.getD i default) = false) : idxI p l = -1 :=
  idxI_none fun j hj => by have := h j hj; rwa [List.getD_eq_getElem?_getD, List.getElem?_eq_getElem hj] at this
theorem idx_some_d {α : Type} [Inhabited α] {p : α → Bool} {l : List α} {k : Nat} (hk : k < l.length) (h1 : p (l.getD k default) = true) (h : ∀ i, i < k → p (l.getD i default) = false) : idxI p l = (k : Int) :=
  idxI_some hk (by rwa [List.getD_eq_getElem?_getD, List.getElem?_eq_getElem hk] at h1) fun j hj => by have := h j hj; rwa [List.getD_eq_getElem?_getD, List.getElem?_eq_getElem (by omega : j < l.length)] at this
set_option maxRecDepth 100000 in
set_option maxHeartbeats 400000 in
theorem index_C (x : Cel) (A : Option Addr) (c : Nat) (l : List Cel) (w : World) (hl : Cel.rep.SHas 16 w A c l) :
    Calls Try.prog 61 #[.slice A l.length c, .agg #[.int .i64 x.x, .int .i64 x.y]] w (fun e w' => e = .returned (.int .i64 (idxI (fun y => decide (x = y)) l)) ∧ Ext w w') := by
  have hll := hl.len_le
  refine calls_W (n := 19) Try.func61 rfl rfl rfl ?_
  refine sq <| rg <| bx rfl rfl rfl rfl fun w_1 b_2 x_3 l_4 B_5 => ?_
  have q_6 := x_3.size
  have z_1 := Ext.tr (Ext.rf w) x_3
  have q_7 := B_5.lt
  refine vl (as_ rfl) rfl <| nl <| nT <| sq <| sq <| rg <| vl (mv rfl) rfl <| vl (ln Try.underlying25 rfl) rfl <| vl (mv rfl) rfl <| nl <| nT <| bk <| ?_
  refine lp (fun mI EI wI => ∃ k : Nat, EI = [(0, .slice A l.length c), (3, .pointer (some ⟨b_2, 0, none⟩)), (7, .int .i64 (l.length : Int)), (8, .int .i64 (k : Int))] ∧ mI = l.length - k ∧ Ext w wI ∧ Blk wI b_2 [.int .i64 x.x, .int .i64 x.y] 32 (0, 0) ∧ (k ≤ l.length) ∧ (∀ i, i < k → ((fun y => decide (x = y))) (l.getD i default) = false)) _ _ ⟨0, rfl, rfl, z_1, B_5, by omega, fun i hi => by omega⟩ (.cons rfl (.cons rfl (.cons rfl (.cons (loI rfl (by first | omega | rfl | (simp <;> omega))) .nil)))) ?_
  rintro m_9 E_10 w_8 ⟨k, rfl, rfl, z_8, B_5, hk, hg⟩
  have q_11 := z_8.size
  have q_12 := B_5.lt
  refine sq <| rg <| vl (blt rfl rfl) rfl <| nl <| nT <| sq <| ?_
  refine clt rfl (fun h_13 => ?_) (fun h_13 => ?_)
  · refine sk <| nT <| sq <| bk <| sq <| rg <| vl (mv rfl) rfl <| vl (as_ rfl) rfl <| nl <| nT <| sq <| ?_
    refine rd [(0, 0), (4, 0)] [0, 1, 2, 3, 4, 5] (by kernel_rfl) (by kernel_rfl) ?_
    refine fq rfl rfl (fun _ x => ld rfl ((B_5.later x).all SigL_ag_api_Cell SigL_sz_api_Cell)) rfl <| fw rfl rfl (fun _ => mv rfl) rfl <| fw rfl rfl (fun _ => mv rfl) rfl <| fw rfl rfl (fun _ => iA k Try.underlying25 SigL_sz_api_Cell rfl rfl ((hl.keep z_8).adr (Nat.zero_lt_of_lt (show k < _ from (by omega)))) rfl (by omega)) rfl <| fq rfl rfl (fun _ x => ld rfl (Rep.SHas.elt hcC ((hl.keep (Ext.tr z_8 x)).adh (Nat.zero_lt_of_lt (show k < _ from (by omega)))) (get_d (l := l) (u := default) (by omega)) SigL_ag_api_Cell SigL_sz_api_Cell)) rfl <| fw rfl rfl (fun _ => bqS SigL_eqs_api_Cell SigL_eqg_api_Cell (p := x) (q := l.getD k default) rfl rfl) rfl <| fn fun w_14 x_15 => ?_
    have q_16 := x_15.size
    have z_14 := Ext.tr z_8 x_15
    refine nT <| ?_
    refine cb rfl (fun h_17 => ?_) (fun h_17 => ?_)
    · refine sq <| rg <| vl (mv rfl) rfl <| vl (as_ rfl) rfl <| nl <| nT <| rt <| tB <| tT <| tK <| tB <| tT <| tR (.tmp rfl .nil) <| ?_
      exact ⟨by have e := idx_some_d (p := (fun y => decide (x = y))) (l := l) (k := k) (by omega) h_17 hg; rw [e]; rfl, z_14⟩
    · refine sk <| nB <| nT <| rg <| vl (bad rfl rfl (inI (by omega))) rfl <| vl (mv rfl) rfl <| nl <| ?_
      have B_5 := B_5.later x_15
      exact nI _ _ ⟨k + 1, rfl, rfl, z_14, B_5, by omega, lt_succ_all hg h_17⟩ (by omega) (.cons rfl (.cons rfl (.cons rfl (.cons (loI rfl (by first | omega | rfl | (simp <;> omega))) .nil))))
  · refine xt <| xT <| xK <| xB <| nT <| sq <| rg <| vl (as_ rfl) rfl <| nl <| nT <| rt <| tR (.tmp rfl .nil) <| ?_
    exact ⟨by have e := idx_none_d (p := (fun y => decide (x = y))) (l := l) (fun i hi => hg i (by omega)); rw [e]; rfl, z_8⟩
set_option maxRecDepth 100000 in
set_option maxHeartbeats 400000 in
theorem contains_C (x : Cel) (A : Option Addr) (c : Nat) (l : List Cel) (w : World) (hl : Cel.rep.SHas 16 w A c l) :
    Calls Try.prog 24 #[.slice A l.length c, .agg #[.int .i64 x.x, .int .i64 x.y]] w (fun e w' => e = .returned (.bool (l.any (fun y => decide (x = y)))) ∧ Ext w w') := by
  refine calls_W (n := 9) Try.func24 rfl rfl rfl ?_
  refine sq <| rg <| bx rfl rfl rfl rfl fun w_1 b_2 x_3 l_4 B_5 => ?_
  have q_6 := x_3.size
  have z_1 := Ext.tr (Ext.rf w) x_3
  have q_7 := B_5.lt
  refine vl (as_ rfl) rfl <| nl <| nT <| sq <| rg <| vl (mv rfl) rfl <| vl (ld rfl (B_5.all SigL_ag_api_Cell SigL_sz_api_Cell)) rfl <| ca SigL_en_slices_Index_S_api_Cell_api_Cell_ rfl rfl ((index_C x _ _ l _ (hl.keep z_1)).mono ?_)
  rintro e w_8 ⟨rfl, x_9⟩
  refine ⟨_, rfl, ?_⟩
  have q_10 := x_9.size
  have z_8 := Ext.tr z_1 x_9
  refine vl (bge rfl rfl) rfl <| vl (as_ rfl) rfl <| nl <| nT <| rt <| tR (.tmp rfl .nil) <| ?_
  exact ⟨by rw [idxI_any]; rfl, z_8⟩
end Go.Proofs.Ytffjpfpbpnhmcaa
