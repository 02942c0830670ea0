/-
  slices.Equal. (Printed by bin/eqgen.py.)
-/
import Derived.Test.YtffjpfpbpnhmcaaGol
import Derived.Test.YtffjpfpbpnhmcaaWld
set_option linter.unusedVariables false
set_option linter.unusedSimpArgs false
namespace Go.Proofs.Ytffjpfpbpnhmcaa
open Go.RowKit

theorem Eql_sz_api_Cell : Sz Try.prog 32 2 := fun _ => by kernel_rfl
theorem Eql_ag_api_Cell : Ag Try.prog 32 true := fun _ => by kernel_rfl
theorem Eql_eqs_api_Cell : EqS Try.prog Cel.cells 32 := by
  intro a b w
  obtain ⟨a0, a1⟩ := a
  obtain ⟨b0, b1⟩ := b
  simp only [Cel.cells, Cel.mk.injEq]
  constructor
  · go_simp
    repeat' split
    all_goals simp_all
  · go_simp
    repeat' split
    all_goals simp_all
theorem Eql_eqg_api_Cell : (Try.prog).eqGuardType (Try.prog).depth 32 = false := by kernel_rfl
theorem eq_all {α : Type} {l m : List α} {k : Nat} (h1 : l.length = m.length) (hk : l.length ≤ k) (h : ∀ j, j < k → l[j]? = m[j]?) : l = m := by
  apply List.ext_getElem?
  intro j
  by_cases hj : j < k
  · exact h j hj
  · rw [List.getElem?_eq_none (by omega), List.getElem?_eq_none (by omega)]
theorem ne_of_nb {α : Type} [DecidableEq α] {a b : α} (h : (!decide (a = b)) = true) : ¬ a = b := by simpa using h
theorem eq_of_nb {α : Type} [DecidableEq α] {a b : α} (h : (!decide (a = b)) = false) : a = b := by simpa using h
set_option maxRecDepth 100000 in
set_option maxHeartbeats 400000 in
theorem equal_C (A B : Option Addr) (c d b1 b2 : Nat) (l m : List Cel) (w : World) (h1 : Cel.rep.SHas b1 w A c l) (h2 : Cel.rep.SHas b2 w B d m) :
    Calls Try.prog 23 #[.slice A l.length c, .slice B m.length d] w (fun e w' => e = .returned (.bool (decide (l = m))) ∧ Ext w w') := by
  have hle := h1.len_le
  refine calls_W (n := 26) Try.func23 rfl rfl rfl ?_
  refine sq <| rg <| vl (as_ rfl) rfl <| nl <| nT <| sq <| sq <| rg <| vl (mv rfl) rfl <| vl (ln Try.underlying25 rfl) rfl <| vl (mv rfl) rfl <| vl (ln Try.underlying25 rfl) rfl <| vl (bne rfl rfl) rfl <| nl <| nT <| ?_
  refine cne rfl (fun h_1 => ?_) (fun h_1 => ?_)
  · refine sq <| rg <| vl (as_ rfl) rfl <| nl <| nT <| rt <| tT <| tR (.tmp rfl .nil) <| ?_
    rw [decide_eq_false (fun e => h_1 (by rw [e]))]
    exact ⟨rfl, (Ext.rf w)⟩
  · refine sk <| nT <| sq <| sq <| rg <| vl (mv rfl) rfl <| vl (ln Try.underlying25 rfl) rfl <| vl (mv rfl) rfl <| nl <| nT <| bk <| ?_
    refine lp (fun mI EI wI => ∃ k : Nat, EI = [(0, .slice A l.length c), (1, .slice B m.length d), (12, .int .i64 (l.length : Int)), (13, .int .i64 (k : Int))] ∧ mI = l.length - k ∧ Ext w wI ∧ (k ≤ l.length) ∧ (∀ j, j < k → l[j]? = m[j]?)) _ _ ⟨0, rfl, rfl, (Ext.rf w), by omega, fun j hj => absurd hj (by omega)⟩ (.cons rfl (.cons rfl (.cons rfl (.cons (loI rfl (by first | omega | rfl | (simp <;> omega))) .nil)))) ?_
    rintro m_3 E_4 w_2 ⟨k, rfl, rfl, z_2, hk, hk2⟩
    have q_5 := z_2.size
    have hle := h1.len_le
    have hle2 := h2.len_le
    refine sq <| rg <| vl (blt rfl rfl) rfl <| nl <| nT <| sq <| ?_
    refine clt rfl (fun h_6 => ?_) (fun h_6 => ?_)
    · obtain ⟨x1, hx1⟩ := get_of (l := l) (i := k) (by omega)
      obtain ⟨y1, hy1⟩ := get_of (l := m) (i := k) (by omega)
      refine sk <| nT <| sq <| bk <| sq <| rg <| vl (mv rfl) rfl <| vl (as_ rfl) rfl <| nl <| nT <| sq <| ?_
      refine rd [(3, 0), (7, 0)] [0, 1, 2, 3, 4, 5, 6, 7, 8] (by kernel_rfl) (by kernel_rfl) ?_
      refine fw rfl rfl (fun _ => mv rfl) rfl <| fw rfl rfl (fun _ => mv rfl) rfl <| fw rfl rfl (fun _ => iA k Try.underlying25 Eql_sz_api_Cell rfl rfl ((h1.keep z_2).adr (Nat.zero_lt_of_lt (show k < _ from (by omega)))) rfl (by omega)) rfl <| fq rfl rfl (fun _ x => ld rfl (Rep.SHas.elt hcC (by rw [← (h1.keep (Ext.tr z_2 x)).adr (Nat.zero_lt_of_lt (show k < _ from (by omega)))]; exact (h1.keep (Ext.tr z_2 x))) hx1 Eql_ag_api_Cell Eql_sz_api_Cell)) rfl <| fw rfl rfl (fun _ => mv rfl) rfl <| fw rfl rfl (fun _ => mv rfl) rfl <| fw rfl rfl (fun _ => iA k Try.underlying25 Eql_sz_api_Cell rfl rfl ((h2.keep z_2).adr (Nat.zero_lt_of_lt (show k < _ from (by omega)))) rfl (by omega)) rfl <| fq rfl rfl (fun _ x => ld rfl (Rep.SHas.elt hcC (by rw [← (h2.keep (Ext.tr z_2 x)).adr (Nat.zero_lt_of_lt (show k < _ from (by omega)))]; exact (h2.keep (Ext.tr z_2 x))) hy1 Eql_ag_api_Cell Eql_sz_api_Cell)) rfl <| fw rfl rfl (fun _ => bnS Eql_eqs_api_Cell Eql_eqg_api_Cell (p := x1) (q := y1) rfl rfl) rfl <| fn fun w_7 x_8 => ?_
      have q_9 := x_8.size
      have z_7 := Ext.tr z_2 x_8
      refine nT <| ?_
      refine cb rfl (fun h_10 => ?_) (fun h_10 => ?_)
      · refine sq <| rg <| vl (as_ rfl) rfl <| nl <| nT <| rt <| tB <| tT <| tK <| tB <| tT <| tR (.tmp rfl .nil) <| ?_
        rw [decide_eq_false (fun e => by rw [e, hy1] at hx1; injection hx1 with hx1; exact absurd hx1.symm (by first | exact ne_of_nb h_10 | exact h_10))]
        exact ⟨rfl, z_7⟩
      · refine sk <| nB <| nT <| rg <| vl (bad rfl rfl (inI (by omega))) rfl <| vl (mv rfl) rfl <| nl <| ?_
        exact nI _ _ ⟨k + 1, rfl, rfl, z_7, by omega, lt_succ_all hk2 (by rw [hx1, hy1, (by first | exact eq_of_nb h_10 | exact h_10 : x1 = y1)])⟩ (by omega) (.cons rfl (.cons rfl (.cons rfl (.cons (loI rfl (by first | omega | rfl | (simp <;> omega))) .nil))))
    · refine xt <| xT <| xK <| xB <| nT <| sq <| rg <| vl (as_ rfl) rfl <| nl <| nT <| rt <| tR (.tmp rfl .nil) <| ?_
      rw [decide_eq_true (eq_all (by omega) (by omega) hk2)]
      exact ⟨rfl, z_2⟩
end Go.Proofs.Ytffjpfpbpnhmcaa
