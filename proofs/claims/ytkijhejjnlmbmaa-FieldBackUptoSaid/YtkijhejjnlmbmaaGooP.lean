/-
  A troop is hired. (Printed by bin/gooP.py.)
-/
import Derived.Test.YtkijhejjnlmbmaaGooI
import Derived.Test.YtkijhejjnlmbmaaGooK
set_option linter.unusedVariables false
set_option linter.unusedSimpArgs false
namespace Go.Proofs.Ytkijhejjnlmbmaa
open Go.RowKit

theorem GooP_ag_int : Ag Try.prog 3 false := fun _ => by kernel_rfl
theorem GooP_en_troop_Kind : Enters Try.prog 113 := en Try.func113 (by kernel_rfl) (by kernel_rfl)
theorem GooP_zv_api_Kind : Zv Try.prog 149 (.agg #[.int .i64 0, .int .i64 0, .int .i64 0, .int .i64 0]) := fun _ => by kernel_rfl
theorem GooP_sz_api_Kind : Sz Try.prog 149 4 := fun _ => by kernel_rfl
theorem GooP_fd_api_World_1 : Fd Try.prog 46 1 3 := fun _ _ _ => by kernel_rfl
theorem GooP_ag_S_api_Cell : Ag Try.prog 43 false := fun _ => by kernel_rfl
theorem GooP_fd_api_World_2 : Fd Try.prog 46 2 4 := fun _ _ _ => by kernel_rfl
theorem GooP_ag_S_int : Ag Try.prog 22 false := fun _ => by kernel_rfl
theorem GooP_sz_int : Sz Try.prog 3 1 := fun _ => by kernel_rfl
theorem GooP_fd_api_Kind_3 : Fd Try.prog 149 3 3 := fun _ _ _ => by kernel_rfl
theorem GooP_fd_api_World_4 : Fd Try.prog 46 4 6 := fun _ _ _ => by kernel_rfl
theorem GooP_ag_S_api_Troop : Ag Try.prog 44 false := fun _ => by kernel_rfl
theorem GooP_fd_api_World_5 : Fd Try.prog 46 5 7 := fun _ _ _ => by kernel_rfl
theorem GooP_sz_api_Cell : Sz Try.prog 42 2 := fun _ => by kernel_rfl
theorem GooP_ag_api_Cell : Ag Try.prog 42 true := fun _ => by kernel_rfl
theorem GooP_zv_api_Cell : Zv Try.prog 42 (.agg #[.int .i64 0, .int .i64 0]) := fun _ => by kernel_rfl
theorem GooP_fd_api_Kind_0 : Fd Try.prog 149 0 0 := fun _ _ _ => by kernel_rfl
theorem GooP_el_S_api_Troop : ElT Try.prog Trp.rep 44 51 56 := ElT.mk_ (z := Trp.zero) (k := 7) Try.underlying44 Trp.info rfl rfl (by decide) Trp.zero_raw
theorem GooP_sz_S_api_Troop : Sz Try.prog 44 1 := fun _ => by kernel_rfl
theorem price_le (k : Int) : 0 ≤ Wd.priceOf k ∧ Wd.priceOf k ≤ 12 := by unfold Wd.priceOf; split <;> (try split) <;> omega
theorem life_le (k : Int) : 0 ≤ Wd.lifeOf k ∧ Wd.lifeOf k ≤ 20 := by unfold Wd.lifeOf; split <;> (try split) <;> omega
theorem kindE_ok {k : Int} : (kindE k != 0) = !inB k 1 2 := by
  unfold kindE
  by_cases h1 : k = 1
  · subst h1; rfl
  · by_cases h2 : k = 2
    · subst h2; rfl
    · rw [if_neg h1, if_neg h2, inB_not (by omega)]; rfl
theorem hire_guard {W : Wd} {d : Ded} (hG : Good W) (h : (((((decide (d.who < 0) || decide ((W.bases.length : Int) ≤ d.who)) || kindE d.what != 0) || decide (W.stocks.getD d.who.toNat 0 < Wd.priceOf d.what)) || decide (100 ≤ (W.troops.length : Int))) || decide (1000000 ≤ W.next)) = false) :
    0 ≤ d.who ∧ d.who < (W.bases.length : Int) ∧ inB d.what 1 2 = true ∧ Wd.priceOf d.what ≤ W.stocks.getD d.who.toNat 0 ∧ W.troops.length < 100 ∧ W.next < 1000000 := by
  simp only [Bool.or_eq_false_iff, decide_eq_false_iff_not, kindE_ok, Bool.not_eq_false'] at h
  obtain ⟨⟨⟨⟨⟨h1, h2⟩, h3⟩, h4⟩, h5⟩, h6⟩ := h
  exact ⟨by omega, by omega, h3, by omega, by omega, by omega⟩
theorem hire_no {W : Wd} {d : Ded} (hG : Good W) (h : (((((decide (d.who < 0) || decide ((W.bases.length : Int) ≤ d.who)) || kindE d.what != 0) || decide (W.stocks.getD d.who.toNat 0 < Wd.priceOf d.what)) || decide (100 ≤ (W.troops.length : Int))) || decide (1000000 ≤ W.next)) = true) : W.hire d = none := by
  unfold Wd.hire
  rw [if_neg]
  intro hc
  simp only [Bool.and_eq_true, decide_eq_true_eq] at hc
  obtain ⟨⟨⟨⟨c1, c2⟩, c3⟩, c4⟩, c5⟩ := hc
  have c1 := inB_true c1
  simp only [kindE_ok, c2, Bool.or_eq_true, decide_eq_true_eq, Bool.not_true, Bool.false_eq_true, or_false] at h
  omega
theorem hire_cond {W : Wd} {d : Ded} (h1 : 0 ≤ d.who) (h2 : d.who < (W.bases.length : Int)) (h3 : inB d.what 1 2 = true) (h4 : Wd.priceOf d.what ≤ W.stocks.getD d.who.toNat 0) (h5 : W.troops.length < 100) (h6 : W.next < 1000000) :
    (inB d.who 0 ((W.bases.length : Int) - 1) && inB d.what 1 2 && decide (Wd.priceOf d.what ≤ W.stocks.getD d.who.toNat 0) && decide (W.troops.length < 100) && decide (W.next < 1000000)) = true := by
  rw [inB_mk h1 (by omega), h3, decide_eq_true h4, decide_eq_true h5, decide_eq_true h6]; rfl
theorem hire_none {W : Wd} {d : Ded} (h1 : 0 ≤ d.who) (h2 : d.who < (W.bases.length : Int)) (h3 : inB d.what 1 2 = true) (h4 : Wd.priceOf d.what ≤ W.stocks.getD d.who.toNat 0) (h5 : W.troops.length < 100) (h6 : W.next < 1000000) (h : (!(W.free (W.bases.getD d.who.toNat default)).isSome) = true) : W.hire d = none := by
  unfold Wd.hire
  simp only [hire_cond h1 h2 h3 h4 h5 h6, if_true]
  rw [Bool.not_eq_true', Option.isSome_eq_false_iff, Option.isNone_iff_eq_none] at h
  rw [h]
theorem hire_done {W : Wd} {d : Ded} {c : Cel} (h1 : 0 ≤ d.who) (h2 : d.who < (W.bases.length : Int)) (h3 : inB d.what 1 2 = true) (h4 : Wd.priceOf d.what ≤ W.stocks.getD d.who.toNat 0) (h5 : W.troops.length < 100) (h6 : W.next < 1000000) (hc : (W.free (W.bases.getD d.who.toNat default)).getD ⟨0, 0⟩ = c) (h : (!(W.free (W.bases.getD d.who.toNat default)).isSome) = false) :
    W.hire d = some { W with troops := W.troops ++ [⟨W.next, d.who, d.what, c, Wd.lifeOf d.what, 0⟩], next := W.next + 1, stocks := W.stocks.set d.who.toNat (W.stocks.getD d.who.toNat 0 - Wd.priceOf d.what) } := by
  unfold Wd.hire
  simp only [hire_cond h1 h2 h3 h4 h5 h6, if_true]
  cases hf : W.free (W.bases.getD d.who.toNat default) with
  | none => rw [hf] at h; cases h
  | some c' => rw [hf] at hc; obtain rfl : c' = c := hc; rfl
theorem hire_base {W : Wd} {d : Ded} (hG : Good W) (h1 : 0 ≤ d.who) (h2 : d.who < (W.bases.length : Int)) : (0 ≤ (W.bases.getD d.who.toNat default).x ∧ (W.bases.getD d.who.toNat default).x ≤ 100 ∧ 0 ≤ (W.bases.getD d.who.toNat default).y ∧ (W.bases.getD d.who.toNat default).y ≤ 100) ∧ d.who.toNat < W.bases.length := by
  have hlt : d.who.toNat < W.bases.length := by omega
  have := (hG.bases _ _ (get_d (u := default) hlt)).1
  obtain ⟨i1, i2, i3, i4, i5, i6⟩ := Fld.idx hG.field (Fld.ground_in this)
  obtain ⟨y1, y2, y3, y4, _, _⟩ := Fld.good hG.field
  exact ⟨⟨by omega, by omega, by omega, by omega⟩, hlt⟩
theorem free_cell {W : Wd} {p c : Cel} (hp : 0 ≤ p.x ∧ p.x ≤ 100 ∧ 0 ≤ p.y ∧ p.y ≤ 100) (hc : (W.free p).getD ⟨0, 0⟩ = c) : -1 ≤ c.x ∧ c.x ≤ 101 ∧ -1 ≤ c.y ∧ c.y ≤ 101 := by
  cases hf : W.free p with
  | none => rw [hf] at hc; subst hc; decide
  | some q =>
    rw [hf] at hc
    obtain rfl : q = c := hc
    have := List.mem_of_find?_eq_some hf
    simp only [Wd.around, List.mem_cons, List.not_mem_nil, or_false] at this
    rcases this with rfl | rfl | rfl | rfl | rfl | rfl | rfl | rfl | rfl | rfl <;> (try dsimp only) <;> omega
end Go.Proofs.Ytkijhejjnlmbmaa
