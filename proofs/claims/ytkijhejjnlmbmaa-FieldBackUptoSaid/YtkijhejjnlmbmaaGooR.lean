/-
  goods.Worth. (Printed by bin/worth.py.)
-/
import Derived.Test.YtkijhejjnlmbmaaGooQ
set_option linter.unusedVariables false
set_option linter.unusedSimpArgs false
namespace Go.Proofs.Ytkijhejjnlmbmaa
open Go.RowKit

theorem GooR_ag_api_World : Ag Try.prog 46 true := fun _ => by kernel_rfl
theorem GooR_sz_api_World : Sz Try.prog 46 9 := fun _ => by kernel_rfl
theorem GooR_en_troop_Check : Enters Try.prog 27 := en Try.func27 (by kernel_rfl) (by kernel_rfl)
theorem GooR_fd_api_World_3 : Fd Try.prog 46 3 5 := fun _ _ _ => by kernel_rfl
theorem GooR_ag_S_int : Ag Try.prog 22 false := fun _ => by kernel_rfl
theorem GooR_fd_api_World_2 : Fd Try.prog 46 2 4 := fun _ _ _ => by kernel_rfl
theorem GooR_sz_int : Sz Try.prog 3 1 := fun _ => by kernel_rfl
theorem GooR_ag_int : Ag Try.prog 3 false := fun _ => by kernel_rfl
theorem GooR_fd_api_World_4 : Fd Try.prog 46 4 6 := fun _ _ _ => by kernel_rfl
theorem GooR_ag_S_api_Troop : Ag Try.prog 44 false := fun _ => by kernel_rfl
theorem GooR_sz_api_Troop : Sz Try.prog 51 7 := fun _ => by kernel_rfl
theorem GooR_ag_api_Troop : Ag Try.prog 51 true := fun _ => by kernel_rfl
theorem GooR_zv_api_Troop : Zv Try.prog 51 (.agg #[.int .i64 0, .int .i64 0, .int .i64 0, .int .i64 0, .int .i64 0, .int .i64 0, .int .i64 0]) := fun _ => by kernel_rfl
theorem GooR_fd_api_Troop_2 : Fd Try.prog 51 2 2 := fun _ _ _ => by kernel_rfl
theorem GooR_en_troop_Kind : Enters Try.prog 113 := en Try.func113 (by kernel_rfl) (by kernel_rfl)
theorem GooR_zv_api_Kind : Zv Try.prog 149 (.agg #[.int .i64 0, .int .i64 0, .int .i64 0, .int .i64 0]) := fun _ => by kernel_rfl
theorem GooR_sz_api_Kind : Sz Try.prog 149 4 := fun _ => by kernel_rfl
theorem GooR_fd_api_Troop_5 : Fd Try.prog 51 5 6 := fun _ _ _ => by kernel_rfl
theorem GooR_fd_api_Kind_3 : Fd Try.prog 149 3 3 := fun _ _ _ => by kernel_rfl
def wt (t : Trp) : Int := t.load + Wd.priceOf t.kind
/-- All there is. -/
def Wd.total (W : Wd) : Int := W.mines.sum + W.stocks.sum + (W.troops.map wt).sum
def Wd.worth (W : Wd) : Int := if W.chk = 0 then W.total else 0
theorem worth_bad {W : Wd} (h : ¬ W.chk = 0) : W.worth = 0 := by unfold Wd.worth; rw [if_neg h]
theorem worth_ok {W : Wd} (h : W.chk = 0) : W.worth = W.total := by unfold Wd.worth; rw [if_pos h]
theorem Good.chk0 {W : Wd} (h : Good W) : W.chk = 0 := h.chk
theorem sum_take {l : List Int} {k : Nat} (hk : k < l.length) : (l.take (k + 1)).sum = (l.take k).sum + l.getD k 0 := by
  rw [List.take_succ_eq_append_getElem hk, List.sum_append, List.getD_eq_getElem?_getD, List.getElem?_eq_getElem hk]; simp
theorem wt_take {l : List Trp} {k : Nat} (hk : k < l.length) : ((l.take (k + 1)).map wt).sum = ((l.take k).map wt).sum + wt (l.getD k default) := by
  rw [List.take_succ_eq_append_getElem hk, List.map_append, List.sum_append, List.getD_eq_getElem?_getD, List.getElem?_eq_getElem hk]; simp
theorem sum_bd {l : List Int} {k : Nat} (h : ∀ (i : Nat) x, l[i]? = some x → 0 ≤ x ∧ x ≤ 1000000) : 0 ≤ (l.take k).sum ∧ (l.take k).sum ≤ 1000000 * (l.length : Int) := by
  induction l generalizing k with
  | nil => simp
  | cons x r ih =>
    have hx := h 0 x rfl
    have hr := fun j => ih (k := j) fun i y hy => h (i + 1) y (by simpa using hy)
    cases k with
    | zero => simp only [List.take_zero, List.sum_nil, List.length_cons]; omega
    | succ k => have := hr k; simp only [List.take_succ_cons, List.sum_cons, List.length_cons]; omega
theorem wt_one {W : Wd} (hG : Good W) (k : Nat) (hk : k < W.troops.length) : 0 ≤ (W.troops.getD k default).load ∧ (W.troops.getD k default).load ≤ 5 ∧ 0 ≤ Wd.priceOf (W.troops.getD k default).kind ∧ Wd.priceOf (W.troops.getD k default).kind ≤ 12 := by
  have h := (hG.troops k _ (get_d (u := default) hk)).load
  have h2 : Wd.mostOf (W.troops.getD k default).kind ≤ 5 := by unfold Wd.mostOf; split <;> omega
  have h3 := price_le (W.troops.getD k default).kind
  omega
theorem wt_bd {W : Wd} {k : Nat} (hG : Good W) : 0 ≤ ((W.troops.take k).map wt).sum ∧ ((W.troops.take k).map wt).sum ≤ 17 * (k : Int) := by
  induction k with
  | zero => simp
  | succ k ih =>
    by_cases hk : k < W.troops.length
    · have h := wt_one hG k hk
      rw [wt_take hk]; unfold wt; unfold wt at ih; omega
    · rw [List.take_of_length_le (by omega)]; rw [List.take_of_length_le (by omega)] at ih; omega
end Go.Proofs.Ytkijhejjnlmbmaa
