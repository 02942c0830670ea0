/-
  slices.Equal. (Printed by bin/eqgen.py.)
-/
import Derived.Test.YtfabhinehfhndaaGol
import Derived.Test.YtfabhinehfhndaaWld
set_option linter.unusedVariables false
set_option linter.unusedSimpArgs false
namespace Go.Proofs.Ytfabhinehfhndaa
open Go.RowKit

theorem eq_all {α : Type} {l m : List α} {k : Nat} (h1 : l.length = m.length) (hk : l.length ≤ k) (h : ∀ j, j < k → l[j]? = m[j]?) : l = m := by
  apply List.ext_getElem?
  intro j
  by_cases hj : j < k
  · exact h j hj
  · rw [List.getElem?_eq_none (by omega), List.getElem?_eq_none (by omega)]
theorem ne_of_nb {α : Type} [DecidableEq α] {a b : α} (h : (!decide (a = b)) = true) : ¬ a = b := by simpa using h
theorem eq_of_nb {α : Type} [DecidableEq α] {a b : α} (h : (!decide (a = b)) = false) : a = b := by simpa using h
end Go.Proofs.Ytfabhinehfhndaa
