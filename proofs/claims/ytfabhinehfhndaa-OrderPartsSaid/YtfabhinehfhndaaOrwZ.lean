/-
  Orders that may be told.
-/
import Derived.Test.YtfabhinehfhndaaOrds
set_option linter.unusedVariables false
set_option linter.unusedSimpArgs false
namespace Go.Proofs.Ytfabhinehfhndaa
open Go.RowKit

theorem ordsE_zero {l : List Odr} (h : ordsE l = 0) : l.length ≤ 100 ∧ ∀ o ∈ l, o.chk = 0 := by
  unfold ordsE at h
  split at h
  · cases h
  · refine ⟨by omega, fun o ho => ?_⟩
    split at h
    · rename_i x hx
      have := List.find?_some hx
      rw [h] at this; exact nomatch this
    · rename_i hx
      have := List.find?_eq_none.1 hx o ho
      simpa using this
end Go.Proofs.Ytfabhinehfhndaa
