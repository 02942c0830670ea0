/-
  slices.IndexFunc, ContainsFunc, DeleteFunc over any closure. (Printed by bin/funcs.py.)
-/
import Derived.Test.YtfabhinehfhndaaGolC
import Derived.Test.YtfabhinehfhndaaWld
set_option linter.unusedVariables false
set_option linter.unusedSimpArgs false
namespace Go.Proofs.Ytfabhinehfhndaa
open Go.RowKit

section
variable {α : Type} {p : α → Bool} {l L : List α} {d : α} {i j k : Nat}
theorem mem_dd (h : k < l.length) : l.getD k d ∈ l := by rw [List.getD_eq_getElem?_getD, List.getElem?_eq_getElem h]; exact List.getElem_mem h
theorem getD_dd (h : k < l.length) : l.getD k d = l[k] := by rw [List.getD_eq_getElem?_getD, List.getElem?_eq_getElem h]; rfl
theorem take_succ_dd (h : k < l.length) : l.take (k + 1) = l.take k ++ [l.getD k d] := by rw [List.take_succ_eq_append_getElem h, getD_dd h]
end
end Go.Proofs.Ytfabhinehfhndaa
