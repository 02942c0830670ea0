/-
  slices.IndexFunc, ContainsFunc, DeleteFunc over any closure. (Printed by bin/funcs.py.)
-/
import Derived.Test.YtffjpfpbpnhmcaaGolC
import Derived.Test.YtffjpfpbpnhmcaaWld
set_option linter.unusedVariables false
set_option linter.unusedSimpArgs false
namespace Go.Proofs.Ytffjpfpbpnhmcaa
open Go.RowKit

section
variable {α : Type} {p : α → Bool} {l L : List α} {d : α} {i j k : Nat}
theorem mem_dd (h : k < l.length) : l.getD k d ∈ l := by rw [List.getD_eq_getElem?_getD, List.getElem?_eq_getElem h]; exact List.getElem_mem h
theorem getD_dd (h : k < l.length) : l.getD k d = l[k] := by rw [List.getD_eq_getElem?_getD, List.getElem?_eq_getElem h]; rfl
end
end Go.Proofs.Ytffjpfpbpnhmcaa
