/-
  slices.IndexFunc, ContainsFunc, DeleteFunc over any closure. (Printed by bin/funcs.py.)
-/
import Derived.Test.YtfabhinehfhndaaGolC
import Derived.Test.YtfabhinehfhndaaWld
set_option linter.unusedVariables false
set_option linter.unusedSimpArgs false
namespace Go.Proofs.Ytfabhinehfhndaa
open Go.RowKit

section
variable {α : Type} {p : α → Bool} {l L : List α} {d : α} {i j k : Nat}
theorem mem_dd (h : k < l.length) : l.getD k d ∈ l := by rw [List.getD_eq_getElem?_getD, List.getElem?_eq_getElem h]; exact List.getElem_mem h
theorem getD_dd (h : k < l.length) : l.getD k d = l[k] := by rw [List.getD_eq_getElem?_getD, List.getElem?_eq_getElem h]; rfl
theorem idx_none_dd (h : ∀ i, i < l.length → p (l.getD i d) = false) : idxI p l = -1 := idxI_none fun j hj => by rw [← getD_dd (d := d) hj]; exact h j hj
theorem idx_some_dd (hk : k < l.length) (h1 : p (l.getD k d) = true) (h : ∀ i, i < k → p (l.getD i d) = false) : idxI p l = (k : Int) :=
  idxI_some hk (by rw [← getD_dd (d := d) hk]; exact h1) fun j hj => by rw [← getD_dd (d := d) (by omega : j < l.length)]; exact h j hj
theorem take_succ_dd (h : k < l.length) : l.take (k + 1) = l.take k ++ [l.getD k d] := by rw [List.take_succ_eq_append_getElem h, getD_dd h]
end
end Go.Proofs.Ytfabhinehfhndaa
