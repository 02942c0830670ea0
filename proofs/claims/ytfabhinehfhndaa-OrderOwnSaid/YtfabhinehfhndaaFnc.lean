/-
  slices.IndexFunc, ContainsFunc, DeleteFunc over any closure. (Printed by bin/funcs.py.)
-/
import Derived.Test.YtfabhinehfhndaaGolC
import Derived.Test.YtfabhinehfhndaaWld
set_option linter.unusedVariables false
set_option linter.unusedSimpArgs false
namespace Go.Proofs.Ytfabhinehfhndaa
open Go.RowKit

section
variable {α : Type} {p : α → Bool} {l L : List α} {d : α} {i j k : Nat}
theorem mem_dd (h : k < l.length) : l.getD k d ∈ l := by rw [List.getD_eq_getElem?_getD, List.getElem?_eq_getElem h]; exact List.getElem_mem h
theorem getD_dd (h : k < l.length) : l.getD k d = l[k] := by rw [List.getD_eq_getElem?_getD, List.getElem?_eq_getElem h]; rfl
theorem idx_none_dd (h : ∀ i, i < l.length → p (l.getD i d) = false) : idxI p l = -1 := idxI_none fun j hj => by rw [← getD_dd (d := d) hj]; exact h j hj
theorem idx_some_dd (hk : k < l.length) (h1 : p (l.getD k d) = true) (h : ∀ i, i < k → p (l.getD i d) = false) : idxI p l = (k : Int) :=
  idxI_some hk (by rw [← getD_dd (d := d) hk]; exact h1) fun j hj => by rw [← getD_dd (d := d) (by omega : j < l.length)]; exact h j hj
theorem take_succ_dd (h : k < l.length) : l.take (k + 1) = l.take k ++ [l.getD k d] := by rw [List.take_succ_eq_append_getElem h, getD_dd h]
theorem idx_nofilter (h : idxI p l = -1) : (l.filter fun x => !p x) = l := by
  rcases idxI_cases p l with ⟨_, hn⟩ | ⟨k, hk, e, _⟩
  · exact List.filter_eq_self.2 fun x hx => by rw [hn x hx]; rfl
  · omega
theorem idx_first (h : ¬ idxI p l = -1) : ∃ k, k < l.length ∧ idxI p l = (k : Int) ∧ l.take k = (l.take (k + 1)).filter fun x => !p x := by
  rcases idxI_cases p l with ⟨e, _⟩ | ⟨k, hk, e, hp, hn⟩
  · exact absurd e h
  · refine ⟨k, hk, e, ?_⟩
    rw [take_succ_dd (d := l[k]) hk, List.filter_append, getD_dd hk, List.filter_cons, hp]
    simp only [Bool.not_true, Bool.false_eq_true, if_false, List.filter_nil, List.append_nil]
    refine (List.filter_eq_self.2 fun x hx => ?_).symm
    obtain ⟨j, hj, rfl⟩ := List.mem_iff_getElem.1 hx
    rw [List.length_take] at hj
    rw [List.getElem_take, hn j (by omega)]; rfl
theorem suf_get (hL : j < L.length) (hj : j < l.length) (h : L.drop j = l.drop j) : L[j]? = some (l.getD j d) := by
  rw [getD_dd hj, List.getElem?_eq_getElem hL]
  have := congrArg List.head? h
  simp only [List.head?_drop, List.getElem?_eq_getElem hL, List.getElem?_eq_getElem hj] at this
  exact this
theorem drop_succ (h : L.drop j = l.drop j) : L.drop (j + 1) = l.drop (j + 1) := by
  have := congrArg (List.drop 1) h
  rwa [List.drop_drop, List.drop_drop] at this
theorem del_suf {x : α} (hi : i < j) (h : L.drop j = l.drop j) : (L.set i x).drop (j + 1) = l.drop (j + 1) := by
  rw [List.drop_set_of_lt (by omega)]; exact drop_succ h
theorem del_drop (hj : j < l.length) (h : L.take i = (l.take j).filter fun x => !p x) (hp : (!p (l.getD j d)) = false) : L.take i = (l.take (j + 1)).filter fun x => !p x := by
  rw [take_succ_dd (d := d) hj, List.filter_append, ← h, List.filter_cons, hp]; simp
theorem del_keep (hL : L.length = l.length) (hi : i < j) (hj : j < l.length) (h : L.take i = (l.take j).filter fun x => !p x) (hp : (!p (l.getD j d)) = true) : (L.set i (l.getD j d)).take (i + 1) = (l.take (j + 1)).filter fun x => !p x := by
  rw [take_succ_dd (d := d) hj, List.filter_append, ← h, List.filter_cons, hp]
  simp only [if_true, List.filter_nil]
  rw [List.take_succ_eq_append_getElem (by rw [List.length_set]; omega), List.take_set_of_le (by omega), List.getElem_set_self]
end
end Go.Proofs.Ytfabhinehfhndaa
