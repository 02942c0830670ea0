/-
  Right worlds, told by pairs of troops: what stays of a right world if some of its troops go.
-/
import Derived.Test.YtfabhinehfhndaaWld
set_option linter.unusedVariables false
set_option linter.unusedSimpArgs false
namespace Go.Proofs.Ytfabhinehfhndaa
open Go.RowKit

def Apart (s t : Trp) : Prop := s.id < t.id ∧ s.spot ≠ t.spot
theorem getD_of {α : Type} [Inhabited α] {l : List α} {i : Nat} {t : α} (h : l[i]? = some t) : l.getD i default = t := by rw [List.getD_eq_getElem?_getD, h]; rfl
theorem Good.ids_up {W : Wd} (hG : Good W) {i j : Nat} {s t : Trp} (hij : i < j) (hs : W.troops[i]? = some s) (ht : W.troops[j]? = some t) : s.id < t.id := by
  induction j generalizing t with
  | zero => omega
  | succ j ih =>
    have hj := (List.getElem?_eq_some_iff.1 ht).1
    obtain ⟨u, hu⟩ := get_of (l := W.troops) (i := j) (by omega)
    have h1 := (hG.ids (j + 1) t ht).1
    have h2 : W.lastId (j + 1) = u.id := by
      unfold Wd.lastId
      rw [if_neg (by omega), Nat.add_sub_cancel, getD_of hu]
    rcases Nat.lt_succ_iff_lt_or_eq.1 hij with h | rfl
    · have := ih h hu; omega
    · rw [hs] at hu; injection hu with hu; subst hu; omega
theorem Good.pw {W : Wd} (hG : Good W) : W.troops.Pairwise Apart := by
  rw [List.pairwise_iff_getElem]
  intro i j hi hj hij
  have hs := List.getElem?_eq_getElem hi
  have ht := List.getElem?_eq_getElem hj
  refine ⟨hG.ids_up hij hs ht, fun e => ?_⟩
  have h1 := hG.spots j _ ht
  rw [← e] at h1
  have : (W.spots j).contains (W.troops[i]).spot = true := by
    rw [List.contains_iff_mem]
    unfold Wd.spots
    exact List.mem_map.2 ⟨_, List.mem_iff_getElem?.2 ⟨i, by rw [List.getElem?_take, if_pos hij, hs]⟩, rfl⟩
  rw [this] at h1
  exact nomatch h1
end Go.Proofs.Ytfabhinehfhndaa
