/-
  Right worlds, told by pairs of troops: what stays of a right world if some of its troops go.
-/
import Derived.Test.YtkijhejjnlmbmaaWld
set_option linter.unusedVariables false
set_option linter.unusedSimpArgs false
namespace Go.Proofs.Ytkijhejjnlmbmaa
open Go.RowKit

def Apart (s t : Trp) : Prop := s.id < t.id ∧ s.spot ≠ t.spot
theorem getD_of {α : Type} [Inhabited α] {l : List α} {i : Nat} {t : α} (h : l[i]? = some t) : l.getD i default = t := by rw [List.getD_eq_getElem?_getD, h]; rfl
theorem Good.ids_up {W : Wd} (hG : Good W) {i j : Nat} {s t : Trp} (hij : i < j) (hs : W.troops[i]? = some s) (ht : W.troops[j]? = some t) : s.id < t.id := by
  induction j generalizing t with
  | zero => omega
  | succ j ih =>
    have hj := (List.getElem?_eq_some_iff.1 ht).1
    obtain ⟨u, hu⟩ := get_of (l := W.troops) (i := j) (by omega)
    have h1 := (hG.ids (j + 1) t ht).1
    have h2 : W.lastId (j + 1) = u.id := by
      unfold Wd.lastId
      rw [if_neg (by omega), Nat.add_sub_cancel, getD_of hu]
    rcases Nat.lt_succ_iff_lt_or_eq.1 hij with h | rfl
    · have := ih h hu; omega
    · rw [hs] at hu; injection hu with hu; subst hu; omega
theorem Good.pw {W : Wd} (hG : Good W) : W.troops.Pairwise Apart := by
  rw [List.pairwise_iff_getElem]
  intro i j hi hj hij
  have hs := List.getElem?_eq_getElem hi
  have ht := List.getElem?_eq_getElem hj
  refine ⟨hG.ids_up hij hs ht, fun e => ?_⟩
  have h1 := hG.spots j _ ht
  rw [← e] at h1
  have : (W.spots j).contains (W.troops[i]).spot = true := by
    rw [List.contains_iff_mem]
    unfold Wd.spots
    exact List.mem_map.2 ⟨_, List.mem_iff_getElem?.2 ⟨i, by rw [List.getElem?_take, if_pos hij, hs]⟩, rfl⟩
  rw [this] at h1
  exact nomatch h1
theorem Good.each {W : Wd} (hG : Good W) {t : Trp} (ht : t ∈ W.troops) : 0 < t.id ∧ t.id < W.next ∧ TroopOk W.field W.bases.length t := by
  obtain ⟨i, hi⟩ := List.mem_iff_getElem?.1 ht
  have h1 := hG.ids i t hi
  exact ⟨by omega, h1.2.1, hG.troops i t hi⟩
theorem Good.of_pw {W V : Wd} (hG : Good W) (hf : V.field = W.field) (hb : V.bases = W.bases) (hs : V.stocks = W.stocks) (hm : V.mines = W.mines) (hn : V.next = W.next) (ho : 0 ≤ V.now ∧ V.now ≤ 1000000) (hl : V.troops.length ≤ 100) (hP : V.troops.Pairwise Apart)
    (hall : ∀ t ∈ V.troops, 0 < t.id ∧ t.id < V.next ∧ TroopOk V.field V.bases.length t) : Good V where
  field := by rw [hf]; exact hG.field
  nb := by rw [hb]; exact hG.nb
  nt := hl
  sl := by rw [hs, hb]; exact hG.sl
  bases := by rw [hb, hf]; exact hG.bases
  stocks := by rw [hs]; exact hG.stocks
  ml := by rw [hm, hf]; exact hG.ml
  mines := by rw [hm, hf]; exact hG.mines
  troops := fun i t ht => (hall t (List.mem_of_getElem? ht)).2.2
  ids := fun i t ht => by
    have h1 := hall t (List.mem_of_getElem? ht)
    unfold Wd.lastId
    split
    · exact ⟨h1.1, h1.2.1, Int.le_refl _⟩
    · rename_i h0
      have hi := (List.getElem?_eq_some_iff.1 ht).1
      obtain ⟨u, hu⟩ := get_of (l := V.troops) (i := i - 1) (by omega)
      rw [getD_of hu]
      have h2 := hall u (List.mem_of_getElem? hu)
      have h3 := (List.pairwise_iff_getElem.1 hP) (i - 1) i (by omega) hi (by omega)
      have e1 : V.troops[i - 1]'(by omega) = u := (List.getElem?_eq_some_iff.1 hu).2
      have e2 : V.troops[i] = t := (List.getElem?_eq_some_iff.1 ht).2
      rw [e1, e2] at h3
      exact ⟨h3.1, h1.2.1, by omega⟩
  spots := fun i t ht => by
    rw [Bool.eq_false_iff]
    intro hc
    rw [List.contains_iff_mem] at hc
    unfold Wd.spots at hc
    obtain ⟨s, hs1, hs2⟩ := List.mem_map.1 hc
    obtain ⟨j, hj⟩ := List.mem_iff_getElem?.1 hs1
    rw [List.getElem?_take] at hj
    split at hj
    · rename_i hji
      have hi := (List.getElem?_eq_some_iff.1 ht).1
      have h3 := (List.pairwise_iff_getElem.1 hP) j i (by omega) hi hji
      have e1 : V.troops[j]'(by omega) = s := (List.getElem?_eq_some_iff.1 hj).2
      have e2 : V.troops[i] = t := (List.getElem?_eq_some_iff.1 ht).2
      rw [e1, e2] at h3
      exact h3.2 hs2
    · exact nomatch hj
  next := by rw [hn]; exact hG.next
  now := ho
end Go.Proofs.Ytkijhejjnlmbmaa
