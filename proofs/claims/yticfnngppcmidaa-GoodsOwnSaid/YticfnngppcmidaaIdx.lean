/-
  The first place at which something holds, or -1.
-/
import Derived.Test.YticfnngppcmidaaBase
namespace Go.Proofs.Yticfnngppcmidaa
def idxI {α : Type} (p : α → Bool) (l : List α) : Int := match l.findIdx? p with | some k => (k : Int) | none => -1
theorem idxI_some {α : Type} {p : α → Bool} {l : List α} {k : Nat} (hk : k < l.length) (h1 : p l[k] = true) (h2 : ∀ j (hj : j < k), p (l[j]'(by omega)) = false) : idxI p l = (k : Int) := by
  unfold idxI
  have : l.findIdx? p = some k := by
    rw [List.findIdx?_eq_some_iff_getElem]
    exact ⟨hk, h1, fun j hj => by rw [h2 j hj]; simp⟩
  rw [this]
theorem idxI_none {α : Type} {p : α → Bool} {l : List α} (h2 : ∀ j (hj : j < l.length), p l[j] = false) : idxI p l = -1 := by
  unfold idxI
  have : l.findIdx? p = none := by
    rw [List.findIdx?_eq_none_iff]
    intro x hx
    obtain ⟨j, hj, rfl⟩ := List.mem_iff_getElem.1 hx
    exact h2 j hj
  rw [this]
theorem idxI_any {α : Type} (p : α → Bool) (l : List α) : decide (0 ≤ idxI p l) = l.any p := by
  by_cases h : ∀ j (hj : j < l.length), p l[j] = false
  · rw [idxI_none h]
    have : l.any p = false := by
      rw [List.any_eq_false]
      intro x hx
      obtain ⟨j, hj, rfl⟩ := List.mem_iff_getElem.1 hx
      rw [h j hj]; simp
    rw [this]; rfl
  · have : l.any p = true := by
      rw [List.any_eq_true]
      simp only [Classical.not_forall] at h
      obtain ⟨j, hj, h⟩ := h
      exact ⟨l[j], List.getElem_mem hj, by simpa using h⟩
    rw [this]
    unfold idxI
    cases hf : l.findIdx? p with
    | none =>
      rw [List.findIdx?_eq_none_iff] at hf
      rw [List.any_eq_true] at this
      obtain ⟨x, hx, hp⟩ := this
      rw [hf x hx] at hp; cases hp
    | some k => simp
theorem idxI_cases {α : Type} (p : α → Bool) (l : List α) : idxI p l = -1 ∧ (∀ x ∈ l, p x = false) ∨ ∃ (k : Nat) (h : k < l.length), idxI p l = (k : Int) ∧ p l[k] = true ∧ ∀ j (hj : j < k), p (l[j]'(by omega)) = false := by
  unfold idxI
  cases hf : l.findIdx? p with
  | none => exact .inl ⟨rfl, fun x hx => List.findIdx?_eq_none_iff.1 hf x hx⟩
  | some k =>
    obtain ⟨h1, h2, h3⟩ := List.findIdx?_eq_some_iff_getElem.1 hf
    exact .inr ⟨k, h1, rfl, h2, fun j hj => by have := h3 j hj; simpa using this⟩
end Go.Proofs.Yticfnngppcmidaa
