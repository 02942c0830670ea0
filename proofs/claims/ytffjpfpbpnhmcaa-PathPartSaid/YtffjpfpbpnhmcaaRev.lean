/-
  A list, turned round pair by pair.
-/
import Derived.Test.YtffjpfpbpnhmcaaHp
set_option linter.unusedVariables false
set_option linter.unusedSimpArgs false
namespace Go.Proofs.Ytffjpfpbpnhmcaa
open Go.RowKit

namespace Rv
section
variable {α : Type} [Inhabited α] {l : List α} {k i : Nat}
/-- A list of which the outermost k pairs are turned. -/
def rv (l : List α) : Nat → List α
  | 0 => l
  | k + 1 => Hp.swp (rv l k) k (l.length - 1 - k)
theorem rv_len : (rv l k).length = l.length := by
  induction k with
  | zero => rfl
  | succ k ih => rw [rv, Hp.swp_len, ih]
theorem rv_perm : ∀ k, 2 * k ≤ l.length + 1 → (rv l k).Perm l := by
  intro k
  induction k with
  | zero => intro _; exact List.Perm.refl _
  | succ k ih =>
    intro hk
    rw [rv]
    exact (Hp.swp_perm (by rw [rv_len]; omega) (by rw [rv_len]; omega)).trans (ih (by omega))
theorem rv_get : ∀ k, 2 * k ≤ l.length → ∀ i, i < l.length → (rv l k).getD i default = if i < k ∨ l.length - 1 - i < k then l.getD (l.length - 1 - i) default else l.getD i default := by
  intro k
  induction k with
  | zero => intro _ i _; rw [if_neg (by omega)]; rfl
  | succ k ih =>
    intro hk i hi
    have hl := rv_len (l := l) (k := k)
    rw [rv, Hp.swp_get (by omega) (by omega)]
    by_cases e1 : i = l.length - 1 - k
    · rw [if_pos e1, ih (by omega) k (by omega), if_neg (by omega), if_pos (by omega)]
      congr 1; omega
    · rw [if_neg e1]
      by_cases e2 : i = k
      · rw [if_pos e2, ih (by omega) _ (by omega), if_neg (by omega), if_pos (by omega)]
        congr 1; omega
      · rw [if_neg e2, ih (by omega) i hi]
        by_cases e3 : i < k ∨ l.length - 1 - i < k
        · rw [if_pos e3, if_pos (by omega)]
        · rw [if_neg e3, if_neg (by omega)]
theorem rv_end (h : (l.length : Int) - 1 ≤ 2 * (k : Int)) (h2 : 2 * k ≤ l.length) : rv l k = l.reverse := by
  refine List.ext_getElem (by rw [rv_len, List.length_reverse]) fun i h1 h2' => ?_
  rw [rv_len] at h1
  have hg := rv_get k h2 i h1
  rw [List.getElem_reverse]
  have e : (rv l k).getD i default = (rv l k)[i]'(by rw [rv_len]; exact h1) := by rw [List.getD_eq_getElem?_getD, List.getElem?_eq_getElem]; rfl
  rw [← e, hg]
  split
  · rw [List.getD_eq_getElem?_getD, List.getElem?_eq_getElem (by omega)]; rfl
  · rw [List.getD_eq_getElem?_getD, List.getElem?_eq_getElem h1]
    have : l.length - 1 - i = i := by omega
    simp only [Option.getD_some, this]
end
end Rv
end Go.Proofs.Ytffjpfpbpnhmcaa
