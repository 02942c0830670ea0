/-
  The plain laws of deeds: what there is stays what it was worth; field, bases, time and troops stay.
  The plain law of deeds in two goes, and of those that were done.
  slices.Clone of deeds and bools. (Printed by bin/goodslaw3.py.)
-/
import Derived.Test.YtkijhejjnlmbmaaLawA
import Derived.Test.YtkijhejjnlmbmaaClone
import Derived.Test.YtkijhejjnlmbmaaGol
set_option linter.unusedVariables false
set_option linter.unusedSimpArgs false
namespace Go.Proofs.Ytkijhejjnlmbmaa
open Go.RowKit

/-- What deeds leave of a world. -/
structure Kept (W V : Wd) : Prop where
  field : V.field = W.field
  bases : V.bases = W.bases
  now : V.now = W.now
  next : V.next = W.next + ((V.troops.length : Int) - W.troops.length)
  len : W.troops.length ≤ V.troops.length
  old : ∀ (i : Nat) (t : Trp), W.troops[i]? = some t → ∃ u : Trp, V.troops[i]? = some u ∧ { u with load := t.load } = t
  new : ∀ (i : Nat) (u : Trp), W.troops.length ≤ i → V.troops[i]? = some u → W.next ≤ u.id
theorem Kept.rf (W : Wd) : Kept W W := ⟨rfl, rfl, rfl, by omega, Nat.le_refl _, fun i t h => ⟨t, h, rfl⟩, fun i u h hu => by
  rw [List.getElem?_eq_none (by omega)] at hu; cases hu⟩
theorem Kept.tr {U V W : Wd} (h : Kept U V) (k : Kept V W) : Kept U W where
  field := k.field.trans h.field
  bases := k.bases.trans h.bases
  now := k.now.trans h.now
  next := by rw [k.next, h.next]; omega
  len := Nat.le_trans h.len k.len
  old i t ht := by
    obtain ⟨u, hu, e⟩ := h.old i t ht
    obtain ⟨x, hx, e2⟩ := k.old i u hu
    refine ⟨x, hx, ?_⟩
    rw [← e, ← e2]
  new i u hi hu := by
    by_cases h1 : i < V.troops.length
    · obtain ⟨t, ht⟩ := get_of h1
      obtain ⟨x, hx, e⟩ := k.old i t ht
      rw [hu] at hx
      obtain rfl := Option.some.inj hx
      have := h.new i t hi ht
      have e3 : t.id = u.id := by rw [← e]
      omega
    · have h2 := k.new i u (by omega) hu
      have := h.next
      have := h.len
      omega
/-- Those of a list that are marked. -/
def picked : List Ded → List Bool → List Ded
  | d :: l, b :: bs => if b then d :: picked l bs else picked l bs
  | _, _ => []
end Go.Proofs.Ytkijhejjnlmbmaa
