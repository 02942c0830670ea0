/-
  A load is brought in. (Printed by bin/gooD.py.)
-/
import Derived.Test.YtkijhejjnlmbmaaGooB
set_option linter.unusedVariables false
set_option linter.unusedSimpArgs false
namespace Go.Proofs.Ytkijhejjnlmbmaa
open Go.RowKit

theorem drop_eq {W : Wd} {d : Ded} {k : Nat} {t : Trp} {b : Cel} {s : Int} (hf : W.troops.findIdx? (isId d.who) = some k) (ht : W.troops[k]? = some t) (hb : W.bases[t.owner.toNat]? = some b) (hs : W.stocks[t.owner.toNat]? = some s) :
    W.drop d = if t.load != 0 && beside b t.spot && decide (0 < min t.load (1000000 - s)) then
      some { W with stocks := W.stocks.set t.owner.toNat (s + min t.load (1000000 - s)), troops := W.troops.set k (Wd.addLoad t (-(min t.load (1000000 - s)))) } else none := by
  have hg : W.troops.getD k default = t := by rw [List.getD_eq_getElem?_getD, ht]; rfl
  have hg2 : W.bases.getD t.owner.toNat default = b := by rw [List.getD_eq_getElem?_getD, hb]; rfl
  have hg3 : W.stocks.getD t.owner.toNat 0 = s := by rw [List.getD_eq_getElem?_getD, hs]; rfl
  unfold Wd.drop
  rw [hf]
  simp only [hg, hg2, hg3]
theorem set_same {α : Type} {l : List α} {i : Nat} {x : α} (h : l[i]? = some x) : l.set i x = l := by
  apply List.ext_getElem?
  intro j
  by_cases e : i = j
  · subst e
    rw [List.getElem?_set_self (List.getElem?_eq_some_iff.1 h).1, h]
  · rw [List.getElem?_set_ne e]
theorem drop_val {W : Wd} {d : Ded} {k : Nat} {t : Trp} {b : Cel} {s : Int} (ht : W.troops[k]? = some t) (hs : W.stocks[t.owner.toNat]? = some s) (hl : ¬ t.load = 0) (hb : beside b t.spot = true)
    (h : W.drop d = if t.load != 0 && beside b t.spot && decide (0 < min t.load (1000000 - s)) then
      some { W with stocks := W.stocks.set t.owner.toNat (s + min t.load (1000000 - s)), troops := W.troops.set k (Wd.addLoad t (-(min t.load (1000000 - s)))) } else none) (h0 : 0 ≤ min t.load (1000000 - s) := by omega) :
    (W.drop d).isSome = decide (0 < min t.load (1000000 - s)) ∧
    (W.drop d).getD W = { W with stocks := W.stocks.set t.owner.toNat (s + min t.load (1000000 - s)), troops := W.troops.set k (Wd.addLoad t (-(min t.load (1000000 - s)))) } := by
  have hlb : (t.load != 0) = true := by simpa using hl
  rw [h, hlb, hb]
  generalize hn : min t.load (1000000 - s) = n at h0 ⊢
  by_cases hp : 0 < n
  · simp [hp]
  · have hz : n = 0 := by omega
    rw [hz]
    have e1 : s + 0 = s := by omega
    have e2 : Wd.addLoad t (-0) = t := by unfold Wd.addLoad; simp
    rw [e1, e2, set_same hs, set_same ht]
    simp
end Go.Proofs.Ytkijhejjnlmbmaa
