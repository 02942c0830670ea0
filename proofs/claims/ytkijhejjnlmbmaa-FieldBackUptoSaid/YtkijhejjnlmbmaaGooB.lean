/-
  A load is mined. (Printed by bin/gooB.py.)
-/
import Derived.Test.YtkijhejjnlmbmaaShop
import Derived.Test.YtkijhejjnlmbmaaTroA4
set_option linter.unusedVariables false
set_option linter.unusedSimpArgs false
namespace Go.Proofs.Ytkijhejjnlmbmaa
open Go.RowKit

theorem addr_eq {g b o : Nat} (h : some (⟨g, 0, none⟩ : Addr) = some ⟨b, o, none⟩) : g = b ∧ 0 = o := by
  injection h with h
  injection h with h1 h2
  exact ⟨h1, h2⟩
theorem mine_eq {W : Wd} {d : Ded} {k : Nat} {t : Trp} (hf : W.troops.findIdx? (isId d.who) = some k) (ht : W.troops[k]? = some t) :
    W.mine d = if t.kind == 1 && decide (t.load < 5) && beside t.spot d.spot && W.field.isIn d.spot && W.mines.getD (W.place d.spot) 0 != 0 then
      some { W with mines := W.mines.set (W.place d.spot) (W.mines.getD (W.place d.spot) 0 - 1), troops := W.troops.set k (Wd.addLoad t 1) } else none := by
  have hg : W.troops.getD k default = t := by rw [List.getD_eq_getElem?_getD, ht]; rfl
  unfold Wd.mine
  rw [hf]
  simp only [hg]
end Go.Proofs.Ytkijhejjnlmbmaa
