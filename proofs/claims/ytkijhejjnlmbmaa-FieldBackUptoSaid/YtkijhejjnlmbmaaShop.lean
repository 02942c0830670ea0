/-
  Writing into a shop: a mine, a stock, a troop's load.
-/
import Derived.Test.YtkijhejjnlmbmaaWOwn2
import Derived.Test.YtkijhejjnlmbmaaGooA
set_option linter.unusedVariables false
set_option linter.unusedSimpArgs false
namespace Go.Proofs.Ytkijhejjnlmbmaa
open Go.RowKit

theorem repI_bare : repI.Bare := Rep.flat_bare
theorem trp_bare : Trp.rep.Bare := Rep.flat_bare
theorem Blk.far_ {w : World} {S : Nat} {cs : List Value} {t : TypeId} {g : Nat} (h : Blk w S cs t (0, 0)) (hne : S ≠ g) (j : Nat) (u : Value) : Blk (w.setCell ⟨g, j, none⟩ u) S cs t (0, 0) := h.other hne j u
end Go.Proofs.Ytkijhejjnlmbmaa
