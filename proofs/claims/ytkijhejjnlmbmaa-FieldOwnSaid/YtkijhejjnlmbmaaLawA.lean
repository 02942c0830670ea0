/-
  Two worlds, the same; a small one; something is mined, and someone made. (Printed by bin/goodslaw1.py.)
-/
import Derived.Test.YtkijhejjnlmbmaaGooR
import Derived.Test.YtkijhejjnlmbmaaEql
import Derived.Test.YtkijhejjnlmbmaaBas
set_option linter.unusedVariables false
set_option linter.unusedSimpArgs false
namespace Go.Proofs.Ytkijhejjnlmbmaa
open Go.RowKit

def smallW : Wd := ⟨⟨3, 1, [0, 0, 3]⟩, [⟨0, 0⟩], [20], [0, 0, 9], [⟨1, 0, 1, ⟨1, 0⟩, 10, 0⟩], 2, 0⟩
def smallL : List Ded := [(⟨1, 1, ⟨2, 0⟩, 0⟩ : Ded), (⟨3, 0, ⟨0, 0⟩, 2⟩ : Ded)]
def smallV : Wd := smallW.doW smallL
end Go.Proofs.Ytkijhejjnlmbmaa
