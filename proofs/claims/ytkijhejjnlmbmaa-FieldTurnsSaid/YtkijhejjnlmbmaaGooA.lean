/-
  A shop; goods.beside; its troops by their numbers. (Printed by bin/gooA.py.)
-/
import Derived.Test.YtkijhejjnlmbmaaGooM
import Derived.Test.YtkijhejjnlmbmaaWld
import Derived.Test.YtkijhejjnlmbmaaEqI
import Derived.Test.YtkijhejjnlmbmaaBas
set_option linter.unusedVariables false
set_option linter.unusedSimpArgs false
namespace Go.Proofs.Ytkijhejjnlmbmaa
open Go.RowKit

/-- Where a troop stands in memory. -/
def trAt (a : Wd.At) (k : Nat) : Option Addr := a.T.map fun x => ⟨x.block, k * 7, none⟩
def trOf (a : Wd.At) (W : Wd) (id : Int) : Option Addr := match W.troops.findIdx? (isId id) with | none => none | some k => trAt a k
end Go.Proofs.Ytkijhejjnlmbmaa
