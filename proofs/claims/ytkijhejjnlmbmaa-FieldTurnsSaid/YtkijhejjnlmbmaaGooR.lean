/-
  goods.Worth. (Printed by bin/worth.py.)
-/
import Derived.Test.YtkijhejjnlmbmaaGooQ
set_option linter.unusedVariables false
set_option linter.unusedSimpArgs false
namespace Go.Proofs.Ytkijhejjnlmbmaa
open Go.RowKit

def wt (t : Trp) : Int := t.load + Wd.priceOf t.kind
/-- All there is. -/
def Wd.total (W : Wd) : Int := W.mines.sum + W.stocks.sum + (W.troops.map wt).sum
def Wd.worth (W : Wd) : Int := if W.chk = 0 then W.total else 0
end Go.Proofs.Ytkijhejjnlmbmaa
