/-
  troop.Check, first part.
-/
import Derived.Test.YtkijhejjnlmbmaaWld
import Derived.Test.YtkijhejjnlmbmaaBas
import Derived.Test.YtkijhejjnlmbmaaGol
import Derived.Handy
/-! XTroA -/
set_option linter.unusedVariables false
set_option linter.unusedSimpArgs false
namespace Go.Proofs.Ytkijhejjnlmbmaa
open Go.RowKit

def Fld.badPlace (p : Int) : Bool := !Fld.placeOk p
end Go.Proofs.Ytkijhejjnlmbmaa
/-! XTroB -/
set_option linter.unusedVariables false
set_option linter.unusedSimpArgs false
namespace Go.Proofs.Ytkijhejjnlmbmaa
open Go.RowKit

end Go.Proofs.Ytkijhejjnlmbmaa
/-! XTroC -/
set_option linter.unusedVariables false
set_option linter.unusedSimpArgs false
namespace Go.Proofs.Ytkijhejjnlmbmaa
open Go.RowKit

def AtPost (f : Fld) (c : Cel) (w : World) (e : Ending) (w' : World) : Prop := e = .returned (.tuple #[.int .i64 (f.atV c), .int .i64 (f.atE c)]) ∧ Below w.heap.size w w'
end Go.Proofs.Ytkijhejjnlmbmaa
/-! XTroD -/
set_option linter.unusedVariables false
set_option linter.unusedSimpArgs false
namespace Go.Proofs.Ytkijhejjnlmbmaa
open Go.RowKit

def Cel.is (p x : Cel) : Bool := decide (x = p)
end Go.Proofs.Ytkijhejjnlmbmaa
