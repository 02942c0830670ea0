/-
  troop.Check, first part.
-/
import Derived.Test.YtfabhinehfhndaaWld
import Derived.Test.YtfabhinehfhndaaBas
import Derived.Test.YtfabhinehfhndaaGol
import Derived.Handy
/-! XTroA -/
set_option linter.unusedVariables false
set_option linter.unusedSimpArgs false
namespace Go.Proofs.Ytfabhinehfhndaa
open Go.RowKit

def Fld.badPlace (p : Int) : Bool := !Fld.placeOk p
end Go.Proofs.Ytfabhinehfhndaa
/-! XTroB -/
set_option linter.unusedVariables false
set_option linter.unusedSimpArgs false
namespace Go.Proofs.Ytfabhinehfhndaa
open Go.RowKit

end Go.Proofs.Ytfabhinehfhndaa
/-! XTroC -/
set_option linter.unusedVariables false
set_option linter.unusedSimpArgs false
namespace Go.Proofs.Ytfabhinehfhndaa
open Go.RowKit

def AtPost (f : Fld) (c : Cel) (w : World) (e : Ending) (w' : World) : Prop := e = .returned (.tuple #[.int .i64 (f.atV c), .int .i64 (f.atE c)]) ∧ Below w.heap.size w w'
end Go.Proofs.Ytfabhinehfhndaa
/-! XTroD -/
set_option linter.unusedVariables false
set_option linter.unusedSimpArgs false
namespace Go.Proofs.Ytfabhinehfhndaa
open Go.RowKit

def Cel.is (p x : Cel) : Bool := decide (x = p)
end Go.Proofs.Ytfabhinehfhndaa
