/-
  Right worlds, told by pairs of troops: what stays of a right world if some of its troops go.
-/
import Derived.Test.YtkijhejjnlmbmaaWld
set_option linter.unusedVariables false
set_option linter.unusedSimpArgs false
namespace Go.Proofs.Ytkijhejjnlmbmaa
open Go.RowKit

def Apart (s t : Trp) : Prop := s.id < t.id ∧ s.spot ≠ t.spot
end Go.Proofs.Ytkijhejjnlmbmaa
