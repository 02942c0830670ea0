/-
  A rock between; who is among cells. (Printed by bin/sightlaw.py.)
-/
import Derived.Test.YtffjpfpbpnhmcaaSigS
import Derived.Test.YtffjpfpbpnhmcaaFldR
set_option linter.unusedVariables false
set_option linter.unusedSimpArgs false
namespace Go.Proofs.Ytffjpfpbpnhmcaa
open Go.RowKit

def sightF : Fld := ⟨3, 2, [0, 1, 0, 0, 0, 0]⟩
end Go.Proofs.Ytffjpfpbpnhmcaa
