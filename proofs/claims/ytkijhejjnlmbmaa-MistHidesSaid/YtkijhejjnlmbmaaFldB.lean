/-
  FieldBack. (Printed by bin/fieldlaw.py.)
-/
import Derived.Test.YtkijhejjnlmbmaaFldR
import Derived.Test.YtkijhejjnlmbmaaLawA
import Derived.Test.YtkijhejjnlmbmaaSigP
set_option linter.unusedVariables false
set_option linter.unusedSimpArgs false
namespace Go.Proofs.Ytkijhejjnlmbmaa
open Go.RowKit

def fieldF : Fld := ⟨2, 2, [0, 1, 2, 3]⟩
end Go.Proofs.Ytkijhejjnlmbmaa
