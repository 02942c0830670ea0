/-
  What a player sees: plain law.
-/
import Derived.Test.YtkijhejjnlmbmaaMiV
import Derived.Test.YtkijhejjnlmbmaaGoodP
import Derived.Test.YtkijhejjnlmbmaaLawA
set_option linter.unusedVariables false
set_option linter.unusedSimpArgs false
namespace Go.Proofs.Ytkijhejjnlmbmaa
open Go.RowKit

/-! One that isn't seen. -/
def hurt (t : Trp) (n : Int) : Trp := { t with life := max 1 (min n t.life) }
end Go.Proofs.Ytkijhejjnlmbmaa
