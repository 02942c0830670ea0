/-
  Cells as a map's keys.
-/
import Derived.Test.YtkijhejjnlmbmaaWld
import Derived.Test.YtkijhejjnlmbmaaBas
set_option linter.unusedVariables false
set_option linter.unusedSimpArgs false
namespace Go.Proofs.Ytkijhejjnlmbmaa
open Go.RowKit Go.Maps

namespace Cel
def key (c : Cel) : Value := .agg #[.int .i64 c.x, .int .i64 c.y]
end Cel
end Go.Proofs.Ytkijhejjnlmbmaa
