/-
  line.near, sign, Apart, Cells of near cells. (Printed by bin/lineg.py.)
-/
import Derived.Test.YtkijhejjnlmbmaaGol
import Derived.Test.YtkijhejjnlmbmaaWld
set_option linter.unusedVariables false
set_option linter.unusedSimpArgs false
namespace Go.Proofs.Ytkijhejjnlmbmaa
open Go.RowKit

def sgn (n : Int) : Int := if n < 0 then -1 else if 0 < n then 1 else 0
def sz (n : Int) : Int := if n < 0 then -n else if 0 < n then n else 0
def far (a b : Cel) : Int := max (sz (b.x - a.x)) (sz (b.y - a.y))
def nar (a b : Cel) : Int := min (sz (b.x - a.x)) (sz (b.y - a.y))
/-- One step of a line. -/
def lstep (a b : Cel) (s : Int × Cel) : Int × Cel :=
  (if decide (far a b ≤ s.1 + 2 * nar a b) then s.1 + 2 * nar a b - 2 * far a b else s.1 + 2 * nar a b,
   ⟨if !decide (sz (b.x - a.x) < sz (b.y - a.y)) || decide (far a b ≤ s.1 + 2 * nar a b) then s.2.x + sgn (b.x - a.x) else s.2.x,
    if decide (sz (b.x - a.x) < sz (b.y - a.y)) || decide (far a b ≤ s.1 + 2 * nar a b) then s.2.y + sgn (b.y - a.y) else s.2.y⟩)
def lst (a b : Cel) : Nat → Int × Cel
  | 0 => (0, a)
  | k + 1 => lstep a b (lst a b k)
def pts (a b : Cel) (k : Nat) : List Cel := (List.range (k + 1)).map fun i => (lst a b i).2
def lineC (a b : Cel) : List Cel := pts a b (far a b).toNat
end Go.Proofs.Ytkijhejjnlmbmaa
