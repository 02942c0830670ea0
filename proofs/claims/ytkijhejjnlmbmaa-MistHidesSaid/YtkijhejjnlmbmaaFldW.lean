/-
  field.Write. (Printed by bin/fieldw.py.)
-/
import Derived.Test.YtkijhejjnlmbmaaGolR
import Derived.Test.YtkijhejjnlmbmaaByt
import Derived.Test.YtkijhejjnlmbmaaWOwn2
set_option linter.unusedVariables false
set_option linter.unusedSimpArgs false
namespace Go.Proofs.Ytkijhejjnlmbmaa
open Go.RowKit

def sgn8 (p : Int) : UInt8 := ([46, 35, 116, 111] : List UInt8).getD p.toNat 0
/-- The first so many signs of a row. -/
def rowT (f : Fld) (k j : Nat) : List UInt8 := (((f.places.drop (k * f.wide.toNat)).take (k * f.wide.toNat + f.wide.toNat - k * f.wide.toNat)).take j).map sgn8
def txt (f : Fld) (pre : List (Fin f.high.toNat)) : List UInt8 := pre.flatMap fun k => rowT f k.1 f.wide.toNat ++ [10]
/-- A field's text. -/
def fldText (f : Fld) : ByteArray := if f.chk ≠ 0 then bytesS [] else bytesS (txt f (List.finRange f.high.toNat))
end Go.Proofs.Ytkijhejjnlmbmaa
