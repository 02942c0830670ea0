/-
  field.Read. (Printed by bin/fieldr.py.)
-/
import Derived.Test.YtkijhejjnlmbmaaFldW
import Derived.Test.YtkijhejjnlmbmaaShelf
set_option linter.unusedVariables false
set_option linter.unusedSimpArgs false
namespace Go.Proofs.Ytkijhejjnlmbmaa
open Go.RowKit

/-- What places a text tells. -/
def readPl (l : List UInt8) : List Int := (l.map fun b => Lib.indexByte ([46, 35, 116, 111] : List UInt8) b).filter fun n => decide (0 ≤ n)
def readFld (s : ByteArray) : Fld := ⟨Lib.indexByte s.data.toList 10, ((Lib.countByte s.data.toList 10 : Nat) : Int), readPl s.data.toList⟩
def readE (s : ByteArray) : Int := if ((readFld s).chk != 0 || !decide (fldText (readFld s) = s)) = true then 4 else 0
def readW (s : ByteArray) : Fld := if ((readFld s).chk != 0 || !decide (fldText (readFld s) = s)) = true then ⟨0, 0, []⟩ else readFld s
end Go.Proofs.Ytkijhejjnlmbmaa
