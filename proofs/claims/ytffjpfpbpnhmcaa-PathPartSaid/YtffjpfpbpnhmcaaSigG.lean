/-
  sight.bare, sight.Sees. (Printed by bin/sightg.py.)
-/
import Derived.Test.YtffjpfpbpnhmcaaLinG
import Derived.Test.YtffjpfpbpnhmcaaWOwn2
set_option linter.unusedVariables false
set_option linter.unusedSimpArgs false
namespace Go.Proofs.Ytffjpfpbpnhmcaa
open Go.RowKit

/-- Neither rock nor wood. -/
def Fld.clear (f : Fld) (c : Cel) : Bool := !(f.atV c == 1 || f.atV c == 2)
def bareC (f : Fld) (a b : Cel) : Bool := decide ((lineC a b).length < 3) || (((lineC a b).drop 1).take ((lineC a b).length - 1 - 1)).all f.clear
def seesE (f : Fld) (a b : Cel) : Int := if f.atE a ≠ 0 then f.atE a else f.atE b
def seesV (f : Fld) (a b : Cel) : Bool := if seesE f a b ≠ 0 then false else bareC f a b || bareC f b a
def seesR (f : Fld) (a b : Cel) : Value := .tuple #[.bool (seesV f a b), .int .i64 (seesE f a b)]
end Go.Proofs.Ytffjpfpbpnhmcaa
