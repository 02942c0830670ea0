/-
  sight.Seen. (Printed by bin/sights.py.)
-/
import Derived.Test.YtffjpfpbpnhmcaaSigG
set_option linter.unusedVariables false
set_option linter.unusedSimpArgs false
namespace Go.Proofs.Ytffjpfpbpnhmcaa
open Go.RowKit

def seenH (f : Fld) (c : Cel) (r : Int) : Nat := (min (f.high - 1) (c.y + r) - max 0 (c.y - r) + 1).toNat
def seenW (f : Fld) (c : Cel) (r : Int) : Nat := (min (f.wide - 1) (c.x + r) - max 0 (c.x - r) + 1).toNat
def seenAt (c : Cel) (r : Int) (k j : Nat) : Cel := ⟨max 0 (c.x - r) + (j : Int), max 0 (c.y - r) + (k : Int)⟩
def seenB (f : Fld) (c n : Cel) : Bool := bareC f c n || bareC f n c
def seenRow (f : Fld) (c : Cel) (r : Int) (k j : Nat) : List Cel := ((List.range j).map (seenAt c r k)).filter (seenB f c)
def seenTo (f : Fld) (c : Cel) (r : Int) (k : Nat) : List Cel := (List.range k).flatMap fun i => seenRow f c r i (seenW f c r)
def seenE (f : Fld) (c : Cel) (r : Int) : Int := if f.atE c ≠ 0 then f.atE c else if r < 0 ∨ 12 < r then 1 else 0
def seenL (f : Fld) (c : Cel) (r : Int) : List Cel := if seenE f c r ≠ 0 then [] else seenTo f c r (seenH f c r)
end Go.Proofs.Ytffjpfpbpnhmcaa
