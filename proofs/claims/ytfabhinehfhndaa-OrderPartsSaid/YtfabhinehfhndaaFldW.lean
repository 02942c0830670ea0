/-
  field.Write. (Printed by bin/fieldw.py.)
-/
import Derived.Test.YtfabhinehfhndaaChk
import Derived.Test.YtfabhinehfhndaaByt
import Derived.Test.YtfabhinehfhndaaWOwn2
set_option linter.unusedVariables false
set_option linter.unusedSimpArgs false
namespace Go.Proofs.Ytfabhinehfhndaa
open Go.RowKit

def sgn8 (p : Int) : UInt8 := ([46, 35, 116, 111] : List UInt8).getD p.toNat 0
/-- The first so many signs of a row. -/
def rowT (f : Fld) (k j : Nat) : List UInt8 := (((f.places.drop (k * f.wide.toNat)).take (k * f.wide.toNat + f.wide.toNat - k * f.wide.toNat)).take j).map sgn8
def txt (f : Fld) (pre : List (Fin f.high.toNat)) : List UInt8 := pre.flatMap fun k => rowT f k.1 f.wide.toNat ++ [10]
theorem chunk_anyZ (A : Option Addr) (len c : Nat) (i : Int) (w : World) (hi : 1 ≤ i) : Calls Try.prog 84 #[.slice A len c, .int .i64 i] w (fun e w' => ∃ b2 b3, e = .returned (.func (.func 107) #[] #[.pointer (some ⟨b2, 0, none⟩), .pointer (some ⟨b3, 0, none⟩)]) ∧ Blk w' b2 [.slice A len c] 38 (0, 0) ∧ Blk w' b3 [.int .i64 (i.toNat : Int)] 3 (0, 0) ∧ w.heap.size ≤ b2 ∧ b2 < b3 ∧ Ext w w') := by
  have e : i = (i.toNat : Int) := by omega
  have := chunk_any A len c i.toNat w (by omega)
  rw [← e] at this
  rw [← e]; exact this
/-- A field's text. -/
def fldText (f : Fld) : ByteArray := if f.chk ≠ 0 then bytesS [] else bytesS (txt f (List.finRange f.high.toNat))
end Go.Proofs.Ytfabhinehfhndaa
