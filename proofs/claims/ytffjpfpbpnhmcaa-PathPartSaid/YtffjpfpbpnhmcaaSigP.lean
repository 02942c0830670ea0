/-
  What is seen: plain law.
-/
import Derived.Test.YtffjpfpbpnhmcaaSigL
set_option linter.unusedVariables false
set_option linter.unusedSimpArgs false
namespace Go.Proofs.Ytffjpfpbpnhmcaa
open Go.RowKit

theorem Fld.opens (w : World) (cs : List Value) (h : Wd.fsh.Ok w cs) : ∃ (f : Fld) (A : Option Addr) (c : Nat), cs = [.int .i64 f.wide, .int .i64 f.high, .slice A f.places.length c] ∧ repI.SHas 8 w A c f.places ∧ okI f.wide ∧ okI f.high := by
  obtain ⟨_, _, rfl, _, _, ⟨x0, rfl, k0⟩, _, _, rfl, _, _, ⟨x1, rfl, k1⟩, _, _, rfl, _, _, hP, rfl⟩ := h
  obtain ⟨aP, cP, lP, rfl, HP⟩ := Rep.opens_slice (R := repI) repI_opens rfl (by decide) hP
  exact ⟨⟨x0, x1, lP⟩, aP, cP, rfl, HP, k0, k1⟩
theorem Cel.opens_v (w : World) (cs : List Value) (h : Cel.sh.Ok w cs) : ∃ a : Cel, cs = [.int .i64 a.x, .int .i64 a.y] := by
  obtain ⟨a, ha⟩ := Cel.opens w cs h
  exact ⟨a, And.left (show cs = a.cells ∧ a.ok from ha)⟩
/-! All that is near enough -/
/-! Farther, and with a place taken away -/
/-- A field with one place plain. -/
def Fld.plainAt (f : Fld) (i : Nat) : Fld := { f with places := f.places.set i 0 }
end Go.Proofs.Ytffjpfpbpnhmcaa
