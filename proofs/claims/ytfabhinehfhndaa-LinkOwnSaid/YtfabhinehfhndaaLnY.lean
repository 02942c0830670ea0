/-
  LinkGrows. (Printed by bin/linkgrow.py.)
-/
import Derived.Test.YtfabhinehfhndaaLnL
import Derived.Test.YtfabhinehfhndaaLnG
set_option linter.unusedVariables false
set_option linter.unusedSimpArgs false
namespace Go.Proofs.Ytfabhinehfhndaa
open Go.RowKit

theorem Lnk.opens (w : World) (cs : List Value) (h : Lnk.sh.Ok w cs) : ∃ (a : Lnk.At) (L : Lnk), cs = Lnk.cells a L ∧ Lnk.Has w a L := by
  obtain ⟨_, _, rfl, _, _, ⟨x0, rfl, k0⟩, _, _, rfl, _, _, hS, _, _, rfl, _, _, ⟨x2, rfl, k2⟩, _, _, rfl, _, _, ⟨x3, rfl, k3⟩, _, _, rfl, _, _, hW, _, _, rfl, _, _, hK, _, _, rfl, _, _, hG, _, _, rfl, _, _, hH, rfl⟩ := h
  obtain ⟨AS, cS, lS, rfl, HS⟩ := Rep.opens_slice (R := repS) (by_ := 16) repS_opens rfl (by decide) hS
  obtain ⟨AW, cW, lW, rfl, HW⟩ := Rep.opens_slice (R := repI) (by_ := 8) repI_opens rfl (by decide) hW
  obtain ⟨AK, cK, lK, rfl, HK⟩ := Rep.opens_slice (R := repI) (by_ := 8) repI_opens rfl (by decide) hK
  obtain ⟨AG, cG, lG, rfl, HG⟩ := Rep.opens_slice (R := repS) (by_ := 16) repS_opens rfl (by decide) hG
  obtain ⟨AH, cH, lH, rfl, HH⟩ := Rep.opens_slice (R := repI) (by_ := 8) repI_opens rfl (by decide) hH
  exact ⟨⟨AS, AW, AK, AG, AH, cS, cW, cK, cG, cH⟩, ⟨x0, lS, x2, x3, lW, lK, lG, lH⟩, rfl, HS, HW, HK, HG, HH, k0, k2, k3⟩
end Go.Proofs.Ytfabhinehfhndaa
