/-
  slices.Delete. (Printed by bin/funcd.py.)
-/
import Derived.Test.YtfabhinehfhndaaFnc
set_option linter.unusedVariables false
set_option linter.unusedSimpArgs false
namespace Go.Proofs.Ytfabhinehfhndaa
open Go.RowKit

theorem sA_some {A : Option Addr} {c lo s : Nat} (hA : ∃ b, A = some ⟨b, 0, none⟩) : ∃ a, sA A c lo s = some a := by
  obtain ⟨b, rfl⟩ := hA
  unfold sA
  split
  · exact ⟨_, rfl⟩
  · exact ⟨_, rfl⟩
end Go.Proofs.Ytfabhinehfhndaa
