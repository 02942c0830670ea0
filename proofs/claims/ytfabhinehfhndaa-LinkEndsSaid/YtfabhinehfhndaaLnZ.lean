/-
  A link that is the argument's, or one's own.
-/
import Derived.Test.YtfabhinehfhndaaLnE
import Derived.Test.YtfabhinehfhndaaLnR
set_option linter.unusedVariables false
set_option linter.unusedSimpArgs false
namespace Go.Proofs.Ytfabhinehfhndaa
open Go.RowKit

/-- The argument's link, or one's own: none of its blocks is of bs, all are below Z. -/
def LOr (w0 w : World) (bs : List Nat) (Z : Nat) (a : Lnk.At) (L : Lnk) : Prop := (Lnk.Has w0 a L ∧ Ext w0 w) ∨ (LTop w w0.heap.size a L ∧ ∀ q ∈ lft a, q ∉ bs ∧ q < Z)
section
variable {w0 w w' : World} {bs S : List Nat} {Z Z' : Nat} {a : Lnk.At} {L : Lnk}
theorem LOr.has (h : LOr w0 w bs Z a L) : Lnk.Has w a L := h.elim (fun h => h.1.keep h.2) fun h => h.1.has
theorem LOr.later (h : LOr w0 w bs Z a L) (x : Ext w w') : LOr w0 w' bs Z a L := h.imp (fun h => ⟨h.1, Ext.tr h.2 x⟩) fun h => ⟨h.1.later x, h.2⟩
theorem LOr.mod (h : LOr w0 w bs Z a L) (m : Mod S w w') (h1 : ∀ q ∈ S, w0.heap.size ≤ q ∧ (q ∈ bs ∨ Z ≤ q)) : LOr w0 w' bs Z a L :=
  h.imp (fun h => ⟨h.1, Ext.mod h.2 m fun q hq => (h1 q hq).1⟩) fun h => ⟨h.1.mod m fun q hq hS => (h1 q hS).2.elim (h.2 q hq).1 fun hz => by have := (h.2 q hq).2; omega, h.2⟩
theorem LOr.up (h : LOr w0 w bs Z a L) (hz : Z ≤ Z') : LOr w0 w bs Z' a L := h.imp id fun h => ⟨h.1, fun q hq => ⟨(h.2 q hq).1, Nat.lt_of_lt_of_le (h.2 q hq).2 hz⟩⟩
theorem LOr.top {B : Nat} (h : LTop w B a L) (hB : w0.heap.size ≤ B) (hb : ∀ q ∈ bs, q < B) : LOr w0 w bs w.heap.size a L :=
  .inr ⟨h.down hB, fun q hq => ⟨fun hm => by have := hb q hm; have := h.lt hq; omega, (h.lt hq).2⟩⟩
end
end Go.Proofs.Ytfabhinehfhndaa
