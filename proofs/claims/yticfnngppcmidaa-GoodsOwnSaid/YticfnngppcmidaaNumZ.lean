/-
  The zero of integers.
-/
import Derived.Test.YticfnngppcmidaaNum
namespace Go.Proofs.Yticfnngppcmidaa
open Go.RowKit
theorem zI : ∀ (j : Nat) u, (Value.int .i64 0).cells[j]? = some u → repI.raw j u := by
  intro j u hu
  have hu : (#[Value.int .i64 0] : Array Value)[j]? = some u := hu
  match j, hu with
  | 0, hu => exact ⟨0, (Option.some.inj hu).symm⟩
  | j + 1, hu => cases hu
end Go.Proofs.Yticfnngppcmidaa
