/-
  Slices of integers that came in, opened; two slices of the same integers are equal.
-/
import Derived.Test.YtfabhinehfhndaaBas
import Derived.Test.YtfabhinehfhndaaProg
set_option linter.unusedVariables false
set_option linter.unusedSimpArgs false
namespace Go.Proofs.Ytfabhinehfhndaa
open Go.RowKit

def cellsI (l : List Int) : List Value := l.map (Value.int .i64)
theorem cellsI_get (l : List Int) (i : Nat) (h : i < l.length) : (cellsI l)[i]? = some (.int .i64 l[i]) := by unfold cellsI; simp [h]
theorem cellsI_snoc (l : List Int) (x : Int) : cellsI (l ++ [x]) = cellsI l ++ [.int .i64 x] := by unfold cellsI; simp
def GI (_ : Nat) (u : Value) : Prop := ∃ n : Int, u = .int .i64 n
theorem infoI64 : (Try.prog.info? 3).map (fun i => (i.zero, i.size, i.bytes)) = some (some (.int .i64 0), 1, 8) := by kernel_rfl
def I64 (l : List Int) : Prop := ∀ x ∈ l, -9223372036854775808 ≤ x ∧ x ≤ 9223372036854775807
end Go.Proofs.Ytfabhinehfhndaa
