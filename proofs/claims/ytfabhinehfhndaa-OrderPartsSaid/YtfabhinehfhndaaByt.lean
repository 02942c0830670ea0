/-
  Bytes in slices; texts by their places; a text of bytes.
-/
import Derived.Test.YtfabhinehfhndaaGolR
import Derived.Laws.IdiomStrings
import Derived.Laws.Strings
set_option linter.unusedVariables false
set_option linter.unusedSimpArgs false
namespace Go.Proofs.Ytfabhinehfhndaa
open Go.RowKit

def repY : Rep UInt8 := Rep.flat 1 (fun b => [.int .u8 (b.toNat : Int)]) (fun _ => True) (fun _ u => ∃ n : Int, u = .int .u8 n) (fun _ => rfl) (by intro a u hu; simp at hu; subst hu; rfl) (by
  intro a j u hu
  cases j with
  | zero => simp at hu; exact ⟨_, hu.symm⟩
  | succ j => simp at hu)
/-- A text of these bytes. -/
def bytesS (l : List UInt8) : ByteArray := ⟨l.toArray⟩
section
variable {P : Program} {n : Nat} {E E' : List (Nat × Value)} {w : World} {d : Option Nat} {ty : TypeId} {pos : String} {af : Array Edge} {g : Option (Nat × Bool)} {x y z u : Operand} {t t2 : TypeId}
theorem lnS {s : ByteArray} (ht : P.underlying t = some .string) (hx : ev E x = some (.string s)) (hs : (s.size : Int) ≤ 9223372036854775807) : Runs P E ⟨d, .call { callee := .builtin .len, args := #[x], argTypes := #[t] }, ty, pos, af, g⟩ w (.int .i64 (s.size : Int)) w :=
  bi (vs := [.string s]) (by simp only [evs, hx]) fun cs => by
    have := run_len_string (P := P) w t ty s ht
    simp only [builtin, Sem.run_bind, this, Result.andThen_ok, Sem.run_pure]; rfl
end
end Go.Proofs.Ytfabhinehfhndaa
