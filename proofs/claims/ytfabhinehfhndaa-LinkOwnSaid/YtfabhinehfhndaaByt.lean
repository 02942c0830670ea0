/-
  Bytes in slices; texts by their places; a text of bytes.
-/
import Derived.Test.YtfabhinehfhndaaGolR
import Derived.Laws.IdiomStrings
import Derived.Laws.Strings
set_option linter.unusedVariables false
set_option linter.unusedSimpArgs false
namespace Go.Proofs.Ytfabhinehfhndaa
open Go.RowKit

def repY : Rep UInt8 := Rep.flat 1 (fun b => [.int .u8 (b.toNat : Int)]) (fun _ => True) (fun _ u => ∃ n : Int, u = .int .u8 n) (fun _ => rfl) (by intro a u hu; simp at hu; subst hu; rfl) (by
  intro a j u hu
  cases j with
  | zero => simp at hu; exact ⟨_, hu.symm⟩
  | succ j => simp at hu)
/-- A text of these bytes. -/
def bytesS (l : List UInt8) : ByteArray := ⟨l.toArray⟩
section
variable {P : Program} {n : Nat} {E E' : List (Nat × Value)} {w : World} {d : Option Nat} {ty : TypeId} {pos : String} {af : Array Edge} {g : Option (Nat × Bool)} {x y z u : Operand} {t t2 : TypeId}
theorem str_beq (p q : ByteArray) : (p == q) = decide (p = q) := by
  rw [Bool.eq_iff_iff, decide_eq_true_eq]
  constructor
  · intro h
    obtain ⟨a⟩ := p
    obtain ⟨b⟩ := q
    have : a = b := by simpa using (show (a == b) = true from h)
    rw [this]
  · rintro rfl
    obtain ⟨a⟩ := p
    show (a == a) = true
    simp
theorem bnT {p q : ByteArray} (ht : P.underlying t = some .string) (hx : ev E x = some (.string p)) (hy : ev E y = some (.string q)) : Runs P E ⟨d, .binOp .neq t x y t2, ty, pos, af, g⟩ w (.bool (!decide (p = q))) w := fun n a ha => by
  have : (eqGuard .neq t x y (.string p) (.string q)).run P w = .ok () w := by cases x <;> cases y <;> rfl
  have h2 : (binOp .neq t (.string p) (.string q)).run P w = .ok (.bool (!decide (p = q))) w := by
    simp only [binOp, Op.stringOp, Sem.run_pure]; simp [bne, str_beq]; rw [← beq_toListBytes, str_beq]
  simp only [execOp, ha.ev hx, ha.ev hy, Sem.run_bind, this, h2, Result.andThen_ok, Sem.run_pure]
end
end Go.Proofs.Ytfabhinehfhndaa
