/-
  The walk over slots: a store of a whole element.
-/
import Derived.Test.YtfabhinehfhndaaGol
set_option linter.unusedVariables false
set_option linter.unusedSimpArgs false
namespace Go.Proofs.Ytfabhinehfhndaa
open Go.RowKit

namespace Rep
variable {α : Type} {R : Rep α}
end Rep
section
variable {P : Program} {n : Nat} {E E' : List (Nat × Value)} {a : Act} {w w' w0 w1 : World} {Q : Exit → Act → World → Prop} {ops : Array Oper} {v : Value}
variable {d : Option Nat} {ty : TypeId} {pos : String} {af : Array Edge} {g : Option (Nat × Bool)} {x y z : Operand} {t : TypeId} {rest : List Oper}
/-- The first so many of a slice. -/
def pfx (A : Option Addr) (_hi : Nat) : Option Addr := A
theorem sP {A : Option Addr} {len cap e s : Nat} {k : IntKind} (hi m : Nat) {i : Int} (ht : P.underlying t = some (.slice e)) (hs : Sz P e s) (hx : ev E x = some (.slice A len cap)) (hy : ev E y = some (.int k i)) (h1 : i = (hi : Int)) (h2 : hi ≤ cap) (hm : m = hi) : Runs P E ⟨d, .slice t x none (some y) none, ty, pos, af, g⟩ w (.slice (pfx A hi) m cap) w := fun n a ha => by
  subst h1; subst hm
  have h1 : P.underlying t = some (.slice (P.elem t)) := by simp [Program.elem, ht]
  have q2 : P.elem t = e := by simp [Program.elem, ht]
  have h3 := run_slice_h (P := P) (w := w) t A len cap h1 k (m : Int) (by omega) (by omega)
  have h4 := run_sliceAt_slice (P := P) (w := w) t (.slice A len cap) none (some (.int k (m : Int))) none h1
  rw [q2, hs w] at h3
  simp only [execOp, ha.ev hx, ha.ev hy, Option.map, h4, h3, Sem.run_bind, Result.andThen_ok, Sem.run_pure, sliced, Int.toNat_natCast, Nat.sub_zero]
  unfold pfx
  cases A with
  | none => simp
  | some a => simp [Addr.add]
end
theorem Rep.SHas.pre {α : Type} {R : Rep α} {by_ c : Nat} {A : Option Addr} {l : List α} {w : World} (h : R.SHas by_ w A c l) (k : Nat) : R.SHas by_ w (pfx A k) c (l.take k) := h.take_ k
end Go.Proofs.Ytfabhinehfhndaa
namespace Go.Proofs.Ytfabhinehfhndaa
open Go.RowKit
section
variable {P : Program} {n : Nat} {E : List (Nat × Value)} {w : World} {Q : Exit → Act → World → Prop} {ops : Array Oper} {kd : Nat → Nat}
/-- Two ways on. -/
def AQ2 (P : Program) (ops : Array Oper) (Q : Exit → Act → World → Prop) (kd : Nat → Nat) (τ1 τ2 : List Nat) : Exit → Act → World → Prop :=
  nrm (fun a w => wpFlow P ops (nrm (Q .normal)) kd τ1 a w ∧ wpFlow P ops (nrm (Q .normal)) kd τ2 a w)
end
end Go.Proofs.Ytfabhinehfhndaa
