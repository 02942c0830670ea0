/-
  The walk over slots: small words.
-/
import Derived.Test.YticfnngppcmidaaLogM
import Derived.Test.YticfnngppcmidaaTrp
import Derived.Test.YticfnngppcmidaaDed
import Derived.IntWalk
set_option linter.unusedVariables false
namespace Go.Proofs.Yticfnngppcmidaa
open Go.RowKit

section
variable {P : Program} {n : Nat} {E E' : List (Nat × Value)} {a : Act} {w w' w0 w1 : World} {Q : Exit → Act → World → Prop} {ops : Array Oper} {v : Value}
theorem inI {x : Int} (h : -9223372036854775808 ≤ x ∧ x ≤ 9223372036854775807) : IntKind.i64.wrap x = x := IntWalk.i64_in x h
section
variable {d : Option Nat} {ty : TypeId} {pos : String} {af : Array Edge} {g : Option (Nat × Bool)} {x y : Operand} {t u : TypeId} {k : IntKind} {i j r : Int}
theorem badL (hx : ev E x = some (.int k i)) (hy : ev E y = some (.int k j)) (h : k.wrap (i + j) = i + j) (he : i + j = r) : Runs P E ⟨d, .binOp .add t x y u, ty, pos, af, g⟩ w (.int k r) w := by subst he; exact bad hx hy h
theorem bsuL (hx : ev E x = some (.int k i)) (hy : ev E y = some (.int k j)) (h : k.wrap (i - j) = i - j) (he : i - j = r) : Runs P E ⟨d, .binOp .sub t x y u, ty, pos, af, g⟩ w (.int k r) w := by subst he; exact bsu hx hy h
theorem bmuL (hx : ev E x = some (.int k i)) (hy : ev E y = some (.int k j)) (h : k.wrap (i * j) = i * j) (he : i * j = r) : Runs P E ⟨d, .binOp .mul t x y u, ty, pos, af, g⟩ w (.int k r) w := by subst he; exact bmu hx hy h
end
theorem lt_succ_all {p : Nat → Prop} {k : Nat} (h : ∀ j, j < k → p j) (hk : p k) : ∀ j, j < k + 1 → p j := fun j hj => (Nat.lt_succ_iff_lt_or_eq.1 hj).elim (h j) fun e => e ▸ hk
theorem hcI {w : World} {cs : List Value} {a : Int} (h : repI.has w cs a) : cs = [.int .i64 a] := And.left (show cs = [.int .i64 a] ∧ okI a from h)
theorem hcB {w : World} {cs : List Value} {a : Bool} (h : repB.has w cs a) : cs = [.bool a] := And.left (show cs = [.bool a] ∧ True from h)
theorem hcC {w : World} {cs : List Value} {a : Cel} (h : Cel.rep.has w cs a) : cs = a.cells := And.left (show cs = a.cells ∧ a.ok from h)
theorem hcT {w : World} {cs : List Value} {a : Trp} (h : Trp.rep.has w cs a) : cs = a.cells := And.left (show cs = a.cells ∧ a.ok from h)
theorem hcD {w : World} {cs : List Value} {a : Ded} (h : Ded.rep.has w cs a) : cs = a.cells := And.left (show cs = a.cells ∧ a.ok from h)
theorem ec {x : Operand} {r : List Operand} {l : List Value} (h : ev E x = some v) (hr : evs E r = some l) : evs E (x :: r) = some (v :: l) := by simp only [evs, h, hr]
theorem loI {t : Nat} {k : IntKind} {i j : Int} (h : look E t = some (.int k i)) (e : i = j) : look E t = some (.int k j) := by rw [h, e]
section
variable {c : Operand} {x y : Code} {i j : Int}
theorem clt (hc : ev E c = some (.bool (decide (i < j)))) (h1 : i < j → W P n x Q E w) (h2 : ¬ i < j → W P n y Q E w) : W P n (.cond c x y) Q E w := cb hc (fun h => h1 (of_decide_eq_true h)) (fun h => h2 (of_decide_eq_false h))
theorem cle (hc : ev E c = some (.bool (decide (i ≤ j)))) (h1 : i ≤ j → W P n x Q E w) (h2 : ¬ i ≤ j → W P n y Q E w) : W P n (.cond c x y) Q E w := cb hc (fun h => h1 (of_decide_eq_true h)) (fun h => h2 (of_decide_eq_false h))
theorem ceq (hc : ev E c = some (.bool (i == j))) (h1 : i = j → W P n x Q E w) (h2 : ¬ i = j → W P n y Q E w) : W P n (.cond c x y) Q E w := cb hc (fun h => h1 (by simpa using h)) (fun h => h2 (by simpa using h))
theorem cne (hc : ev E c = some (.bool (i != j))) (h1 : ¬ i = j → W P n x Q E w) (h2 : i = j → W P n y Q E w) : W P n (.cond c x y) Q E w := cb hc (fun h => h1 (by simpa using h)) (fun h => h2 (by simpa using h))
end
end
end Go.Proofs.Yticfnngppcmidaa
