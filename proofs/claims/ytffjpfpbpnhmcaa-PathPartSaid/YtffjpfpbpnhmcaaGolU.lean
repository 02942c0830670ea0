/-
  A region that draws: an operation under a guard that was not run itself is not run either.
-/
import Derived.Test.YtffjpfpbpnhmcaaGolB
set_option linter.unusedVariables false
set_option linter.unusedSimpArgs false
namespace Go.Proofs.Ytffjpfpbpnhmcaa
open Go.RowKit

theorem fU {P : Program} {n : Nat} {ops : Array Oper} {Q : Exit → Act → World → Prop} {kd : Nat → Nat} {τ : List Nat} {E : List (Nat × Value)} {w0 : World} {i d : Nat} {op : Op} {ty : TypeId} {pos : String} {af : Array Edge} {j : Nat} {q : Bool} {u : Value} {oj : Oper} {dj : Nat} (hi : ops[i]? = some ⟨some d, op, ty, pos, af, some (j, q)⟩) (hk : Nat.ble (kd i) 1 = true) (hj : ops[j]? = some oj) (hdj : oj.dst = some dj) (hb : look E dj = some (gv false u)) (hd : Nat.blt d n = true)
    (h : FL P n ops Q kd τ ((d, undef) :: E) w0) : FL P n ops Q kd (i :: τ) E w0 := fun a ha => by
  have h1 := ha.g _ _ hb
  simp only [gv, Bool.false_eq_true, if_false] at h1
  have hw : Region.wanted ⟨some d, op, ty, pos, af, some (j, q)⟩ (yielded ops a.tmps) = false := by simp [Region.wanted, yielded, hj, hdj, h1, undef]
  have hk := Nat.le_of_ble_eq_true hk
  rcases Nat.lt_or_ge 0 (kd i) with h0 | h0
  · exact ⟨_, hi, .inr (.inl ⟨by omega, undef, .inr ⟨hw, rfl⟩, h _ (ha.put hd _)⟩)⟩
  · exact ⟨_, hi, .inl ⟨by omega, undef, .inr ⟨hw, rfl⟩, h _ (ha.put hd _)⟩⟩
/-- A guard whose slot has not been run: not run either. -/
theorem vU {P : Program} {n : Nat} {ops : Array Oper} {Q : Exit → Act → World → Prop} {E : List (Nat × Value)} {w : World} {ty : TypeId} {pos : String} {af : Array Edge} {rest : List Oper} {d : Nat} {op : Op} {j : Nat} {q c : Bool} {u : Value} {oj : Oper} {dj : Nat} (hj : ops[j]? = some oj) (hdj : oj.dst = some dj) (hb : look E dj = some (gv c u)) (hc : c = false) (hd : Nat.blt d n = true)
    (h : WL P n ops Q rest ((d, undef) :: E) w) : WL P n ops Q (⟨some d, op, ty, pos, af, some (j, q)⟩ :: rest) E w :=
  wl_if (c := false) (fun a ha => by
    have h1 := ha.g _ _ hb
    subst hc
    simp only [gv, Bool.false_eq_true, if_false] at h1
    simp [Region.wanted, yielded, hj, hdj, h1, undef]) (fun h => nomatch h) (fun _ a ha => h _ (ha.put hd undef))
end Go.Proofs.Ytffjpfpbpnhmcaa
