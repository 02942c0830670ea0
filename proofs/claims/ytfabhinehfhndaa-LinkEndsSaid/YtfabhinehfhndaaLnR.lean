/-
  mustref.LinkRight. (Printed by bin/linkright.py.)
-/
import Derived.Test.YtfabhinehfhndaaLnL
set_option linter.unusedVariables false
set_option linter.unusedSimpArgs false
namespace Go.Proofs.Ytfabhinehfhndaa
open Go.RowKit

/-- A guard whose slot has not been run: not run either. -/
theorem vU {P : Program} {n : Nat} {ops : Array Oper} {Q : Exit → Act → World → Prop} {E : List (Nat × Value)} {w : World} {ty : TypeId} {pos : String} {af : Array Edge} {rest : List Oper} {d : Nat} {op : Op} {j : Nat} {q c : Bool} {u : Value} {oj : Oper} {dj : Nat} (hj : ops[j]? = some oj) (hdj : oj.dst = some dj) (hb : look E dj = some (gv c u)) (hc : c = false) (hd : Nat.blt d n = true)
    (h : WL P n ops Q rest ((d, undef) :: E) w) : WL P n ops Q (⟨some d, op, ty, pos, af, some (j, q)⟩ :: rest) E w :=
  wl_if (c := false) (fun a ha => by
    have h1 := ha.g _ _ hb
    subst hc
    simp only [gv, Bool.false_eq_true, if_false] at h1
    simp [Region.wanted, yielded, hj, hdj, h1, undef]) (fun h => nomatch h) (fun _ a ha => h _ (ha.put hd undef))
section
variable {L : Lnk} {l : List Int} {lo hi : Int} {k : Nat}
end
end Go.Proofs.Ytfabhinehfhndaa
