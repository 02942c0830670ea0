/-
  A field's text, read again: plain law.
-/
import Derived.Test.YtkijhejjnlmbmaaFldR
set_option linter.unusedVariables false
set_option linter.unusedSimpArgs false
namespace Go.Proofs.Ytkijhejjnlmbmaa
open Go.RowKit

theorem chunks {α : Type} (n : Nat) : ∀ (q : Nat) (l : List α), l.length = q * n → ((List.finRange q).flatMap fun k => (l.drop (k.1 * n)).take n) = l
  | 0, l, h => by
    have : l = [] := List.eq_nil_of_length_eq_zero (by omega)
    subst this; rfl
  | q + 1, l, h => by
    rw [Nat.succ_mul] at h
    have ih := chunks n q (l.drop n) (by rw [List.length_drop]; omega)
    rw [List.finRange_succ, List.flatMap_cons, List.flatMap_map]
    have e : (fun k : Fin q => (l.drop (k.succ.1 * n)).take n) = fun k : Fin q => ((l.drop n).drop (k.1 * n)).take n := by
      funext k
      rw [List.drop_drop]
      congr 2
      show (k.1 + 1) * n = _
      rw [Nat.succ_mul]; omega
    show (l.drop (0 * n)).take n ++ ((List.finRange q).flatMap fun k : Fin q => (l.drop (k.succ.1 * n)).take n) = l
    rw [e, ih, Nat.zero_mul, List.drop_zero, List.take_append_drop]
end Go.Proofs.Ytkijhejjnlmbmaa
