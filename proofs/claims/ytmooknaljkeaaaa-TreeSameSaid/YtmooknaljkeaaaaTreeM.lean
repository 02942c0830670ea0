/-
  A tree of marks, as plain mathematics.
-/
import Derived.Test.YtmooknaljkeaaaaMarkM
import Derived.Lib.BitFns
set_option linter.unusedVariables false
namespace Go.Proofs.Ytmooknaljkeaaaa.Tree
open Go.Proofs.Ytmooknaljkeaaaa.Bv Go.Proofs.Ytmooknaljkeaaaa.Mark

def leafF (s : List UInt8) : W := s.foldl (fun m b => mix (m ^^^ BitVec.ofNat 64 b.toNat)) (mix (BitVec.ofNat 64 s.length))
def rot32 (b : W) : W := b <<< 32 ||| b >>> 32
def pairF (a b : W) : W := mix (mix (a ^^^ rot32 b ^^^ 1#64) ^^^ b)
/-- The greatest power of two below n, which is above 1. -/
def splitN (n : Nat) : Nat := 2 ^ Nat.log2 (n - 1)
theorem split_lt {n : Nat} (h : 2 ≤ n) : 1 ≤ splitN n ∧ splitN n < n ∧ n ≤ 2 * splitN n := by
  unfold splitN
  have h1 := Nat.log2_self_le (n := n - 1) (by omega)
  have h2 := @Nat.lt_log2_self (n - 1)
  have h3 : 1 ≤ 2 ^ Nat.log2 (n - 1) := Nat.one_le_two_pow
  rw [Nat.pow_succ] at h2
  omega
def rootF : Nat → List (List UInt8) → W
  | 0, _ => 0#64
  | f + 1, l => match l with
    | [] => 0#64
    | [s] => leafF s
    | a :: b :: r => pairF (rootF f ((a :: b :: r).take (splitN (r.length + 2)))) (rootF f ((a :: b :: r).drop (splitN (r.length + 2))))
def rootL (l : List (List UInt8)) : W := rootF l.length l
theorem rootF_two (f : Nat) (l : List (List UInt8)) (h : 2 ≤ l.length) : rootF (f + 1) l = pairF (rootF f (l.take (splitN l.length))) (rootF f (l.drop (splitN l.length))) := by
  match l, h with
  | a :: b :: r, _ => rfl
theorem rootF_fuel (f g : Nat) (l : List (List UInt8)) (hf : l.length ≤ f) (hg : l.length ≤ g) : rootF f l = rootF g l := by
  induction f generalizing g l with
  | zero =>
    have : l = [] := List.eq_nil_of_length_eq_zero (by omega)
    subst this
    cases g <;> rfl
  | succ f ih =>
    cases g with
    | zero =>
      have : l = [] := List.eq_nil_of_length_eq_zero (by omega)
      subst this; rfl
    | succ g =>
      by_cases h : 2 ≤ l.length
      · have hs := split_lt h
        rw [rootF_two f l h, rootF_two g l h]
        rw [ih g (l.take (splitN l.length)) (by rw [List.length_take]; omega) (by rw [List.length_take]; omega)]
        rw [ih g (l.drop (splitN l.length)) (by rw [List.length_drop]; omega) (by rw [List.length_drop]; omega)]
      · match l, h with
        | [], _ => rfl
        | [s], _ => rfl
        | a :: b :: r, h => simp at h
theorem root_nil : rootL [] = 0#64 := rfl
theorem root_one (s : List UInt8) : rootL [s] = leafF s := rfl
theorem root_two (l : List (List UInt8)) (h : 2 ≤ l.length) : rootL l = pairF (rootL (l.take (splitN l.length))) (rootL (l.drop (splitN l.length))) := by
  have hs := split_lt h
  have e : rootL l = rootF ((l.length - 1) + 1) l := by unfold rootL; congr 1; omega
  rw [e, rootF_two _ l h]
  unfold rootL
  rw [rootF_fuel (l.length - 1) _ (l.take (splitN l.length)) (by rw [List.length_take]; omega) (Nat.le_refl _)]
  rw [rootF_fuel (l.length - 1) _ (l.drop (splitN l.length)) (by rw [List.length_drop]; omega) (Nat.le_refl _)]
end Go.Proofs.Ytmooknaljkeaaaa.Tree
