/-
  The marks as plain mathematics on words of 64 bits: a mix can be gone back; for every word.
-/
import Derived.Test.YtmooknaljkeaaaaBv
namespace Go.Proofs.Ytmooknaljkeaaaa.Mark
open Go.Proofs.Ytmooknaljkeaaaa.Bv

abbrev W := BitVec 64
def xs (k : Nat) (x : W) : W := x ^^^ x >>> k
def c1 : W := 13787848793156543929#64
def c2 : W := 10723151780598845931#64
def gold : W := 11400714819323198485#64
def mix (n : W) : W := xs 31 (xs 27 (xs 30 (n + gold) * c1) * c2)

theorem shr_xor (x y : W) (k : Nat) : (x ^^^ y) >>> k = x >>> k ^^^ y >>> k := BitVec.ushiftRight_xor_distrib ..
theorem shr_big (x : W) (k : Nat) (h : 64 ≤ k) : x >>> k = 0#64 := by
  apply BitVec.eq_of_getLsbD_eq
  intro i hi
  rw [BitVec.getLsbD_ushiftRight, BitVec.getLsbD_of_ge x (k + i) (by omega)]
  simp
theorem xs_twice (k : Nat) (x : W) : xs k (xs k x) = xs (2 * k) x := by
  unfold xs
  rw [shr_xor, ← BitVec.shiftRight_add]
  have e : k + k = 2 * k := by omega
  rw [e, BitVec.xor_assoc, ← BitVec.xor_assoc (x >>> k) (x >>> k), BitVec.xor_self, BitVec.zero_xor]
/-- What a shift mixed in is gone back: by it, and by twice as much. -/
def down (k : Nat) (x : W) : W := xs (2 * k) (xs k x)
theorem down_xs (k : Nat) (hk : 16 ≤ k) (x : W) : down k (xs k x) = x := by
  unfold down
  rw [xs_twice, xs_twice]
  unfold xs
  rw [shr_big x _ (by omega), BitVec.xor_zero]
/-- An odd number's other one. -/
def newton (x y : W) : W := y * (2#64 - x * y)
def other (x : W) : W := newton x (newton x (newton x (newton x (newton x (newton x x)))))
theorem other1 : c1 * other c1 = 1#64 := by decide +kernel
theorem other2 : c2 * other c2 = 1#64 := by decide +kernel
def back (n : W) : W := down 30 (down 27 (down 31 n * other c2) * other c1) - gold
theorem back_mix (n : W) : back (mix n) = n := by
  unfold back mix
  rw [down_xs 31 (by decide), BitVec.mul_assoc, other2, BitVec.mul_one, down_xs 27 (by decide), BitVec.mul_assoc, other1, BitVec.mul_one, down_xs 30 (by decide), BitVec.add_sub_cancel]
theorem mix_inj {a b : W} (h : mix a = mix b) : a = b := by rw [← back_mix a, ← back_mix b, h]

/-! The marks of lists, one behind the other; whatever the mix. -/
section
variable (f : W → W)
def turnF (m n : W) : W := m ^^^ f n
def allF (l : List W) (m : W) : W := l.foldl (turnF f) m
def ofF (l : List W) : W := allF f l 0#64
theorem allF_cons (x : W) (l : List W) (m : W) : allF f (x :: l) m = allF f l (turnF f m x) := rfl
theorem allF_snoc (l : List W) (x : W) (m : W) : allF f (l ++ [x]) m = turnF f (allF f l m) x := by unfold allF; rw [List.foldl_append]; rfl
theorem allF_xor (l : List W) (m : W) : allF f l m = m ^^^ ofF f l := by
  unfold ofF
  induction l generalizing m with
  | nil => simp [allF]
  | cons x l ih =>
    rw [allF_cons, allF_cons, ih (turnF f m x), ih (turnF f 0#64 x)]
    unfold turnF
    rw [BitVec.zero_xor, BitVec.xor_assoc]
theorem allF_append (l k : List W) (m : W) : allF f (l ++ k) m = allF f k (allF f l m) := by unfold allF; rw [List.foldl_append]
theorem ofF_append (l k : List W) : ofF f (l ++ k) = ofF f l ^^^ ofF f k := by
  have h := allF_append f l k 0#64
  have h2 := allF_xor f k (allF f l 0#64)
  unfold ofF at *
  rw [h, h2]
theorem ofF_nil : ofF f [] = 0#64 := rfl
theorem ofF_one (x : W) : ofF f [x] = f x := by simp [ofF, allF, turnF]
theorem ofF_cons (x : W) (l : List W) : ofF f (x :: l) = f x ^^^ ofF f l := by
  have h := ofF_append f [x] l
  rw [ofF_one] at h
  exact h
theorem ofF_set (l : List W) (i : Nat) (h : i < l.length) (n : W) : ofF f (l.set i n) = ofF f l ^^^ (f l[i] ^^^ f n) := by
  induction l generalizing i with
  | nil => simp at h
  | cons x l ih =>
    cases i with
    | zero =>
      simp only [List.set_cons_zero, List.getElem_cons_zero, ofF_cons]
      generalize ofF f l = o
      have e : f x ^^^ o ^^^ (f x ^^^ f n) = f n ^^^ o ^^^ (f x ^^^ f x) := by ac_rfl
      rw [e, BitVec.xor_self, BitVec.xor_zero]
    | succ i =>
      simp only [List.set_cons_succ, List.getElem_cons_succ, ofF_cons]
      rw [ih i (by simpa using h)]
      ac_rfl
end
end Go.Proofs.Ytmooknaljkeaaaa.Mark
