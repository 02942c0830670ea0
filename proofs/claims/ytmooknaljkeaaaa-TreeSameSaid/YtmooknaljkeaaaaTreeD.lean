/-
  Trails, as plain mathematics: how long they are, where they lead, and by which sides.
-/
import Derived.Test.YtmooknaljkeaaaaTreeT
set_option linter.unusedVariables false
namespace Go.Proofs.Ytmooknaljkeaaaa.Tree
open Go.Proofs.Ytmooknaljkeaaaa.Bv Go.Proofs.Ytmooknaljkeaaaa.Mark

def depthF : Nat → Nat → Nat → Nat
  | 0, _, _ => 0
  | f + 1, at_, n => if n = 1 then 0 else if at_ < splitN n then depthF f at_ (splitN n) + 1 else depthF f (at_ - splitN n) (n - splitN n) + 1
def sidesF : Nat → Nat → Nat → List Bool
  | 0, _, _ => []
  | f + 1, at_, n => if n = 1 then [] else if at_ < splitN n then sidesF f at_ (splitN n) ++ [false] else sidesF f (at_ - splitN n) (n - splitN n) ++ [true]
def stepP (m : W) (x : Bool × W) : W := if x.1 then pairF x.2 m else pairF m x.2
theorem depth_le (f : Nat) : ∀ at_ n k, n ≤ f → 1 ≤ n → at_ < n → n ≤ 2 ^ k → depthF f at_ n ≤ k := by
  induction f with
  | zero => intro at_ n k h1 h2; omega
  | succ f ih =>
    intro at_ n k hf h1 hat hk
    rw [depthF]
    by_cases hn : n = 1
    · rw [if_pos hn]; omega
    · rw [if_neg hn]
      have hs := split_lt (n := n) (by omega)
      have hk1 : 1 ≤ k := by
        rcases Nat.eq_zero_or_pos k with h | h
        · subst h; simp at hk; omega
        · exact h
      obtain ⟨j, rfl⟩ : ∃ j, k = j + 1 := ⟨k - 1, by omega⟩
      have hsj : splitN n ≤ 2 ^ j := by
        unfold splitN
        have hlog : Nat.log2 (n - 1) < j + 1 := by rw [Nat.log2_lt (by omega)]; omega
        exact Nat.pow_le_pow_right (by decide) (by omega)
      split
      · have := ih at_ (splitN n) j (by omega) hs.1 (by assumption) hsj
        omega
      · have := ih (at_ - splitN n) (n - splitN n) j (by omega) (by omega) (by omega) (by omega)
        omega
theorem sides_len (f : Nat) : ∀ at_ n, (sidesF f at_ n).length = depthF f at_ n := by
  induction f with
  | zero => intro at_ n; rfl
  | succ f ih =>
    intro at_ n
    rw [sidesF, depthF]
    split
    · rfl
    · split
      · rw [List.length_append, ih]; rfl
      · rw [List.length_append, ih]; rfl
theorem trail_len (f : Nat) : ∀ (l : List (List UInt8)) at_, l.length ≤ f → 1 ≤ l.length → at_ < l.length → (trailF f l at_).length = depthF f at_ l.length := by
  induction f with
  | zero => intro l at_ h1 h2; omega
  | succ f ih =>
    intro l at_ hf h1 hat
    rw [trailF, depthF]
    by_cases hn : l.length = 1
    · rw [if_pos hn, if_pos hn]; rfl
    · rw [if_neg hn, if_neg hn]
      have hs := split_lt (n := l.length) (by omega)
      by_cases hlt : at_ < splitN l.length
      · rw [if_pos hlt, if_pos hlt, List.length_append, ih _ _ (by rw [List.length_take]; omega) (by rw [List.length_take]; omega) (by rw [List.length_take]; omega), List.length_take, Nat.min_eq_left (by omega)]
        rfl
      · rw [if_neg hlt, if_neg hlt, List.length_append, ih _ _ (by rw [List.length_drop]; omega) (by rw [List.length_drop]; omega) (by rw [List.length_drop]; omega), List.length_drop]
        rfl
theorem climb_ok (f : Nat) : ∀ m at_ n (t : List W), n ≤ f → 1 ≤ n → at_ < n → (climbF f m at_ n t).2 = decide (t.length = depthF f at_ n) := by
  induction f with
  | zero => intro m at_ n t h1 h2; omega
  | succ f ih =>
    intro m at_ n t hf h1 hat
    rw [climbF, depthF]
    by_cases hn : n = 1
    · rw [if_pos hn, if_pos hn]
      cases t <;> simp
    · rw [if_neg hn, if_neg hn]
      have hs := split_lt (n := n) (by omega)
      rcases List.eq_nil_or_concat t with rfl | ⟨t', x, rfl⟩
      · simp; split <;> omega
      · simp only [List.concat_eq_append, List.getLast?_append, List.getLast?_singleton, Option.some_or, List.dropLast_concat, List.length_append, List.length_singleton]
        split
        · rw [ih _ _ _ _ (by omega) hs.1 (by assumption)]; simp
        · rw [ih _ _ _ _ (by omega) (by omega) (by omega)]; simp
theorem climb_fold (f : Nat) : ∀ m at_ n (t : List W), n ≤ f → 1 ≤ n → at_ < n → t.length = depthF f at_ n → (climbF f m at_ n t).1 = ((sidesF f at_ n).zip t).foldl stepP m := by
  induction f with
  | zero => intro m at_ n t h1 h2; omega
  | succ f ih =>
    intro m at_ n t hf h1 hat ht
    rw [climbF, sidesF]
    rw [depthF] at ht
    by_cases hn : n = 1
    · rw [if_pos hn] at ht
      rw [if_pos hn, if_pos hn]
      rfl
    · rw [if_neg hn] at ht
      rw [if_neg hn, if_neg hn]
      have hs := split_lt (n := n) (by omega)
      rcases List.eq_nil_or_concat t with rfl | ⟨t', x, rfl⟩
      · simp at ht; split at ht <;> omega
      · simp only [List.concat_eq_append, List.length_append, List.length_singleton] at ht
        simp only [List.concat_eq_append, List.getLast?_append, List.getLast?_singleton, Option.some_or, List.dropLast_concat]
        by_cases hlt : at_ < splitN n
        · rw [if_pos hlt] at ht
          simp only [if_pos hlt]
          rw [ih _ _ _ _ (by omega) hs.1 hlt (by omega), List.zip_append (by rw [sides_len]; omega), List.foldl_append]
          rfl
        · rw [if_neg hlt] at ht
          simp only [if_neg hlt]
          rw [ih _ _ _ _ (by omega) (by omega) (by omega) (by omega), List.zip_append (by rw [sides_len]; omega), List.foldl_append]
          rfl
theorem climb_trail (f : Nat) : ∀ (l : List (List UInt8)) at_, l.length ≤ f → 1 ≤ l.length → at_ < l.length → (climbF f (leafF (l.getD at_ [])) at_ l.length (trailF f l at_)).1 = rootL l := by
  induction f with
  | zero => intro l at_ h1 h2; omega
  | succ f ih =>
    intro l at_ hf h1 hat
    rw [climbF, trailF]
    by_cases hn : l.length = 1
    · rw [if_pos hn]
      match l, hn with
      | [s], _ => obtain rfl : at_ = 0 := by simpa using hat
                  rfl
    · rw [if_neg hn, if_neg hn]
      have hs := split_lt (n := l.length) (by omega)
      rw [root_two l (by omega)]
      by_cases hlt : at_ < splitN l.length
      · simp only [if_pos hlt, List.getLast?_append, List.getLast?_singleton, Option.some_or, List.dropLast_concat]
        have h := ih (l.take (splitN l.length)) at_ (by rw [List.length_take]; omega) (by rw [List.length_take]; omega) (by rw [List.length_take]; omega)
        have e1 : (l.take (splitN l.length)).getD at_ [] = l.getD at_ [] := by
          rw [List.getD_eq_getElem?_getD, List.getD_eq_getElem?_getD, List.getElem?_take, if_pos hlt]
        rw [e1, List.length_take, Nat.min_eq_left (by omega)] at h
        rw [h]
      · simp only [if_neg hlt, List.getLast?_append, List.getLast?_singleton, Option.some_or, List.dropLast_concat]
        have h := ih (l.drop (splitN l.length)) (at_ - splitN l.length) (by rw [List.length_drop]; omega) (by rw [List.length_drop]; omega) (by rw [List.length_drop]; omega)
        have e1 : (l.drop (splitN l.length)).getD (at_ - splitN l.length) [] = l.getD at_ [] := by
          rw [List.getD_eq_getElem?_getD, List.getD_eq_getElem?_getD, List.getElem?_drop, show splitN l.length + (at_ - splitN l.length) = at_ from by omega]
        rw [e1, List.length_drop] at h
        rw [h]
/-- What Trail tells is held. -/
theorem holds_trail (l : List (List UInt8)) (at_ : Nat) (hat : at_ < l.length) : holdsB (rootL l) (l.getD at_ []) at_ l.length (trailF l.length l at_) = true := by
  unfold holdsB
  rw [climb_ok _ _ _ _ _ (Nat.le_refl _) (by omega) hat, climb_trail _ _ _ (Nat.le_refl _) (by omega) hat, trail_len _ _ _ (Nat.le_refl _) (by omega) hat]
  simp
/-- With one mark more it is not. -/
theorem holds_more (r : W) (s : List UInt8) (l : List (List UInt8)) (at_ : Nat) (x : W) (hat : at_ < l.length) : holdsB r s at_ l.length (trailF l.length l at_ ++ [x]) = false := by
  unfold holdsB
  rw [climb_ok _ _ _ _ _ (Nat.le_refl _) (by omega) hat, List.length_append, trail_len _ _ _ (Nat.le_refl _) (by omega) hat]
  simp
/-- What holds has as many marks, and comes to the root. -/
theorem holds_len {r : W} {s : List UInt8} {at_ n : Nat} {t : List W} (hat : at_ < n) (h : holdsB r s at_ n t = true) : t.length = depthF n at_ n ∧ ((sidesF n at_ n).zip t).foldl stepP (leafF s) = r := by
  unfold holdsB at h
  rw [climb_ok _ _ _ _ _ (Nat.le_refl _) (by omega) hat] at h
  simp only [Bool.and_eq_true, decide_eq_true_eq] at h
  exact ⟨h.1, by rw [← climb_fold n _ _ _ _ (Nat.le_refl _) (by omega) hat h.1]; exact h.2⟩
/-- The mark behind the first k steps. -/
def along (sd : List Bool) (t : List W) (m : W) (k : Nat) : W := ((sd.zip t).take k).foldl stepP m
theorem along_succ (sd : List Bool) (t : List W) (m : W) (k : Nat) (h1 : k < sd.length) (h2 : k < t.length) : along sd t m (k + 1) = if sd[k] then pairF t[k] (along sd t m k) else pairF (along sd t m k) t[k] := by
  unfold along
  rw [List.take_succ_eq_append_getElem (by rw [List.length_zip]; omega), List.foldl_append, List.getElem_zip]
  rfl
theorem along_all (sd : List Bool) (t : List W) (m : W) (k : Nat) (h1 : k = sd.length) (h2 : k = t.length) : along sd t m k = (sd.zip t).foldl stepP m := by
  unfold along
  rw [List.take_of_length_le (by rw [List.length_zip]; omega)]
end Go.Proofs.Ytmooknaljkeaaaa.Tree
