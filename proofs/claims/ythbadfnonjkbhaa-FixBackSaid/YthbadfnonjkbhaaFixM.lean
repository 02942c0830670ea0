/-
  Numbers in parts, as plain mathematics: kept within bounds, added, multiplied, divided, and roots; for all whole numbers.
-/
import Derived.WalkKit
import Derived.Lib.BitFns
namespace Go.Proofs.Ythbadfnonjkbhaa.Fix

def keep (x : Int) : Int := if x < -2147483647 then -2147483647 else if 2147483647 < x then 2147483647 else x
theorem keep_bd (x : Int) : -2147483647 ≤ keep x ∧ keep x ≤ 2147483647 := by unfold keep; split <;> (try split) <;> omega
theorem keep_in {x : Int} (h : -2147483647 ≤ x) (h' : x ≤ 2147483647) : keep x = x := by unfold keep; rw [if_neg (by omega), if_neg (by omega)]
theorem keep_keep (x : Int) : keep (keep x) = keep x := keep_in (keep_bd x).1 (keep_bd x).2
theorem keep_mono {x y : Int} (h : x ≤ y) : keep x ≤ keep y := by unfold keep; split <;> (try split) <;> (try split) <;> (try split) <;> omega
theorem keep_neg (x : Int) : keep x < 0 ↔ x < 0 := by unfold keep; split <;> (try split) <;> omega
def add (a b : Int) : Int := keep (keep a + keep b)
def mul (a b : Int) : Int := keep (keep a * keep b / 65536)
theorem add_comm (a b : Int) : add a b = add b a := by unfold add; rw [Int.add_comm]
theorem mul_comm (a b : Int) : mul a b = mul b a := by unfold mul; rw [Int.mul_comm]
theorem mul_one (a : Int) : mul a 65536 = keep a := by
  unfold mul
  rw [show keep 65536 = 65536 from by decide, Int.mul_ediv_cancel _ (by decide), keep_keep]
theorem add_zero (a : Int) : add a 0 = keep a := by
  unfold add
  rw [show keep 0 = 0 from by decide, Int.add_zero, keep_keep]
theorem add_mono {a b : Int} (c : Int) (h : keep a ≤ keep b) : add a c ≤ add b c := keep_mono (by omega)
theorem mul_mono {a b c : Int} (h : keep a ≤ keep b) (hc : 0 ≤ c) : mul a c ≤ mul b c := by
  have hc' : 0 ≤ keep c := by have := keep_neg c; omega
  exact keep_mono (Int.ediv_le_ediv (by decide) (Int.mul_le_mul_of_nonneg_right h hc'))
theorem prod_bd (a b : Int) (ha : -2147483647 ≤ a ∧ a ≤ 2147483647) (hb : -2147483647 ≤ b ∧ b ≤ 2147483647) : -4611686014132420609 ≤ a * b ∧ a * b ≤ 4611686014132420609 := by
  obtain ⟨a1, a2⟩ := ha
  obtain ⟨b1, b2⟩ := hb
  have n1 : a.natAbs ≤ 2147483647 := by omega
  have n2 : b.natAbs ≤ 2147483647 := by omega
  have h : (a * b).natAbs ≤ 2147483647 * 2147483647 := by rw [Int.natAbs_mul]; exact Nat.mul_le_mul n1 n2
  omega

/-- A quotient that is rounded down: what is left over is less than the divisor. -/
def Down (a b q : Int) : Prop := 0 < b ∧ 0 ≤ a - q * b ∧ a - q * b < b ∨ b < 0 ∧ a - q * b ≤ 0 ∧ b < a - q * b
theorem tdiv_bd (a b : Int) (ha : -4611686018427387904 ≤ a ∧ a ≤ 4611686018427387904) : -4611686018427387904 ≤ a.tdiv b ∧ a.tdiv b ≤ 4611686018427387904 := by
  have h : (a.tdiv b).natAbs = a.natAbs / b.natAbs := Int.natAbs_tdiv a b
  have h2 := Nat.div_le_self a.natAbs b.natAbs
  rw [← h] at h2
  omega
theorem tmod_facts (a b : Int) (h0 : b ≠ 0) : (0 ≤ a → 0 ≤ a.tmod b) ∧ (a ≤ 0 → a.tmod b ≤ 0) ∧ (0 < b → a.tmod b < b ∧ -b < a.tmod b) ∧ (b < 0 → a.tmod b < -b ∧ b < a.tmod b) ∧ a = a.tdiv b * b + a.tmod b := by
  have hn := Int.natAbs_tmod a b
  have hl := Nat.mod_lt a.natAbs (show 0 < b.natAbs by omega)
  refine ⟨fun h => Int.tmod_nonneg b h, fun h => ?_, fun h => by omega, fun h => by omega, ?_⟩
  · have h1 := Int.neg_tmod a b
    have h2 := Int.tmod_nonneg b (show 0 ≤ -a by omega)
    omega
  · exact (Int.tdiv_mul_add_tmod a b).symm
theorem down_less {a b : Int} (h0 : b ≠ 0) (h1 : a.tmod b ≠ 0) (h2 : a < 0 ↔ ¬ b < 0) : Down a b (a.tdiv b - 1) := by
  obtain ⟨f1, f2, f3, f4, f5⟩ := tmod_facts a b h0
  unfold Down
  rw [Int.sub_mul, Int.one_mul]
  generalize a.tdiv b * b = p at *
  by_cases hb : 0 < b
  · left; have := f2 (by omega); have := f3 hb; omega
  · right; have := f1 (by omega); have := f4 (by omega); omega
theorem down_same {a b : Int} (h0 : b ≠ 0) (h1 : a.tmod b = 0 ∨ (a < 0 ↔ b < 0)) : Down a b (a.tdiv b) := by
  obtain ⟨f1, f2, f3, f4, f5⟩ := tmod_facts a b h0
  unfold Down
  generalize a.tdiv b * b = p at *
  by_cases hb : 0 < b
  · left
    have := f3 hb
    rcases h1 with h1 | h1
    · omega
    · have := f1 (by omega); omega
  · right
    have := f4 (by omega)
    rcases h1 with h1 | h1
    · omega
    · have := f2 (by omega); omega

/-! Roots. -/
/-- What holds while the bits are tried: the root so far is a multiple of twice the bit, its square is not above, and the square of what comes next is. -/
structure Root (n r b : Nat) : Prop where
  mult : r % (2 * b) = 0
  low : r * r ≤ n
  high : n < (r + 2 * b) * (r + 2 * b)
theorem Root.take {n r b : Nat} (h : Root n r (2 * b)) (hs : (r + 2 * b) * (r + 2 * b) ≤ n) : Root n (r + 2 * b) b := by
  have hm := h.mult
  refine ⟨?_, hs, ?_⟩
  · have e : r = 2 * b * (2 * (r / (2 * (2 * b)))) := by
      have h1 := Nat.div_add_mod r (2 * (2 * b))
      rw [hm] at h1
      have h2 : 2 * (2 * b) * (r / (2 * (2 * b))) = 2 * b * (2 * (r / (2 * (2 * b)))) := by
        rw [← Nat.mul_assoc (2 * b), Nat.mul_comm (2 * b) 2]
      omega
    rw [e, ← Nat.mul_succ, Nat.mul_mod_right]
  · have e : r + 2 * b + 2 * b = r + 2 * (2 * b) := by omega
    rw [e]; exact h.high
theorem Root.skip {n r b : Nat} (h : Root n r (2 * b)) (hs : ¬ (r + 2 * b) * (r + 2 * b) ≤ n) : Root n r b := by
  refine ⟨?_, h.low, by omega⟩
  have hm := h.mult
  have h1 : 2 * b ∣ 2 * (2 * b) := ⟨2, by omega⟩
  exact Nat.mod_eq_zero_of_dvd (Nat.dvd_trans h1 (Nat.dvd_of_mod_eq_zero hm))
theorem root_uniq {n r s : Nat} (h1 : r * r ≤ n) (h2 : n < (r + 1) * (r + 1)) (h3 : s * s ≤ n) (h4 : n < (s + 1) * (s + 1)) : r = s := by
  have a1 : r < s + 1 := Nat.lt_of_not_le fun h => by have := Nat.mul_le_mul h h; omega
  have a2 : s < r + 1 := Nat.lt_of_not_le fun h => by have := Nat.mul_le_mul h h; omega
  omega
/-- The last bit. -/
theorem Root.last {n r : Nat} (h : Root n r 1) : (r + 1) * (r + 1) ≤ n → (r + 1) * (r + 1) ≤ n ∧ n < (r + 1 + 1) * (r + 1 + 1) := fun hs => ⟨hs, h.high⟩
/-- The whole root. -/
def IsRoot (n r : Nat) : Prop := r * r ≤ n ∧ n < (r + 1) * (r + 1)
theorem root_mono {n m r s : Nat} (h : n ≤ m) (hr : IsRoot n r) (hs : IsRoot m s) : r ≤ s := by
  have h1 := hr.1
  have h2 := hs.2
  have a1 : r < s + 1 := Nat.lt_of_not_le fun h' => by have := Nat.mul_le_mul h' h'; omega
  omega

/-- Where the loop stands: a bit is to be tried, or all is done. -/
def Stage (n r c : Nat) : Prop := (∃ k, k ≤ 23 ∧ c = 2 ^ k ∧ Root n r (2 ^ k)) ∨ (c = 0 ∧ IsRoot n r)
theorem Stage.yes {n r c : Nat} (h : Stage n r c) (hc : 0 < c) (hs : (r + c) * (r + c) ≤ n) : Stage n (r + c) (c / 2) := by
  rcases h with ⟨k, hk, rfl, hr⟩ | ⟨rfl, _⟩
  · cases k with
    | zero => exact .inr ⟨by decide, hs, hr.high⟩
    | succ k =>
      have e : 2 ^ (k + 1) = 2 * 2 ^ k := by rw [Nat.pow_succ]; omega
      rw [e] at hr hs ⊢
      exact .inl ⟨k, by omega, by omega, hr.take hs⟩
  · omega
theorem Stage.no {n r c : Nat} (h : Stage n r c) (hc : 0 < c) (hs : ¬ (r + c) * (r + c) ≤ n) : Stage n r (c / 2) := by
  rcases h with ⟨k, hk, rfl, hr⟩ | ⟨rfl, _⟩
  · cases k with
    | zero => exact .inr ⟨by decide, hr.low, by have := hs; simp at this; exact this⟩
    | succ k =>
      have e : 2 ^ (k + 1) = 2 * 2 ^ k := by rw [Nat.pow_succ]; omega
      rw [e] at hr hs ⊢
      exact .inl ⟨k, by omega, by omega, hr.skip hs⟩
  · omega
theorem Stage.or {n r c : Nat} (h : Stage n r c) (hc : 0 < c) : r ||| c = r + c := by
  rcases h with ⟨k, hk, rfl, hr⟩ | ⟨rfl, _⟩
  · have hm := hr.mult
    have h1 := Nat.div_add_mod r (2 * 2 ^ k)
    have e : 2 * 2 ^ k = 2 ^ (k + 1) := by rw [Nat.pow_succ]; omega
    rw [hm, e, Nat.add_zero] at h1
    rw [← h1]
    exact (Nat.two_pow_add_eq_or_of_lt (by rw [Nat.pow_succ]; have := Nat.two_pow_pos k; omega) _).symm
  · omega
theorem Stage.bd {n r c : Nat} (h : Stage n r c) (hn : n < 140737488355328) : r ≤ 11863283 ∧ c ≤ 8388608 := by
  have h2 : ∀ r, r * r ≤ n → r ≤ 11863283 := fun r hr => by
    apply Nat.le_of_not_lt
    intro hlt
    have := Nat.mul_le_mul (show 11863284 ≤ r from hlt) (show 11863284 ≤ r from hlt)
    omega
  rcases h with ⟨k, hk, rfl, hr⟩ | ⟨rfl, hr⟩
  · exact ⟨h2 r hr.low, Nat.pow_le_pow_right (n := 2) (by decide) hk⟩
  · exact ⟨h2 r hr.1, by omega⟩
theorem Stage.start {n l : Nat} (hn : n < 140737488355328) (h1 : n < 2 ^ l) (h2 : n ≠ 0 → 2 ^ (l - 1) ≤ n) (h0 : n = 0 → l = 0) : Stage n 0 (2 ^ (l / 2)) := by
  have hl : l ≤ 47 := by
    by_cases hz : n = 0
    · rw [h0 hz]; decide
    · apply Nat.le_of_not_lt
      intro hlt
      have h3 := h2 hz
      have h4 : 2 ^ 47 ≤ 2 ^ (l - 1) := Nat.pow_le_pow_right (by decide) (by omega)
      omega
  refine .inl ⟨l / 2, by omega, rfl, by simp, Nat.zero_le _, ?_⟩
  have e : (0 + 2 * 2 ^ (l / 2)) * (0 + 2 * 2 ^ (l / 2)) = 2 ^ (l / 2 + 1 + (l / 2 + 1)) := by
    rw [Nat.zero_add, Nat.mul_comm 2, ← Nat.pow_succ, ← Nat.pow_add]
  rw [e]
  exact Nat.lt_of_lt_of_le h1 (Nat.pow_le_pow_right (by decide) (by omega))
/-- How many binary digits there are: between two powers. -/
theorem bitLen_spec : ∀ n : Nat, n < 2 ^ 64 → n < 2 ^ Lib.bitLen n ∧ (n ≠ 0 → 1 ≤ Lib.bitLen n ∧ 2 ^ (Lib.bitLen n - 1) ≤ n) := by
  intro n
  induction n using Nat.strongRecOn with
  | _ n ih =>
    intro h
    by_cases h0 : n = 0
    · subst h0; exact ⟨by decide, fun h => absurd rfl h⟩
    · have e := Lib.bitLen_half n h0 h
      obtain ⟨i1, i2⟩ := ih (n / 2) (by omega) (by omega)
      rw [e, Nat.add_comm 1]
      refine ⟨by rw [Nat.pow_succ]; omega, fun _ => ⟨by omega, ?_⟩⟩
      rw [Nat.add_sub_cancel]
      by_cases h2 : n / 2 = 0
      · rw [h2]
        have : Lib.bitLen 0 = 0 := by decide
        rw [this]; omega
      · obtain ⟨j1, j2⟩ := i2 h2
        have e2 : 2 ^ Lib.bitLen (n / 2) = 2 ^ (Lib.bitLen (n / 2) - 1) * 2 := by rw [← Nat.pow_succ]; congr 1; omega
        rw [e2]; omega
end Go.Proofs.Ythbadfnonjkbhaa.Fix
