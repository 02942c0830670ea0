/-
  Sets of players as bits of a number: how many there are.
-/
import Derived.WalkKit
import Derived.Lib.BitFns
set_option linter.unusedVariables false
namespace Go.Proofs.Ytclobldldddjnaa.Vote

theorem and2 (a b : Nat) : (a &&& b) % 2 = a % 2 &&& b % 2 := by
  have := @Nat.and_mod_two_pow a b 1
  simpa using this
theorem or2 (a b : Nat) : (a ||| b) % 2 = a % 2 ||| b % 2 := by
  have := @Nat.or_mod_two_pow a b 1
  simpa using this
theorem div2 {a b c : Nat} (h : a &&& b = c) : a / 2 &&& b / 2 = c / 2 := by rw [← h, Nat.and_div_two]

/-- How many bits are set. -/
def cnt : Nat → Nat → Nat
  | 0, _ => 0
  | f + 1, x => x % 2 + cnt f (x / 2)
theorem cnt_eq (f x : Nat) : cnt f x = Lib.popAux f x := by
  induction f generalizing x with
  | zero => rfl
  | succ f ih => simp [cnt, Lib.popAux, ih]
theorem cnt_add (f g x : Nat) : cnt (f + g) x = cnt f x + cnt g (x / 2 ^ f) := by
  induction f generalizing x with
  | zero => simp [cnt]
  | succ f ih =>
    rw [Nat.succ_add, cnt, cnt, ih, Nat.div_div_eq_div_mul, Nat.pow_succ, Nat.mul_comm 2]
    omega
theorem cnt_mod (f x : Nat) : cnt f (x % 2 ^ f) = cnt f x := by
  induction f generalizing x with
  | zero => rfl
  | succ f ih =>
    rw [cnt, cnt, Nat.pow_succ]
    have h1 : x % (2 ^ f * 2) % 2 = x % 2 := Nat.mod_mod_of_dvd _ ⟨2 ^ f, Nat.mul_comm _ _⟩
    have h2 : x % (2 ^ f * 2) / 2 = x / 2 % 2 ^ f := by rw [Nat.mul_comm, Nat.mod_mul_right_div_self]
    rw [h1, h2, ih]
theorem cnt_le (f x : Nat) : cnt f x ≤ f := by
  induction f generalizing x with
  | zero => exact Nat.le_refl _
  | succ f ih => have := ih (x / 2); rw [cnt]; omega
/-- The size of a set of at most 32. -/
def size (x : Nat) : Nat := cnt 32 x
theorem size_bytes (x : Nat) (h : x < 4294967296) : size x = cnt 8 (x / 16777216) + cnt 8 (x / 65536 % 256) + cnt 8 (x / 256 % 256) + cnt 8 (x % 256) := by
  unfold size
  rw [show (32 : Nat) = 8 + (8 + (8 + 8)) from rfl, cnt_add, cnt_add, cnt_add, Nat.div_div_eq_div_mul, Nat.div_div_eq_div_mul]
  rw [show (256 : Nat) = 2 ^ 8 from rfl, cnt_mod, cnt_mod, cnt_mod]
  simp only [Nat.reducePow, Nat.reduceMul]
  omega
/-- Of two sets that have no one in both, all together are as many as both. -/
theorem cnt_disj (f a b : Nat) (h : a &&& b = 0) : cnt f (a ||| b) = cnt f a + cnt f b := by
  induction f generalizing a b with
  | zero => rfl
  | succ f ih =>
    have h2 : a / 2 &&& b / 2 = 0 := div2 h
    have h1 : a % 2 &&& b % 2 = 0 := by rw [← and2, h]
    rw [cnt, cnt, cnt, Nat.or_div_two, ih _ _ h2]
    have e : (a ||| b) % 2 = a % 2 + b % 2 := by
      rw [or2]
      rcases Nat.mod_two_eq_zero_or_one a with ha | ha <;> rcases Nat.mod_two_eq_zero_or_one b with hm | hm
      all_goals rw [ha, hm] at h1 ⊢
      all_goals first | rfl | (simp at h1)
    omega
/-- A part has no more than the whole. -/
theorem cnt_sub (f a m : Nat) (h : a &&& m = a) : cnt f a ≤ cnt f m := by
  induction f generalizing a m with
  | zero => exact Nat.le_refl _
  | succ f ih =>
    have h2 : a / 2 &&& m / 2 = a / 2 := div2 h
    have h1 : a % 2 &&& m % 2 = a % 2 := by rw [← and2, h]
    have := ih _ _ h2
    rw [cnt, cnt]
    rcases Nat.mod_two_eq_zero_or_one a with ha | ha <;> rcases Nat.mod_two_eq_zero_or_one m with hm | hm
    all_goals rw [ha, hm] at h1 ⊢
    all_goals first | omega | (simp at h1)
/-- The table's number. -/
theorem pop8_cnt (n : Nat) (h : n < 256) : Lib.pop8 (n : Int) = (cnt 8 n : Int) := by
  have e := Lib.pop8_eq ⟨n, h⟩
  have e2 : ∀ m : Fin 256, Lib.onesCount m.val = cnt 8 m.val := by decide +kernel
  rw [e2 ⟨n, h⟩] at e
  exact e
end Go.Proofs.Ytclobldldddjnaa.Vote
