/-
  Numbers of as many bytes as they need, as plain mathematics; for every number below 2^64 and every list of bytes.
-/
import Derived.Test.YtfabhinehfhndaaBas
namespace Go.Proofs.Ytfabhinehfhndaa.Pack
open Go.Proofs.Ytfabhinehfhndaa.Bv

/-- The bytes of a number, at most so many behind the first. -/
def putF : Nat → Nat → List UInt8
  | 0, n => [UInt8.ofNat n]
  | k + 1, n => if n < 128 then [UInt8.ofNat n] else UInt8.ofNat (n % 128 + 128) :: putF k (n / 128)
def putL (n : Nat) : List UInt8 := putF 9 n
def val : List UInt8 → Nat
  | [] => 0
  | b :: l => b.toNat % 128 + 128 * val l

theorem putF_lt {k n : Nat} (h : n < 128) : putF k n = [UInt8.ofNat n] := by
  cases k with
  | zero => rfl
  | succ k => unfold putF; rw [if_pos h]
theorem putF_ge {k n : Nat} (h : ¬ n < 128) : putF (k + 1) n = UInt8.ofNat (n % 128 + 128) :: putF k (n / 128) := by
  rw [putF]; rw [if_neg h]
theorem putF_len (k n : Nat) : (putF k n).length ≤ k + 1 ∧ 1 ≤ (putF k n).length := by
  induction k generalizing n with
  | zero => simp [putF]
  | succ k ih =>
    by_cases h : n < 128
    · rw [putF_lt h]; simp
    · rw [putF_ge h]; have := ih (n / 128); simp; omega
theorem putL_len (n : Nat) : (putL n).length ≤ 10 ∧ 1 ≤ (putL n).length := putF_len 9 n

theorem pow_lt_div {n k : Nat} (h : n < 128 ^ (k + 2)) : n / 128 < 128 ^ (k + 1) := by
  rw [Nat.pow_succ] at h
  exact Nat.div_lt_of_lt_mul (by rw [Nat.mul_comm]; exact h)
theorem val_putF (k n : Nat) (h : n < 128 ^ (k + 1)) : val (putF k n) = n := by
  induction k generalizing n with
  | zero =>
    have h1 : n < 128 := by simpa using h
    simp only [putF, val, UInt8.toNat_ofNat']
    omega
  | succ k ih =>
    by_cases h1 : n < 128
    · rw [putF_lt h1]
      simp only [val, UInt8.toNat_ofNat']
      omega
    · rw [putF_ge h1]
      simp only [val, UInt8.toNat_ofNat']
      rw [ih (n / 128) (pow_lt_div h)]
      omega
theorem lt_pow {n : Nat} (h : n < 18446744073709551616) : n < 128 ^ (9 + 1) := Nat.lt_of_lt_of_le h (by decide)
theorem val_putL (n : Nat) (h : n < 18446744073709551616) : val (putL n) = n := val_putF 9 n (lt_pow h)
/-- All bytes but the last are great, the last one is not. -/
theorem putF_high (k n i : Nat) (hn : n < 128 ^ (k + 1)) (h : i + 1 < (putF k n).length) (hi : i < (putF k n).length) : 128 ≤ ((putF k n)[i]).toNat := by
  induction k generalizing n i with
  | zero => simp [putF] at h
  | succ k ih =>
    by_cases h1 : n < 128
    · simp [putF_lt h1] at h
    · simp only [putF_ge h1] at h hi ⊢
      cases i with
      | zero => simp only [List.getElem_cons_zero, UInt8.toNat_ofNat']; omega
      | succ i =>
        simp only [List.getElem_cons_succ]
        exact ih (n / 128) i (pow_lt_div hn) (by simpa using h) (by simpa using hi)
theorem putF_last (k n : Nat) (hn : n < 128 ^ (k + 1)) (i : Nat) (hi : i < (putF k n).length) (hl : i + 1 = (putF k n).length) : ((putF k n)[i]).toNat < 128 := by
  induction k generalizing n i with
  | zero =>
    have h1 : n < 128 := by simpa using hn
    simp only [putF, List.getElem_singleton, UInt8.toNat_ofNat']
    omega
  | succ k ih =>
    by_cases h1 : n < 128
    · simp only [putF_lt h1, List.getElem_singleton, UInt8.toNat_ofNat']
      omega
    · simp only [putF_ge h1] at hl hi ⊢
      cases i with
      | zero =>
        have h2 := (putF_len k (n / 128)).2
        rw [List.length_cons] at hl
        omega
      | succ i =>
        simp only [List.getElem_cons_succ]
        exact ih (n / 128) (pow_lt_div hn) i (by simpa using hi) (by simpa using hl)
theorem val_snoc (l : List UInt8) (b : UInt8) : val (l ++ [b]) = val l + 128 ^ l.length * (b.toNat % 128) := by
  induction l with
  | nil => simp [val]
  | cons x l ih =>
    simp only [List.cons_append, val, ih, List.length_cons, Nat.pow_succ]
    rw [Nat.mul_add, ← Nat.mul_assoc, Nat.mul_comm 128 (128 ^ l.length)]
    omega
theorem val_lt (l : List UInt8) : val l < 128 ^ l.length := by
  induction l with
  | nil => simp [val]
  | cons x l ih =>
    simp only [val, List.length_cons, Nat.pow_succ]
    omega

/-- What is read of a text: the number, what stands behind it, the error. -/
def GetIs (l : List UInt8) (n : Nat) (rest : List UInt8) (e : Int) : Prop :=
  (∃ k, k < 10 ∧ k < l.length ∧ (∀ i (h : i < l.length), i < k → 128 ≤ l[i].toNat) ∧ (∀ h : k < l.length, l[k].toNat < 128) ∧
    ((putL (val (l.take (k + 1)) % 18446744073709551616) = l.take (k + 1) ∧ n = val (l.take (k + 1)) % 18446744073709551616 ∧ rest = l.drop (k + 1) ∧ e = 0) ∨
     (putL (val (l.take (k + 1)) % 18446744073709551616) ≠ l.take (k + 1) ∧ n = 0 ∧ rest = [] ∧ e = 4))) ∨
  (l.length < 10 ∧ (∀ i (h : i < l.length), 128 ≤ l[i].toNat) ∧ n = 0 ∧ rest = [] ∧ e = 3) ∨
  (10 ≤ l.length ∧ (∀ i (h : i < l.length), i < 10 → 128 ≤ l[i].toNat) ∧ n = 0 ∧ rest = [] ∧ e = 4)

/-- The number that stands for one that may be below nought. -/
def foldN (x : Int) : Nat := if 0 ≤ x then (2 * x).toNat else (-2 * x - 1).toNat
end Go.Proofs.Ytfabhinehfhndaa.Pack
