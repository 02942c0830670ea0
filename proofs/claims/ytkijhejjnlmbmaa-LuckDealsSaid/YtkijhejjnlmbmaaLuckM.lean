/-
  The numbers by luck as plain mathematics on words of 32 bits: what many steps are, and that they go round all numbers; for every word.
-/
import Derived.Test.YtkijhejjnlmbmaaBas
namespace Go.Proofs.Ytkijhejjnlmbmaa.Luck
open Go.Proofs.Ytkijhejjnlmbmaa.Bv

abbrev W := BitVec 32
def iter {α : Type} (f : α → α) : Nat → α → α
  | 0, s => s
  | n + 1, s => iter f n (f s)
theorem iter_zero {α : Type} (f : α → α) (s : α) : iter f 0 s = s := rfl
theorem iter_one {α : Type} (f : α → α) (s : α) : iter f 1 s = f s := rfl
theorem iter_s {α : Type} (f : α → α) (n : Nat) (s : α) : iter f (n + 1) s = iter f n (f s) := rfl
theorem iter_add {α : Type} (f : α → α) (m n : Nat) (s : α) : iter f (m + n) s = iter f n (iter f m s) := by
  induction m generalizing s with
  | zero => rw [Nat.zero_add]; rfl
  | succ m ih => rw [Nat.succ_add, iter_s, iter_s, ih]
theorem iter_succ' {α : Type} (f : α → α) (n : Nat) (s : α) : iter f (n + 1) s = f (iter f n s) := by rw [iter_add, iter_one]

def next (s : W) : W := 1664525#32 * s + 1013904223#32
def back (s : W) : W := 4276115653#32 * (s - 1013904223#32)
/-- What a power of two of steps is: a factor and a summand. -/
def dbl (p : W × W) : W × W := (p.1 * p.1, p.2 * p.1 + p.2)
def pow2 : Nat → W × W := fun k => iter dbl k (1664525#32, 1013904223#32)
theorem pow2_zero : pow2 0 = (1664525#32, 1013904223#32) := by unfold pow2; rw [iter_zero]
theorem pow2_succ (k : Nat) : pow2 (k + 1) = dbl (pow2 k) := by unfold pow2; rw [iter_succ']
theorem pow2_iter (k : Nat) (s : W) : iter next (2 ^ k) s = (pow2 k).1 * s + (pow2 k).2 := by
  induction k generalizing s with
  | zero => rw [Nat.pow_zero, iter_one, pow2_zero, next]
  | succ k ih =>
    rw [Nat.pow_succ, Nat.mul_two, iter_add, ih, ih, pow2_succ, dbl]
    simp only
    generalize (pow2 k).1 = a
    generalize (pow2 k).2 = b
    rw [BitVec.mul_add, BitVec.mul_comm b a, BitVec.mul_assoc, BitVec.add_assoc]

/-- The loop of Skip: one bit more is done. -/
theorem skip_step (m k : Nat) (f a : W) (hf : ∀ x, f * x + a = iter next m x) (x : W) : (f * (pow2 k).1) * x + (a * (pow2 k).1 + (pow2 k).2) = iter next (m + 2 ^ k) x := by
  rw [iter_add, ← hf, pow2_iter, BitVec.mul_add, BitVec.add_assoc]
  generalize (pow2 k).1 = g
  generalize (pow2 k).2 = b
  rw [BitVec.mul_comm f g, BitVec.mul_assoc, BitVec.mul_comm a g]

/-- The order: so many steps as a power of two, and the numbers differ first at that very bit. -/
theorem pow2_form (k : Nat) : ∃ u v : Nat, (pow2 k).1 = BitVec.ofNat 32 (2 ^ (k + 2) * u + 1) ∧ (pow2 k).2 = BitVec.ofNat 32 (2 ^ (k + 1) * v + 2 ^ k) := by
  induction k with
  | zero => exact ⟨416131, 506952111, by rw [pow2_zero], by rw [pow2_zero]⟩
  | succ k ih =>
    obtain ⟨u, v, h1, h2⟩ := ih
    rw [pow2_succ, dbl, h1, h2]
    refine ⟨2 ^ (k + 1) * u * u + u, 2 ^ (k + 1) * u * v + 2 ^ k * u + v, ?_, ?_⟩
    · simp only
      rw [← BitVec.ofNat_mul]
      congr 1
      have e : 2 ^ (k + 1 + 2) = 2 * 2 ^ (k + 2) := by rw [show k + 1 + 2 = (k + 2) + 1 by omega, Nat.pow_succ]; omega
      have e2 : 2 ^ (k + 2) = 2 * 2 ^ (k + 1) := by rw [show k + 2 = (k + 1) + 1 by omega, Nat.pow_succ]; omega
      rw [e, e2]
      generalize 2 ^ (k + 1) = p
      grind
    · simp only
      rw [← BitVec.ofNat_mul, ← BitVec.ofNat_add]
      congr 1
      have e3 : 2 ^ (k + 1 + 1) = 4 * 2 ^ k := by rw [Nat.pow_succ, Nat.pow_succ]; omega
      have e1 : 2 ^ (k + 1) = 2 * 2 ^ k := by rw [Nat.pow_succ]; omega
      simp only [e3, e1]
      generalize 2 ^ k = p
      grind

/-- So many steps come back. -/
theorem round (b : Nat) (hb : b ≤ 32) (x : W) : (iter next (2 ^ b) x).toNat % 2 ^ b = x.toNat % 2 ^ b := by
  obtain ⟨u, v, h1, h2⟩ := pow2_form b
  rw [pow2_iter, h1, h2]
  have hd : 2 ^ b ∣ 2 ^ 32 := Nat.pow_dvd_pow 2 hb
  rw [BitVec.toNat_add, BitVec.toNat_mul, BitVec.toNat_ofNat, BitVec.toNat_ofNat]
  rw [Nat.mod_mod_of_dvd _ hd, Nat.add_mod, Nat.mod_mod_of_dvd _ hd, Nat.mod_mod_of_dvd _ hd, Nat.mul_mod, Nat.mod_mod_of_dvd _ hd, ← Nat.mul_mod, ← Nat.add_mod]
  have e2 : (2 ^ (b + 2) * u + 1) * x.toNat + (2 ^ (b + 1) * v + 2 ^ b) = x.toNat + 2 ^ b * (4 * u * x.toNat + 2 * v + 1) := by
    rw [show 2 ^ (b + 2) = 4 * 2 ^ b by rw [Nat.pow_succ, Nat.pow_succ]; omega, show 2 ^ (b + 1) = 2 * 2 ^ b by rw [Nat.pow_succ]; omega]
    generalize 2 ^ b = p
    grind
  rw [e2, Nat.add_mul_mod_self_left]
end Go.Proofs.Ytkijhejjnlmbmaa.Luck
