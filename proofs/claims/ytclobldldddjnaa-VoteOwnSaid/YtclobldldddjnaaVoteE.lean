/-
  Voting as plain mathematics: who leaves until no one is outvoted.
-/
import Derived.Test.YtclobldldddjnaaVoteD
set_option linter.unusedVariables false
namespace Go.Proofs.Ytclobldldddjnaa.Vote
open Go.RowKit Go.Proofs.Ytclobldldddjnaa Go.Proofs.Ytclobldldddjnaa.Bv

def worst (m : Nat) (l : List Nat) : Int := outIdx ((size m : Int) / 2 + 1) l 0
def purge : Nat → Nat → List Nat → Nat × List Nat
  | 0, m, l => (m, l)
  | f + 1, m, l => if 0 ≤ worst m l then purge f (diff m (2 ^ (worst m l).toNat)) (leaveL l (worst m l).toNat) else (m, l)
/-- How many have some one against them. -/
def nz (l : List Nat) : Nat := (l.filter (· != 0)).length
theorem nz_le (l : List Nat) : nz l ≤ l.length := List.length_filter_le _ _
theorem outIdx_spec (t : Int) : ∀ (l : List Nat) (i : Nat), 0 ≤ outIdx t l i → ∃ j, ∃ h : j < l.length, outIdx t l i = ((i + j : Nat) : Int) ∧ t ≤ (size l[j] : Int)
  | [], i, h => by simp [outIdx] at h
  | x :: xs, i, h => by
    unfold outIdx at h ⊢
    by_cases hx : t ≤ (size x : Int)
    · rw [if_pos hx]
      exact ⟨0, by simp, by simp, hx⟩
    · rw [if_neg hx] at h ⊢
      obtain ⟨j, hj, h1, h2⟩ := outIdx_spec t xs (i + 1) h
      exact ⟨j + 1, by simp; exact hj, by rw [h1]; congr 1; omega, h2⟩
theorem worst_at {m : Nat} {l : List Nat} (h : 0 ≤ worst m l) : ∃ k : Nat, worst m l = (k : Int) ∧ ∃ hk : k < l.length, (size m : Int) / 2 + 1 ≤ (size l[k] : Int) := by
  obtain ⟨j, hj, h1, h2⟩ := outIdx_spec _ l 0 h
  exact ⟨j, by unfold worst; rw [h1]; simp, hj, h2⟩
theorem size_zero : size 0 = 0 := by decide
theorem leaveL_len (l : List Nat) (k : Nat) (h : l.length = 16) : (leaveL l k).length = 16 := by unfold leaveL; rw [part_len, List.length_set]; exact h
theorem leaveL_eq (l : List Nat) (k : Nat) (h : l.length = 16) : leaveL l k = (l.set k 0).map (out1 k) := by
  unfold leaveL part
  have h2 : (l.set k 0).length = 16 := by rw [List.length_set]; exact h
  rw [List.take_of_length_le (by omega), List.drop_eq_nil_of_le (by omega), List.append_nil]
theorem out1_zero (k : Nat) : out1 k 0 = 0 := by
  unfold out1 diff
  simp
theorem nz_map (f : Nat → Nat) (h0 : f 0 = 0) : ∀ l : List Nat, nz (l.map f) ≤ nz l
  | [] => Nat.le_refl _
  | x :: xs => by
    have ih := nz_map f h0 xs
    unfold nz at *
    rw [List.map_cons, List.filter_cons, List.filter_cons]
    by_cases hx : x = 0
    · subst hx; rw [h0]; simpa using ih
    · rw [if_pos (show (x != 0) = true by simp [hx])]
      split
      · rw [List.length_cons, List.length_cons]; exact Nat.succ_le_succ ih
      · rw [List.length_cons]; exact Nat.le_succ_of_le ih
theorem nz_set : ∀ (l : List Nat) (k : Nat) (hk : k < l.length), l[k] ≠ 0 → nz (l.set k 0) + 1 = nz l
  | x :: xs, 0, _, h => by
    unfold nz
    simp at h
    simp [h]
  | x :: xs, k + 1, hk, h => by
    have ih := nz_set xs k (by simpa using hk) (by simpa using h)
    unfold nz at *
    simp only [List.set_cons_succ, List.filter_cons]
    split
    · simp; omega
    · exact ih
theorem leave_less {m : Nat} {l : List Nat} (hl : l.length = 16) {k : Nat} (hk : k < l.length) (h : (size m : Int) / 2 + 1 ≤ (size l[k] : Int)) : nz (leaveL l k) < nz l := by
  have h0 : l[k] ≠ 0 := by
    intro h0
    rw [h0, size_zero] at h
    omega
  have h1 := nz_set l k hk h0
  rw [leaveL_eq l k hl]
  have h2 := nz_map (out1 k) (out1_zero k) (l.set k 0)
  omega
end Go.Proofs.Ytclobldldddjnaa.Vote
