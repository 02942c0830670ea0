/-
  VoteMeet.
-/
import Derived.Test.YtclobldldddjnaaVoteL
set_option linter.unusedVariables false
namespace Go.Proofs.Ytclobldldddjnaa.Vote
open Go.RowKit Go.Proofs.Ytclobldldddjnaa Go.Proofs.Ytclobldldddjnaa.Bv

/-- Two parts of a set, each more than half of it, meet. -/
theorem meet {m a b : Nat} (ha : a &&& m = a) (hb : b &&& m = b) (h1 : size m / 2 + 1 ≤ size a) (h2 : size m / 2 + 1 ≤ size b) : a &&& b ≠ 0 := by
  intro h
  have h3 := cnt_disj 32 a b h
  have h4 : (a ||| b) &&& m = a ||| b := by rw [Nat.and_or_distrib_right, ha, hb]
  have h5 := cnt_sub 32 (a ||| b) m h4
  unfold size at *
  omega
theorem cnt_zero (f x : Nat) (hx : x < 2 ^ f) (h : cnt f x = 0) : x = 0 := by
  induction f generalizing x with
  | zero => simpa using hx
  | succ f ih =>
    rw [cnt] at h
    have h1 : x % 2 = 0 := by omega
    have h2 := ih (x / 2) (by rw [Nat.pow_succ] at hx; omega) (by omega)
    omega
theorem size_16 {m : Nat} (h : m < 65536) : size m ≤ 16 := by
  unfold size
  rw [show (32 : Nat) = 16 + 16 from rfl, cnt_add, Nat.div_eq_of_lt (by simpa using h)]
  have h1 := cnt_le 16 m
  have h2 : cnt 16 0 = 0 := by decide
  omega
theorem most_ok (n : Nat) (h1 : 1 ≤ n) (h2 : n ≤ 16) (w : World) : Calls Try.prog 28 #[.int .i64 (n : Int)] w fun e w' => e = .returned (.tuple #[.int .i64 ((n : Int) / 2 + 1), .int .i64 0]) ∧ w = w' := by
  go_enter Try.func28, Try.ntmps28
  go_wp2_with fail
  go_ret2
  exact ⟨rfl, rfl⟩
theorem most_no (w : World) : Calls Try.prog 28 #[.int .i64 0] w fun e w' => e = .returned (.tuple #[.int .i64 0, .int .i64 1]) ∧ w = w' := by
  go_enter Try.func28, Try.ntmps28
  go_wp2_with fail
  go_ret2
  exact ⟨rfl, rfl⟩
set_option maxRecDepth 100000 in
set_option maxHeartbeats 1000000 in
theorem voteMeet_any (a0 : Int) (a1 : Int) (a2 : Int) (w : World) (w0 : (Lit.int .u32 a0).wf = true) (w1 : (Lit.int .u32 a1).wf = true) (w2 : (Lit.int .u32 a2).wf = true) :
    Calls Try.prog 10 #[.int .u32 a0, .int .u32 a1, .int .u32 a2] w fun e w' => e = .returned (.bool true) ∧ Below w.heap.size w w' := by
  simp [Lit.wf, IntKind.min, IntKind.max, IntKind.signed, IntKind.bits] at w0 w1 w2
  obtain ⟨M, rfl⟩ := Int.eq_ofNat_of_zero_le w0.1
  obtain ⟨A, rfl⟩ := Int.eq_ofNat_of_zero_le w1.1
  obtain ⟨B, rfl⟩ := Int.eq_ofNat_of_zero_le w2.1
  have hM : bits .and .u32 (M : Int) 65535 = ((M &&& 65535 : Nat) : Int) := and_num M 65535 (by omega) (by decide)
  have lM16 : M &&& 65535 < 65536 := Nat.lt_of_le_of_lt Nat.and_le_right (by decide)
  have lM : M &&& 65535 < 4294967296 := Nat.lt_of_le_of_lt Nat.and_le_right (by decide)
  have hA := and_num A (M &&& 65535) (by omega) lM
  have hB := and_num B (M &&& 65535) (by omega) lM
  have hab := and_num (A &&& (M &&& 65535)) (B &&& (M &&& 65535)) (Nat.lt_of_le_of_lt Nat.and_le_right lM) (Nat.lt_of_le_of_lt Nat.and_le_right lM)
  go_enter Try.func10, Try.ntmps10
  go_wp2_with fail
  have la : A &&& (M &&& 65535) < 4294967296 := Nat.lt_of_le_of_lt Nat.and_le_right lM
  have lb : B &&& (M &&& 65535) < 4294967296 := Nat.lt_of_le_of_lt Nat.and_le_right lM
  have ha : (A &&& (M &&& 65535)) &&& (M &&& 65535) = A &&& (M &&& 65535) := by rw [Nat.and_assoc, Nat.and_self]
  have hb : (B &&& (M &&& 65535)) &&& (M &&& 65535) = B &&& (M &&& 65535) := by rw [Nat.and_assoc, Nat.and_self]
  generalize M &&& 65535 = m at *
  generalize A &&& m = a at *
  generalize B &&& m = b at *
  clear hM hA hB w0 w1 w2
  have hmt := @meet m a b ha hb
  have hmz : size m = 0 → m = 0 := cnt_zero 32 m (by simpa using lM)
  have h16 := size_16 lM16
  refine (count32_any m lM _).mono ?_
  rintro e w1 ⟨rfl, q, rfl⟩
  clear ha hb
  by_cases hz : size m = 0
  · have hm0 := hmz hz
    subst hm0
    rw [hz]
    clear hz hmt hab hmz
    go_wp2_with fail
    refine (most_no _).mono ?_
    rintro e w2 ⟨rfl, rfl⟩
    go_wp2_with fail
    refine (lives_any _).mono ?_
    rintro e w2 ⟨rfl, hb2⟩
    go_wp2_with fail
    refine (lives_any _).mono ?_
    rintro e w3 ⟨rfl, hb3⟩
    go_wp2_with fail
    go_ret
    exact ⟨rfl, (below_drewN (Below.refl _ _) q).trans (hb2.trans (hb3.mono hb2.size))⟩
  · have h1 : 1 ≤ size m := by omega
    clear hz hmz
    have h1a := hmt
    generalize hsm : size m = s at *
    clear hsm hmt
    go_wp2_with fail
    refine (most_ok s h1 h16 _).mono ?_
    rintro e w2 ⟨rfl, rfl⟩
    go_wp2_with fail
    refine (lives_any _).mono ?_
    rintro e w2 ⟨rfl, hb2⟩
    have hb2 : Below w.heap.size w w2 := (below_drewN (Below.refl _ _) q).trans hb2
    go_wp2_with fail
    refine (count32_any a la _).mono ?_
    rintro e w3 ⟨rfl, q3, rfl⟩
    by_cases ca : size a < s / 2 + 1
    · have ca' : (size a : Int) < (s : Int) / 2 + 1 := by omega
      clear ca h1a
      go_wp2_with fail
      go_ret
      exact ⟨rfl, below_drewN hb2 q3⟩
    · have ca' : ¬ (size a : Int) < (s : Int) / 2 + 1 := by omega
      go_wp2_with fail
      refine (count32_any b lb _).mono ?_
      rintro e w4 ⟨rfl, q4, rfl⟩
      by_cases cb : size b < s / 2 + 1
      · have cb' : (size b : Int) < (s : Int) / 2 + 1 := by omega
        clear cb h1a ca
        go_wp2_with fail
        go_ret
        exact ⟨rfl, below_drewN hb2 _⟩
      · have cb' : ¬ (size b : Int) < (s : Int) / 2 + 1 := by omega
        have hne := h1a (by omega) (by omega)
        have hne' : (((a &&& b : Nat) : Int) != 0) = true := by rw [bne_iff_ne]; omega
        clear cb ca h1a hne
        go_wp2_with fail
        go_ret
        exact ⟨rfl, below_drewN hb2 _⟩
end Go.Proofs.Ytclobldldddjnaa.Vote
