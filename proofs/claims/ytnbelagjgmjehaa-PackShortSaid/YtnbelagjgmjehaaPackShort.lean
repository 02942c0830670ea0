/-
  The walk of the law PackShort: for every number it returns true; what was there stays.
-/
import Derived.Test.YtnbelagjgmjehaaPackCuts
set_option linter.unusedVariables false
namespace Go.Proofs.Ytnbelagjgmjehaa.Pack
open Go.RowKit Go.Proofs.Ytnbelagjgmjehaa.Bv

/-- The digits that are left to count. -/
theorem len_step {k m : Nat} (h : ¬ m < 128) : (putF (k + 1) m).length = (putF k (m / 128)).length + 1 := by rw [putF_ge h]; simp
theorem len_end {k m : Nat} (h : m < 128) : (putF k m).length = 1 := by rw [putF_lt h]; rfl

theorem fold_le (a b : Int) (h : -a ≤ b ∧ a ≤ b ∨ -a ≤ -b ∧ a ≤ -b) : foldN a ≤ foldN b + 1 := by
  unfold foldN
  split <;> split <;> omega
theorem fold_lt (a : Int) (h0 : -9223372036854775808 ≤ a) (h1 : a ≤ 9223372036854775807) : foldN a < 18446744073709551616 := by
  unfold foldN
  split <;> omega
theorem fold_lt' (a : Int) (h0 : -4611686018427387904 ≤ a) (h1 : a ≤ 9223372036854775807) : foldN a + 1 < 18446744073709551616 := by
  unfold foldN
  split <;> omega

set_option maxRecDepth 100000 in
set_option maxHeartbeats 1000000 in
theorem short_walk (a0 : Int) (a1 : Int) (a2 : Int) (w : World) (w0 : (Lit.int .u64 a0).wf = true) (w1 : (Lit.int .i64 a1).wf = true) (w2 : (Lit.int .i64 a2).wf = true) :
    Calls Try.prog 9 #[.int .u64 a0, .int .i64 a1, .int .i64 a2] w fun e w' => e = .returned (.bool true) ∧ Below w.heap.size w w' := by
  obtain ⟨N, rfl, hN⟩ := open_u64 w0
  have b1 := open_i64 w1
  have b2 := open_i64 w2
  clear w0 w1 w2
  have HP := Lib.hid (lt_pow hN)
  have HN := Lib.hid hN
  have hl := (putL_len N).1
  have HZ := Lib.hid (strOf_size (putL N))
  clear hN
  go_enter Try.func9, Try.ntmps9
  go_wp2_with fail
  go_loop [7, 8] (fun v x => ∃ (k m d : Nat), k ≤ 9 ∧ d ≤ 10 ∧ x = .int .u64 (m : Int) ∧ v = .int .i64 (d : Int) ∧ Hid (m < 128 ^ (k + 1)) ∧ Hid (m ≤ N) ∧ Hid (d + (putF k m).length = (putL N).length + 1)) (fun _ x => (intOf x).toNat)
  case atStart => exact ⟨9, N, 1, Nat.le_refl _, by decide, rfl, rfl, HP, Nat.le_refl _, Nat.add_comm _ _⟩
  case round =>
    obtain ⟨k, m, d, hk, hd, rfl, rfl, HM, HMN, HD⟩ := hrel
    by_cases hlt : 128 ≤ m
    · obtain ⟨k', rfl⟩ : ∃ k', k = k' + 1 := by
        cases k with
        | zero => have := HM.out; simp at this; omega
        | succ k' => exact ⟨k', rfl⟩
      have hlen := len_step (k := k') (m := m) (by omega)
      have h1 := (putF_len k' (m / 128)).2
      have h2 := HD.out
      have hw : IntKind.u64.wrap ((m : Int) / 128) = (m : Int) / 128 := by have h3 := HN.out; have h4 := HMN.out; rw [IntKind.wrap_u64]; omega
      go_wp2_with fail
      go_round
      case rel => exact ⟨k', m / 128, d + 1, by omega, by omega, by go_num, by go_num, pow_lt_div HM.out, Nat.le_trans (Nat.div_le_self _ _) HMN.out, show _ = _ by omega⟩
      case measure => simp [intOf]; omega
    · have hlen := len_end (k := k) (m := m) (by omega)
      have hd2 : d = (putL N).length := by have := HD.out; omega
      have hEq : (((strOf (putL N)).size : Int) == (d : Int)) = true := by
        rw [beq_iff_eq, HZ.out, hd2]
      clear hlen hd2
      by_cases c1 : a1 < -4611686018427387904
      · go_wp2_with fail
        refine (lives_any _).mono ?_
        rintro e w1 ⟨rfl, hb1⟩
        go_wp2_with fail
        go_ret
        exact ⟨rfl, hb1⟩
      by_cases c2 : a2 < -4611686018427387904
      · go_wp2_with fail
        refine (lives_any _).mono ?_
        rintro e w1 ⟨rfl, hb1⟩
        go_wp2_with fail
        go_ret
        exact ⟨rfl, hb1⟩
      have hw1 : IntKind.u64.wrap ((foldN a1 : Int) + 1) = (foldN a1 : Int) + 1 := by have := fold_lt' a1 (by omega) (by omega); rw [IntKind.wrap_u64]; omega
      have hw2 : IntKind.u64.wrap ((foldN a2 : Int) + 1) = (foldN a2 : Int) + 1 := by have := fold_lt' a2 (by omega) (by omega); rw [IntKind.wrap_u64]; omega
      have main : ∀ a b : Int, (-a ≤ b ∧ a ≤ b ∨ -a ≤ -b ∧ a ≤ -b) → Hid ((strOf (putL (foldN a))).size ≤ (strOf (putL (foldN b + 1))).size) := by
        intro a b h
        show _ ≤ _
        rw [strOf_size, strOf_size]
        exact putL_mono (fold_le a b h)
      have s1 : a1 < 0 ∨ 0 ≤ a1 := by omega
      have s2 : a2 < 0 ∨ 0 ≤ a2 := by omega
      rcases s1 with s1 | s1 <;> rcases s2 with s2 | s2
      · by_cases hsw : -a2 < -a1
        · have HF := main a2 a1 (by omega)
          clear main
          go_wp2_with fail
          refine (lives_any _).mono ?_
          rintro e w1 ⟨rfl, hb1⟩
          go_wp2_with fail
          refine (put_any N HN.out _ rfl _).mono ?_
          rintro e w2 ⟨rfl, hb2⟩
          go_wp2_with fail
          refine (fold_any _ (by omega) (by omega) _).mono ?_
          rintro e w3 ⟨rfl, rfl⟩
          go_wp2_with fail
          refine (put_any _ (fold_lt _ (by omega) (by omega)) _ rfl _).mono ?_
          rintro e w4 ⟨rfl, hb4⟩
          go_wp2_with fail
          refine (fold_any _ (by omega) (by omega) _).mono ?_
          rintro e w5 ⟨rfl, rfl⟩
          go_wp2_with fail
          refine (put_any (_ + 1) (fold_lt' _ (by omega) (by omega)) _ rfl _).mono ?_
          rintro e w6 ⟨rfl, hb6⟩
          go_wp2_with fail
          go_ret
          exact ⟨ret_true (by simpa using HF.out), hb1.trans ((hb2.mono hb1.size).trans ((hb4.mono (Nat.le_trans hb1.size hb2.size)).trans (hb6.mono (Nat.le_trans hb1.size (Nat.le_trans hb2.size hb4.size)))))⟩
        · have HF := main a1 a2 (by omega)
          clear main
          go_wp2_with fail
          refine (lives_any _).mono ?_
          rintro e w1 ⟨rfl, hb1⟩
          go_wp2_with fail
          refine (put_any N HN.out _ rfl _).mono ?_
          rintro e w2 ⟨rfl, hb2⟩
          go_wp2_with fail
          refine (fold_any _ (by omega) (by omega) _).mono ?_
          rintro e w3 ⟨rfl, rfl⟩
          go_wp2_with fail
          refine (put_any _ (fold_lt _ (by omega) (by omega)) _ rfl _).mono ?_
          rintro e w4 ⟨rfl, hb4⟩
          go_wp2_with fail
          refine (fold_any _ (by omega) (by omega) _).mono ?_
          rintro e w5 ⟨rfl, rfl⟩
          go_wp2_with fail
          refine (put_any (_ + 1) (fold_lt' _ (by omega) (by omega)) _ rfl _).mono ?_
          rintro e w6 ⟨rfl, hb6⟩
          go_wp2_with fail
          go_ret
          exact ⟨ret_true (by simpa using HF.out), hb1.trans ((hb2.mono hb1.size).trans ((hb4.mono (Nat.le_trans hb1.size hb2.size)).trans (hb6.mono (Nat.le_trans hb1.size (Nat.le_trans hb2.size hb4.size)))))⟩
      · by_cases hsw : a2 < -a1
        · have HF := main a2 a1 (by omega)
          clear main
          go_wp2_with fail
          refine (lives_any _).mono ?_
          rintro e w1 ⟨rfl, hb1⟩
          go_wp2_with fail
          refine (put_any N HN.out _ rfl _).mono ?_
          rintro e w2 ⟨rfl, hb2⟩
          go_wp2_with fail
          refine (fold_any _ (by omega) (by omega) _).mono ?_
          rintro e w3 ⟨rfl, rfl⟩
          go_wp2_with fail
          refine (put_any _ (fold_lt _ (by omega) (by omega)) _ rfl _).mono ?_
          rintro e w4 ⟨rfl, hb4⟩
          go_wp2_with fail
          refine (fold_any _ (by omega) (by omega) _).mono ?_
          rintro e w5 ⟨rfl, rfl⟩
          go_wp2_with fail
          refine (put_any (_ + 1) (fold_lt' _ (by omega) (by omega)) _ rfl _).mono ?_
          rintro e w6 ⟨rfl, hb6⟩
          go_wp2_with fail
          go_ret
          exact ⟨ret_true (by simpa using HF.out), hb1.trans ((hb2.mono hb1.size).trans ((hb4.mono (Nat.le_trans hb1.size hb2.size)).trans (hb6.mono (Nat.le_trans hb1.size (Nat.le_trans hb2.size hb4.size)))))⟩
        · have HF := main a1 a2 (by omega)
          clear main
          go_wp2_with fail
          refine (lives_any _).mono ?_
          rintro e w1 ⟨rfl, hb1⟩
          go_wp2_with fail
          refine (put_any N HN.out _ rfl _).mono ?_
          rintro e w2 ⟨rfl, hb2⟩
          go_wp2_with fail
          refine (fold_any _ (by omega) (by omega) _).mono ?_
          rintro e w3 ⟨rfl, rfl⟩
          go_wp2_with fail
          refine (put_any _ (fold_lt _ (by omega) (by omega)) _ rfl _).mono ?_
          rintro e w4 ⟨rfl, hb4⟩
          go_wp2_with fail
          refine (fold_any _ (by omega) (by omega) _).mono ?_
          rintro e w5 ⟨rfl, rfl⟩
          go_wp2_with fail
          refine (put_any (_ + 1) (fold_lt' _ (by omega) (by omega)) _ rfl _).mono ?_
          rintro e w6 ⟨rfl, hb6⟩
          go_wp2_with fail
          go_ret
          exact ⟨ret_true (by simpa using HF.out), hb1.trans ((hb2.mono hb1.size).trans ((hb4.mono (Nat.le_trans hb1.size hb2.size)).trans (hb6.mono (Nat.le_trans hb1.size (Nat.le_trans hb2.size hb4.size)))))⟩
      · by_cases hsw : -a2 < a1
        · have HF := main a2 a1 (by omega)
          clear main
          go_wp2_with fail
          refine (lives_any _).mono ?_
          rintro e w1 ⟨rfl, hb1⟩
          go_wp2_with fail
          refine (put_any N HN.out _ rfl _).mono ?_
          rintro e w2 ⟨rfl, hb2⟩
          go_wp2_with fail
          refine (fold_any _ (by omega) (by omega) _).mono ?_
          rintro e w3 ⟨rfl, rfl⟩
          go_wp2_with fail
          refine (put_any _ (fold_lt _ (by omega) (by omega)) _ rfl _).mono ?_
          rintro e w4 ⟨rfl, hb4⟩
          go_wp2_with fail
          refine (fold_any _ (by omega) (by omega) _).mono ?_
          rintro e w5 ⟨rfl, rfl⟩
          go_wp2_with fail
          refine (put_any (_ + 1) (fold_lt' _ (by omega) (by omega)) _ rfl _).mono ?_
          rintro e w6 ⟨rfl, hb6⟩
          go_wp2_with fail
          go_ret
          exact ⟨ret_true (by simpa using HF.out), hb1.trans ((hb2.mono hb1.size).trans ((hb4.mono (Nat.le_trans hb1.size hb2.size)).trans (hb6.mono (Nat.le_trans hb1.size (Nat.le_trans hb2.size hb4.size)))))⟩
        · have HF := main a1 a2 (by omega)
          clear main
          go_wp2_with fail
          refine (lives_any _).mono ?_
          rintro e w1 ⟨rfl, hb1⟩
          go_wp2_with fail
          refine (put_any N HN.out _ rfl _).mono ?_
          rintro e w2 ⟨rfl, hb2⟩
          go_wp2_with fail
          refine (fold_any _ (by omega) (by omega) _).mono ?_
          rintro e w3 ⟨rfl, rfl⟩
          go_wp2_with fail
          refine (put_any _ (fold_lt _ (by omega) (by omega)) _ rfl _).mono ?_
          rintro e w4 ⟨rfl, hb4⟩
          go_wp2_with fail
          refine (fold_any _ (by omega) (by omega) _).mono ?_
          rintro e w5 ⟨rfl, rfl⟩
          go_wp2_with fail
          refine (put_any (_ + 1) (fold_lt' _ (by omega) (by omega)) _ rfl _).mono ?_
          rintro e w6 ⟨rfl, hb6⟩
          go_wp2_with fail
          go_ret
          exact ⟨ret_true (by simpa using HF.out), hb1.trans ((hb2.mono hb1.size).trans ((hb4.mono (Nat.le_trans hb1.size hb2.size)).trans (hb6.mono (Nat.le_trans hb1.size (Nat.le_trans hb2.size hb4.size)))))⟩
      · by_cases hsw : a2 < a1
        · have HF := main a2 a1 (by omega)
          clear main
          go_wp2_with fail
          refine (lives_any _).mono ?_
          rintro e w1 ⟨rfl, hb1⟩
          go_wp2_with fail
          refine (put_any N HN.out _ rfl _).mono ?_
          rintro e w2 ⟨rfl, hb2⟩
          go_wp2_with fail
          refine (fold_any _ (by omega) (by omega) _).mono ?_
          rintro e w3 ⟨rfl, rfl⟩
          go_wp2_with fail
          refine (put_any _ (fold_lt _ (by omega) (by omega)) _ rfl _).mono ?_
          rintro e w4 ⟨rfl, hb4⟩
          go_wp2_with fail
          refine (fold_any _ (by omega) (by omega) _).mono ?_
          rintro e w5 ⟨rfl, rfl⟩
          go_wp2_with fail
          refine (put_any (_ + 1) (fold_lt' _ (by omega) (by omega)) _ rfl _).mono ?_
          rintro e w6 ⟨rfl, hb6⟩
          go_wp2_with fail
          go_ret
          exact ⟨ret_true (by simpa using HF.out), hb1.trans ((hb2.mono hb1.size).trans ((hb4.mono (Nat.le_trans hb1.size hb2.size)).trans (hb6.mono (Nat.le_trans hb1.size (Nat.le_trans hb2.size hb4.size)))))⟩
        · have HF := main a1 a2 (by omega)
          clear main
          go_wp2_with fail
          refine (lives_any _).mono ?_
          rintro e w1 ⟨rfl, hb1⟩
          go_wp2_with fail
          refine (put_any N HN.out _ rfl _).mono ?_
          rintro e w2 ⟨rfl, hb2⟩
          go_wp2_with fail
          refine (fold_any _ (by omega) (by omega) _).mono ?_
          rintro e w3 ⟨rfl, rfl⟩
          go_wp2_with fail
          refine (put_any _ (fold_lt _ (by omega) (by omega)) _ rfl _).mono ?_
          rintro e w4 ⟨rfl, hb4⟩
          go_wp2_with fail
          refine (fold_any _ (by omega) (by omega) _).mono ?_
          rintro e w5 ⟨rfl, rfl⟩
          go_wp2_with fail
          refine (put_any (_ + 1) (fold_lt' _ (by omega) (by omega)) _ rfl _).mono ?_
          rintro e w6 ⟨rfl, hb6⟩
          go_wp2_with fail
          go_ret
          exact ⟨ret_true (by simpa using HF.out), hb1.trans ((hb2.mono hb1.size).trans ((hb4.mono (Nat.le_trans hb1.size hb2.size)).trans (hb6.mono (Nat.le_trans hb1.size (Nat.le_trans hb2.size hb4.size)))))⟩
end Go.Proofs.Ytnbelagjgmjehaa.Pack
