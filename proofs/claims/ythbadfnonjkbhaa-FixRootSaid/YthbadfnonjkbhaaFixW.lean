/-
  The walks of fix.Keep, fix.Add, fix.Mul, fix.Div and fix.Root: each returns what the plain mathematics says; for every int.
-/
import Derived.Test.YthbadfnonjkbhaaProg
import Derived.Test.YthbadfnonjkbhaaBase
import Derived.Test.YthbadfnonjkbhaaFixM
import Derived.Test.YthbadfnonjkbhaaShelf
set_option linter.unusedVariables false
namespace Go.Proofs.Ythbadfnonjkbhaa.Fix
open Go.RowKit Go.Proofs.Ythbadfnonjkbhaa.Bv

theorem ret_int {a b : Int} (h : a = b) : Ending.returned (.int .i64 a) = .returned (.int .i64 b) := by rw [h]
theorem ret_ie {a b : Int} {k : Int} (h : a = b) : Ending.returned (.tuple #[.int .i64 a, .int .i64 k]) = .returned (.tuple #[.int .i64 b, .int .i64 k]) := by rw [h]

theorem keep_any (x : Int) (w : World) :
    Calls Try.prog 19 #[.int .i64 x] w fun e w' => e = .returned (.int .i64 (keep x)) ∧ w = w' := by
  go_enter Try.func19, Try.ntmps19
  go_wp2
  go_ret
  exact ⟨ret_int (by unfold keep; split <;> (try split) <;> omega), rfl⟩

theorem add_any (a b : Int) (w : World) :
    Calls Try.prog 17 #[.int .i64 a, .int .i64 b] w fun e w' => e = .returned (.int .i64 (add a b)) ∧ w = w' := by
  have h1 := keep_bd a
  have h2 := keep_bd b
  go_enter Try.func17, Try.ntmps17
  go_wp2_with (go_at_call 19; refine (keep_any _ _).mono ?_; rintro e w' ⟨rfl, rfl⟩)
  go_ret
  exact ⟨rfl, rfl⟩

theorem mul_any (a b : Int) (w : World) :
    Calls Try.prog 18 #[.int .i64 a, .int .i64 b] w fun e w' => e = .returned (.int .i64 (mul a b)) ∧ w = w' := by
  have h1 := keep_bd a
  have h2 := keep_bd b
  have h3 := prod_bd (keep a) (keep b) h1 h2
  go_enter Try.func18, Try.ntmps18
  go_wp2_with (go_at_call 19; refine (keep_any _ _).mono ?_; rintro e w' ⟨rfl, rfl⟩)
  go_ret
  exact ⟨rfl, rfl⟩

/-- Rounded down. -/
def DownPost (a b : Int) (w : World) (e : Ending) (w' : World) : Prop := ∃ q : Int, Down a b q ∧ -4611686018427387905 ≤ q ∧ q ≤ 4611686018427387904 ∧ e = .returned (.int .i64 q) ∧ w = w'
theorem down_any (a b : Int) (ha : -4611686018427387904 ≤ a ∧ a ≤ 4611686018427387904) (h0 : ¬ b = 0) (w : World) :
    Calls Try.prog 45 #[.int .i64 a, .int .i64 b] w (DownPost a b w) := by
  have hb := tdiv_bd a b ha
  have h1 : wrap64 (a.tdiv b) = a.tdiv b := by unfold wrap64; omega
  have h2 : wrap64 (a.tdiv b - 1) = a.tdiv b - 1 := by unfold wrap64; omega
  by_cases hm : a.tmod b = 0
  · have HM := Lib.hid hm
    go_enter Try.func45, Try.ntmps45
    go_wp2
    go_ret
    exact ⟨a.tdiv b, down_same h0 (.inl HM.out), by omega, by omega, ret_int (by first | rfl | exact h1), rfl⟩
  · have hm' : (a.tmod b != 0) = true := by simp [hm]
    have HM := Lib.hid hm
    clear hm
    by_cases hs : (a < 0 ↔ b < 0)
    · have hd : decide (a < 0) = decide (b < 0) := by simp [hs]
      have hd' : (!decide (a < 0) == decide (b < 0)) = false := by rw [hd]; simp
      have HS := Lib.hid hs
      clear hs hd
      go_enter Try.func45, Try.ntmps45
      go_wp2
      go_ret
      exact ⟨a.tdiv b, down_same h0 (.inr HS.out), by omega, by omega, rfl, rfl⟩
    · have hs2 : (a < 0 ↔ ¬ b < 0) := by omega
      have hd' : (!decide (a < 0) == decide (b < 0)) = true := by
        by_cases ha : a < 0
        · have hb : ¬ b < 0 := by omega
          simp [ha, hb]
        · have hb : b < 0 := by omega
          simp [ha, hb]
      have HS := Lib.hid hs2
      clear hs hs2
      go_enter Try.func45, Try.ntmps45
      go_wp2
      go_ret
      exact ⟨a.tdiv b - 1, down_less h0 HM.out (by have := HS.out; omega), by omega, by omega, rfl, rfl⟩

/-- What a division comes to. -/
def DivPost (a b : Int) (w : World) (e : Ending) (w' : World) : Prop := ∃ q : Int, Down (keep a * 65536) (keep b) q ∧ e = .returned (.tuple #[.int .i64 (keep q), .int .i64 0]) ∧ w = w'
theorem div_any (a b : Int) (h0 : ¬ keep b = 0) (w : World) :
    Calls Try.prog 21 #[.int .i64 a, .int .i64 b] w (DivPost a b w) := by
  have h1 := keep_bd a
  have h2 := keep_bd b
  have h0' : (keep b == 0) = false := by simp [h0]
  go_enter Try.func21, Try.ntmps21
  go_wp2_with fail
  refine (keep_any _ _).mono ?_
  rintro e w' ⟨rfl, rfl⟩
  go_wp2_with fail
  refine (keep_any _ _).mono ?_
  rintro e w' ⟨rfl, rfl⟩
  go_wp2_with fail
  refine (down_any _ _ (by omega) h0 _).mono ?_
  rintro e w' ⟨q, hq, q1, q2, rfl, rfl⟩
  have HQ := Lib.hid hq
  clear hq
  go_wp2_with fail
  refine (keep_any _ _).mono ?_
  rintro e w' ⟨rfl, rfl⟩
  go_wp2_with fail
  go_ret2
  exact ⟨q, HQ.out, rfl, rfl⟩
theorem div_bad (a b : Int) (h0 : keep b = 0) (w : World) :
    Calls Try.prog 21 #[.int .i64 a, .int .i64 b] w fun e w' => e = .returned (.tuple #[.int .i64 0, .int .i64 1]) ∧ w = w' := by
  have h0' : (keep b == 0) = true := by simp [h0]
  have H0 := Lib.hid h0
  clear h0
  go_enter Try.func21, Try.ntmps21
  go_wp2_with fail
  refine (keep_any _ _).mono ?_
  rintro e w' ⟨rfl, rfl⟩
  go_wp2_with fail
  go_ret2
  exact ⟨rfl, rfl⟩

theorem root_bad (a : Int) (h0 : a < 0) (w : World) :
    Calls Try.prog 20 #[.int .i64 a] w fun e w' => e = .returned (.tuple #[.int .i64 0, .int .i64 1]) ∧ w = w' := by
  have h1 : keep a < 0 := (keep_neg a).2 h0
  go_enter Try.func20, Try.ntmps20
  go_wp2_with fail
  refine (keep_any _ _).mono ?_
  rintro e w' ⟨rfl, rfl⟩
  go_wp2_with fail
  go_ret2
  exact ⟨rfl, rfl⟩

/-- What a root comes to. -/
def RootPost (a : Int) (w : World) (e : Ending) (w' : World) : Prop := ∃ r : Nat, IsRoot (keep a * 65536).toNat r ∧ r ≤ 11863283 ∧ e = .returned (.tuple #[.int .i64 (r : Int), .int .i64 0]) ∧ w = w'
set_option maxRecDepth 100000 in
theorem root_any (a : Int) (h0 : 0 ≤ a) (w : World) : Calls Try.prog 20 #[.int .i64 a] w (RootPost a w) := by
  have hk := keep_bd a
  have hk0 : 0 ≤ keep a := by have := keep_neg a; omega
  obtain ⟨K, HK⟩ := Int.eq_ofNat_of_zero_le hk0
  have hK : K ≤ 2147483647 := by omega
  have e1 : (keep a * 65536).toNat = K * 65536 := by rw [HK]; omega
  have HK := Lib.hid HK
  have HE := Lib.hid e1
  obtain ⟨l, HL⟩ : ∃ l, Hid (Lib.bitLen (K * 65536) = l) := ⟨_, Lib.hid rfl⟩
  have hst := Stage.start (n := K * 65536) (l := l) (by omega) (by rw [← HL.out]; exact (bitLen_spec _ (by omega)).1) (by rw [← HL.out]; exact fun h => ((bitLen_spec _ (by omega)).2 h).2) (fun h => by rw [← HL.out, h]; decide +kernel)
  have hbd := hst.bd (by omega)
  have hl : l / 2 ≤ 23 := by
    apply Nat.le_of_not_lt
    intro hlt
    have := Nat.pow_le_pow_right (n := 2) (by decide) hlt
    omega
  obtain ⟨C, HC⟩ : ∃ C, Hid (2 ^ (l / 2) = C) := ⟨_, Lib.hid rfl⟩
  rw [HC.out] at hst hbd
  have hs2 : IntKind.u64.wrap ((2 : Int) ^ (l / 2)) = (C : Int) := by
    have e2 : (2 : Int) ^ (l / 2) = (C : Int) := by rw [← HC.out]; simp
    rw [e2]
    simp [IntKind.wrap, IntKind.signed, IntKind.bits]; omega
  have hst := Lib.hid hst
  clear hk hk0 e1
  go_enter Try.func20, Try.ntmps20
  go_wp2_with fail
  refine (keep_any _ _).mono ?_
  rintro e w' ⟨rfl, rfl⟩
  rw [HK.out]
  go_wp2_with fail
  refine (Try.bits_Len64 _ _ (by omega) (by omega)).mono ?_
  rintro e w' ⟨rfl, rfl⟩
  rw [show ((K : Int) * 65536).toNat = K * 65536 by omega, HL.out]
  go_wp2_with fail
  rw [hs2]
  go_loop [5, 6] (fun v5 v6 => ∃ r c : Nat, v5 = .int .u64 (r : Int) ∧ v6 = .int .u64 (c : Int) ∧ r ≤ 11863283 ∧ c ≤ 8388608 ∧ Hid (Stage (K * 65536) r c)) (fun _ v6 => (intOf v6).toNat)
  case atStart => exact ⟨0, C, rfl, rfl, by omega, by omega, hst⟩
  case round =>
    obtain ⟨r, c, rfl, rfl, hr, hc, HS⟩ := hrel
    by_cases h0 : 0 < c
    · have ho : bits .or .u64 (r : Int) (c : Int) = ((r + c : Nat) : Int) := by
        rw [← HS.out.or h0]
        exact (bits_nat .u64 64 (by decide) (fun n h0 h1 => by simp [IntKind.wrap, IntKind.signed, IntKind.bits]; omega) r c (by omega) (by omega)).2
      have hq : ((r + c : Nat) : Int) * ((r + c : Nat) : Int) = (((r + c) * (r + c) : Nat) : Int) := by push_cast; rfl
      have hq2 : (r + c) * (r + c) ≤ 500000000000000 := Nat.le_trans (Nat.mul_le_mul (show r + c ≤ 20251891 by omega) (show r + c ≤ 20251891 by omega)) (by decide)
      by_cases ht : (r + c) * (r + c) ≤ K * 65536
      · have HN := Lib.hid (HS.out.yes h0 ht)
        have hbd2 := HN.out.bd (by omega)
        generalize (r + c) * (r + c) = p at ht hq hq2
        generalize hrc : r + c = x at *
        go_wp2_with fail
        exact ⟨⟨x, c / 2, rfl, by go_num, hbd2.1, hbd2.2, HN⟩, by simp [intOf]; omega⟩
      · have HN := Lib.hid (HS.out.no h0 ht)
        generalize (r + c) * (r + c) = p at ht hq hq2
        generalize hrc : r + c = x at *
        go_wp2_with fail
        exact ⟨⟨r, c / 2, rfl, by go_num, hr, by omega, HN⟩, by simp [intOf]; omega⟩
    · obtain rfl : c = 0 := by omega
      go_wp2_with fail
      go_ret2
      refine ⟨r, ?_, hr, rfl, rfl⟩
      rw [HE.out]
      rcases HS.out with ⟨k, _, hk, _⟩ | ⟨_, h⟩
      · have := Nat.two_pow_pos k; omega
      · exact h
end Go.Proofs.Ythbadfnonjkbhaa.Fix
