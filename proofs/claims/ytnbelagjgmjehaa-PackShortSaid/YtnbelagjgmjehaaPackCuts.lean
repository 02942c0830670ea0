/-
  The walks of the laws PackCuts and PackShort: for every number they return true; what was there stays.
-/
import Derived.Test.YtnbelagjgmjehaaPackW
set_option linter.unusedVariables false
namespace Go.Proofs.Ytnbelagjgmjehaa.Pack
open Go.RowKit Go.Proofs.Ytnbelagjgmjehaa.Bv

theorem known_is {n : Nat} {rest : List UInt8} {e : Int} (h : GetIs [172, 2, 120] n rest e) : n = 300 ∧ rest = [120] ∧ e = 0 := by
  rcases h with ⟨k, h1, h2, h3, h4, h5⟩ | ⟨h1, h2, _⟩ | ⟨h1, _⟩
  · have hk : k = 1 := by
      have h4' := h4 h2
      match k, h2, h4' with
      | 0, _, h4' => exact absurd (show (172 : UInt8).toNat < 128 from h4') (by decide)
      | 1, _, _ => rfl
      | 2, _, _ => exact absurd (h3 1 (by decide) (by decide)) (by decide)
    subst hk
    have hv : val ([172, 2, 120].take (1 + 1)) % 18446744073709551616 = 300 := by decide +kernel
    rw [hv] at h5
    have hp : putL 300 = [172, 2, 120].take (1 + 1) := by decide +kernel
    rcases h5 with ⟨_, h6, h7, h8⟩ | ⟨h6, _⟩
    · exact ⟨h6, h7, h8⟩
    · exact absurd hp h6
  · exact absurd (h2 1 (by decide)) (by decide)
  · exact absurd h1 (by decide)

theorem get_known (w : World) : Calls Try.prog 30 #[.string { data := #[172, 2, 120] }] w fun e w' => e = .returned (.tuple #[.int .u64 300, .string { data := #[120] }, .int .i64 0]) ∧ Below w.heap.size w w' :=
  (get_any { data := #[172, 2, 120] } (by decide) w).mono fun e w' ⟨n, rest, k, hg, he, hb⟩ => by
    obtain ⟨rfl, rfl, rfl⟩ := known_is hg
    exact ⟨he, hb⟩
theorem put_known (w : World) : Calls Try.prog 28 #[.int .u64 300] w fun e w' => e = .returned (.string { data := #[172, 2] }) ∧ Below w.heap.size w w' :=
  (put_any 300 (by decide) 300 rfl w).mono fun e w' ⟨he, hb⟩ => ⟨he.trans (ret_str (by rw [show putL 300 = [172, 2] by decide +kernel]; rfl)), hb⟩
theorem fold_known (w : World) : Calls Try.prog 29 #[.int .i64 (-1)] w fun e w' => e = .returned (.int .u64 1) ∧ w = w' :=
  (fold_any (-1) (by decide) (by decide) w).mono fun e w' ⟨he, hb⟩ => ⟨he.trans (ret_u64 (by decide +kernel)), hb⟩

theorem lives_any (w : World) :
    Calls Try.prog 27 #[] w fun e w' => e = .returned (.bool true) ∧ Below w.heap.size w w' := by
  go_enter Try.func27, Try.ntmps27
  go_wp2_with fail
  refine (get_known _).mono ?_
  rintro e w1 ⟨rfl, hb1⟩
  go_wp2_with fail
  refine (put_known _).mono ?_
  rintro e w2 ⟨rfl, hb2⟩
  go_wp2_with fail
  refine (fold_known _).mono ?_
  rintro e w3 ⟨rfl, rfl⟩
  go_wp2_with fail
  go_ret
  exact ⟨rfl, hb1.trans (hb2.mono hb1.size)⟩

/-- A number of which bytes are missing is short. -/
theorem cut_is {N c n : Nat} {rest : List UInt8} {e : Int} (hN : N < 18446744073709551616) (hc : c < (putL N).length) (h : GetIs ((putL N).take c) n rest e) : n = 0 ∧ rest = [] ∧ e = 3 := by
  have hl := (putL_len N).1
  have hlen : ((putL N).take c).length = c := by simp; omega
  have hall : ∀ i (h : i < ((putL N).take c).length), 128 ≤ ((putL N).take c)[i].toNat := by
    intro i h
    rw [List.getElem_take]
    exact putF_high 9 N i (lt_pow hN) (by show i + 1 < (putL N).length; omega) _
  rcases h with ⟨k, h1, h2, h3, h4, h5⟩ | ⟨h1, h2, h3, h4, h5⟩ | ⟨h1, _⟩
  · have := hall k h2; have := h4 h2; omega
  · exact ⟨h3, h4, h5⟩
  · omega

theorem open_u64 {x : Int} (h : (Lit.int .u64 x).wf = true) : ∃ n : Nat, x = n ∧ n < 18446744073709551616 := by
  simp [Lit.wf, IntKind.min, IntKind.max, IntKind.signed, IntKind.bits] at h
  exact ⟨x.toNat, by omega, by omega⟩
theorem open_i64 {x : Int} (h : (Lit.int .i64 x).wf = true) : -9223372036854775808 ≤ x ∧ x ≤ 9223372036854775807 := by
  simp [Lit.wf, IntKind.min, IntKind.max, IntKind.signed, IntKind.bits] at h
  omega

theorem get_cut (N c : Nat) (hN : N < 18446744073709551616) (hc : c < (putL N).length) (w : World) :
    Calls Try.prog 30 #[.string ((strOf (putL N)).extract 0 c)] w fun e w' => e = .returned (.tuple #[.int .u64 0, .string ⟨#[]⟩, .int .i64 3]) ∧ Below w.heap.size w w' := by
  have hl := (putL_len N).1
  refine (get_any _ (by rw [ByteArray.size_extract, strOf_size]; omega) w).mono fun e w' h => ?_
  obtain ⟨n, rest, k, hg, he, hb⟩ := h
  rw [Lib.extract_data, strOf_list, List.drop_zero, Nat.sub_zero] at hg
  obtain ⟨rfl, rfl, rfl⟩ := cut_is hN hc hg
  exact ⟨he, hb⟩

theorem cuts_walk (a0 : Int) (a1 : Int) (w : World) (w0 : (Lit.int .u64 a0).wf = true) (w1 : (Lit.int .i64 a1).wf = true) :
    Calls Try.prog 10 #[.int .u64 a0, .int .i64 a1] w fun e w' => e = .returned (.bool true) ∧ Below w.heap.size w w' := by
  obtain ⟨N, rfl, hN⟩ := open_u64 w0
  have b1 := open_i64 w1
  clear w0 w1
  have hl := (putL_len N).1
  have hz := strOf_size (putL N)
  by_cases h1 : a1 < 0
  · have HN := Lib.hid hN
    clear hN hz
    go_enter Try.func10, Try.ntmps10
    go_wp2_with fail
    refine (put_any N HN.out _ rfl _).mono ?_
    rintro e w1 ⟨rfl, hb1⟩
    go_wp2_with fail
    refine (lives_any _).mono ?_
    rintro e w2 ⟨rfl, hb2⟩
    go_wp2_with fail
    refine (lives_any _).mono ?_
    rintro e w3 ⟨rfl, hb3⟩
    go_wp2_with fail
    go_ret
    exact ⟨rfl, hb1.trans ((hb2.mono hb1.size).trans (hb3.mono (Nat.le_trans hb1.size hb2.size)))⟩
  · obtain ⟨c, rfl⟩ := Int.eq_ofNat_of_zero_le (show 0 ≤ a1 by omega)
    by_cases h2 : (putL N).length ≤ c
    · have HN := Lib.hid hN
      have h3 : ((strOf (putL N)).size : Int) ≤ (c : Int) := by omega
      clear hN hz
      go_enter Try.func10, Try.ntmps10
      go_wp2_with fail
      refine (put_any N HN.out _ rfl _).mono ?_
      rintro e w1 ⟨rfl, hb1⟩
      go_wp2_with fail
      refine (lives_any _).mono ?_
      rintro e w2 ⟨rfl, hb2⟩
      go_wp2_with fail
      refine (lives_any _).mono ?_
      rintro e w3 ⟨rfl, hb3⟩
      go_wp2_with fail
      go_ret
      exact ⟨rfl, hb1.trans ((hb2.mono hb1.size).trans (hb3.mono (Nat.le_trans hb1.size hb2.size)))⟩
    · have HN := Lib.hid hN
      have h3 : (c : Int) < ((strOf (putL N)).size : Int) := by omega
      have h4 : c ≤ (strOf (putL N)).size := by omega
      have hc : c < (putL N).length := by omega
      clear hN hz h2
      go_enter Try.func10, Try.ntmps10
      go_wp2_with fail
      refine (put_any N HN.out _ rfl _).mono ?_
      rintro e w1 ⟨rfl, hb1⟩
      go_wp2_with fail
      refine (lives_any _).mono ?_
      rintro e w2 ⟨rfl, hb2⟩
      go_wp2_with fail
      refine (get_cut N c HN.out hc _).mono ?_
      rintro e w3 ⟨rfl, hb3⟩
      go_wp2_with fail
      go_ret
      exact ⟨rfl, hb1.trans ((hb2.mono hb1.size).trans (hb3.mono (Nat.le_trans hb1.size hb2.size)))⟩
end Go.Proofs.Ytnbelagjgmjehaa.Pack
