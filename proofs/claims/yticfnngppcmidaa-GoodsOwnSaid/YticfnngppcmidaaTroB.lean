/-
  The field's Check and At; ground; kinds of troops.
-/
import Derived.Test.YticfnngppcmidaaTroA
set_option linter.unusedVariables false
namespace Go.Proofs.Yticfnngppcmidaa
open Go.RowKit

theorem ret_int {k : IntKind} {a b : Int} (h : a = b) : Ending.returned (.int k a) = .returned (.int k b) := by rw [h]
theorem Fld.chk_none {f : Fld} (h1 : inB f.wide 1 40 = true) (h2 : inB f.high 1 40 = true) (h3 : ¬ (f.places.length : Int) = f.wide * f.high) : f.chk = 4 := by
  unfold Fld.chk
  rw [h1, h2, decide_eq_false h3]; rfl
theorem Fld.chk_any {f : Fld} (h1 : inB f.wide 1 40 = true) (h2 : inB f.high 1 40 = true) (h3 : (f.places.length : Int) = f.wide * f.high) : f.chk = if f.places.any Fld.badPlace then 4 else 0 := by
  unfold Fld.chk
  rw [h1, h2, decide_eq_true h3]
  have : f.places.all Fld.placeOk = !f.places.any Fld.badPlace := by
    rw [List.all_eq_not_any_not]; rfl
  rw [this]
  cases f.places.any Fld.badPlace <;> rfl
set_option maxRecDepth 100000 in
set_option maxHeartbeats 1000000 in
theorem fldCheck (f : Fld) (A : Option Addr) (c : Nat) (w : World) (hP : repI.SHas 8 w A c f.places) :
    Calls Try.prog 53 #[.agg #[.int .i64 f.wide, .int .i64 f.high, .slice A f.places.length c]] w fun e w' => e = .returned (.int .i64 f.chk) ∧ Below w.heap.size w w' := by
  have hb := below_alloc0 w (.cells #[.int .i64 f.wide, .int .i64 f.high, .slice A f.places.length c] 24)
  have hs1 := side_any f.wide
  have hs2 := side_any f.high
  have hle : f.places.length ≤ 9223372036854775807 := by have := hP.1; have := hP.2.1; omega
  cases h1 : inB f.wide 1 40 with
  | false =>
    rw [h1] at hs1
    rw [Fld.chk_one (by rw [h1]; rfl)]
    clear h1 hs2 hP
    go_enter Try.func53, Try.ntmps53
    go_wp2_with (go_at_call 68; refine (hs1 _).mono ?_; rintro e w' ⟨rfl, rfl⟩)
    go_ret
    exact ⟨rfl, hb⟩
  | true =>
    rw [h1] at hs1
    cases h2 : inB f.high 1 40 with
    | false =>
      rw [h2] at hs2
      rw [Fld.chk_one (by rw [h1, h2]; rfl)]
      clear h1 h2 hP
      go_enter Try.func53, Try.ntmps53
      go_wp2_with fail
      refine (hs1 _).mono ?_; rintro e w' ⟨rfl, rfl⟩
      go_wp2_with fail
      refine (hs2 _).mono ?_; rintro e w' ⟨rfl, rfl⟩
      go_wp2_with fail
      go_ret
      exact ⟨rfl, hb⟩
    | true =>
      rw [h2] at hs2
      have hw := inB_true h1
      have hh := inB_true h2
      have hm0 : 0 ≤ f.wide * f.high := Int.mul_nonneg (by omega) (by omega)
      have hm1 : f.wide * f.high ≤ 40 * 40 := Int.mul_le_mul hw.2 hh.2 (by omega) (by omega)
      by_cases h3 : (f.places.length : Int) = f.wide * f.high
      · have hc := has_place A c f.places _ (hP.keep hb)
        have hd : ((f.places.length : Int) == f.wide * f.high) = true := by simpa using h3
        have hd2 : ((f.places.length : Int) != f.wide * f.high) = false := by simpa using h3
        rw [Fld.chk_any h1 h2 h3]
        clear h1 h2 h3 hP
        generalize f.places.any Fld.badPlace = r at *
        generalize f.places.length = n at *
        cases r with
        | true =>
          go_enter Try.func53, Try.ntmps53
          go_wp2_with fail
          refine (hs1 _).mono ?_; rintro e w' ⟨rfl, rfl⟩
          go_wp2_with fail
          refine (hs2 _).mono ?_; rintro e w' ⟨rfl, rfl⟩
          go_wp2_with fail
          refine hc.mono ?_; rintro e w' ⟨rfl, hb2⟩
          go_wp2_with fail
          go_ret
          exact ⟨rfl, hb.trans (hb2.mono hb.size)⟩
        | false =>
          go_enter Try.func53, Try.ntmps53
          go_wp2_with fail
          refine (hs1 _).mono ?_; rintro e w' ⟨rfl, rfl⟩
          go_wp2_with fail
          refine (hs2 _).mono ?_; rintro e w' ⟨rfl, rfl⟩
          go_wp2_with fail
          refine hc.mono ?_; rintro e w' ⟨rfl, hb2⟩
          go_wp2_with fail
          go_ret
          exact ⟨rfl, hb.trans (hb2.mono hb.size)⟩
      · have hd : ((f.places.length : Int) == f.wide * f.high) = false := by simpa using h3
        have hd2 : ((f.places.length : Int) != f.wide * f.high) = true := by simpa using h3
        rw [Fld.chk_none h1 h2 h3]
        clear h1 h2 h3 hP
        generalize f.places.length = n at *
        go_enter Try.func53, Try.ntmps53
        go_wp2_with fail
        refine (hs1 _).mono ?_; rintro e w' ⟨rfl, rfl⟩
        go_wp2_with fail
        refine (hs2 _).mono ?_; rintro e w' ⟨rfl, rfl⟩
        go_wp2_with fail
        go_ret
        exact ⟨rfl, hb⟩
theorem kind_1 (w : World) : Calls Try.prog 35 #[.int .i64 1] w fun e w' => e = .returned (.tuple #[.agg #[.int .i64 10, .int .i64 1, .int .i64 1, .int .i64 5], .int .i64 0]) ∧ Below w.heap.size w w' := by
  go_enter Try.func35, Try.ntmps35
  go_wp2
  refine bodyPost_ret (v := .tuple #[.agg #[.int .i64 10, .int .i64 1, .int .i64 1, .int .i64 5], .int .i64 0]) (by simp [results, Try.results35, go_sem]) rfl ⟨rfl, (Below.refl _ _).alloc (Nat.le_refl _) _⟩
theorem kind_2 (w : World) : Calls Try.prog 35 #[.int .i64 2] w fun e w' => e = .returned (.tuple #[.agg #[.int .i64 20, .int .i64 2, .int .i64 4, .int .i64 12], .int .i64 0]) ∧ Below w.heap.size w w' := by
  go_enter Try.func35, Try.ntmps35
  go_wp2
  refine bodyPost_ret (v := .tuple #[.agg #[.int .i64 20, .int .i64 2, .int .i64 4, .int .i64 12], .int .i64 0]) (by simp [results, Try.results35, go_sem]) rfl ⟨rfl, (Below.refl _ _).alloc (Nat.le_refl _) _⟩
theorem kind_no (k : Int) (w : World) (h : inB k 1 2 = false) : Calls Try.prog 35 #[.int .i64 k] w fun e w' => e = .returned (.tuple #[.agg #[.int .i64 0, .int .i64 0, .int .i64 0, .int .i64 0], .int .i64 1]) ∧ Below w.heap.size w w' := by
  have h' := inB_false h
  have h1 : (k == 1) = false := by simp; omega
  have h2 : (k == 2) = false := by simp; omega
  clear h h'
  go_enter Try.func35, Try.ntmps35
  go_wp2
  refine bodyPost_ret (v := .tuple #[.agg #[.int .i64 0, .int .i64 0, .int .i64 0, .int .i64 0], .int .i64 1]) (by simp [results, Try.results35, go_sem]) rfl ⟨rfl, (Below.refl _ _).alloc (Nat.le_refl _) _⟩
end Go.Proofs.Yticfnngppcmidaa
