/-
  slices.Clone of integers, cells and troops. (Printed by bin/wown.py.)
-/
import Derived.Test.YtfabhinehfhndaaBas
import Derived.Test.YtfabhinehfhndaaGol
import Derived.Test.YtfabhinehfhndaaWld
set_option linter.unusedVariables false
set_option linter.unusedSimpArgs false
namespace Go.Proofs.Ytfabhinehfhndaa
open Go.RowKit

set_option maxRecDepth 100000 in
set_option maxHeartbeats 1000000 in
theorem clone_I (A : Option Addr) (c : Nat) (l : List Int) (w : World) (h : repI.SHas 8 w A c l) :
    Calls Try.prog 34 #[.slice A l.length c] w fun e w' => ∃ A' c', e = .returned (.slice A' l.length c') ∧ repI.SOwn 3 8 w' w.heap.size (Rep.blkOf A') A' c' l ∧ (A' = none ↔ A = none) ∧ Below w.heap.size w w' := by
  obtain ⟨i0, hi, hz0, hz1, hz2⟩ := info_parts info_int
  have qnil : ∀ (w : World) (a : Option Addr) (n c n' c' : Nat), (binOp .eql 38 (.slice a n c) (.slice none n' c')).run Try.prog w = .ok (.bool a.isNone) w := fun w a n c n' c' => Lib.run_eql_slice_nil w _ _ a n c n' c' Try.underlying38
  cases A with
  | none =>
    obtain rfl : c = 0 := h.2.2.2.1 rfl
    obtain rfl : l = [] := List.eq_nil_of_length_eq_zero (by have := h.1; omega)
    go_enter Try.func34, Try.ntmps34
    go_wp2_with fail
    go_ret
    exact ⟨none, 0, rfl, Rep.SOwn.nil _, by simp, Below.refl _ _⟩
  | some a =>
    have hb0 : Below w.heap.size w (w.alloc (.cells #[] 3)) := (Below.refl _ w).alloc (Nat.le_refl _) _
    obtain ⟨n, HN⟩ : ∃ n, Hid (l.length = n) := ⟨_, Lib.hid rfl⟩
    obtain ⟨h1, h2, h3, h4, ess, h5, h6⟩ := h.keep hb0
    have H5 := Lib.hid h5
    have hone : ∀ u ∈ ess.flatten, u.oneCell' = true := by
      intro u hu
      obtain ⟨y, hy, hu⟩ := List.mem_flatten.1 hu
      obtain ⟨a, ha⟩ := h5.left y hy
      exact repI.one ha u hu
    have hraw : ∀ (j : Nat) u, ess.flatten[j]? = some u → repI.raw (j % repI.size) u := fun j u hu => flat_raw h5 (by decide) hu
    rw [HN.out] at h1 h3 h6
    have HR := Lib.hid h6
    have HE := Lib.hid (Own.empty (e := 3) (size := repI.size) (G := repI.raw) w (Nat.le_refl w.heap.size))
    clear h h4 h5 h6
    rw [HN.out]
    go_enter Try.func34, Try.ntmps34
    go_wp2_with (at_builtin; refine wpList_append_all _ rfl _ _ 38 rfl w.heap.size 3 i0 (.int .i64 0) repI.size 8 Try.underlying38 hi hz0 hz1 hz2 rfl (by decide) repI.raw zI _ _ _ rfl HE.out (some a) n c ess.flatten rfl HR.out hone hraw ?qc4 ?qc5 ?qc6 ?_)
    case qc4 => unfold maxLen; omega
    case qc5 => omega
    case qc6 => simp
    intro v' w1 hown hgrow hnil hat
    have hb1 := hb0.grown hgrow (by simp) (by intro k hk; simp [Value.ownBlock] at hk; omega)
    obtain ⟨A1, c1, rfl, hle, _, _, _, hnn⟩ := hown.shape
    have hA1 : A1 ≠ none := by
      intro h
      subst h
      exact hnil (hnn rfl)
    have HO : Hid (repI.SOwn 3 8 w1 w.heap.size (Rep.blkOf A1) A1 c1 l) := Lib.hid (Rep.SOwn.of_plain repI_plain H5.out (by rw [HN.out]; exact h3) (by rw [HN.out]; simpa using hown))
    have HA1 := Lib.hid hA1
    clear hgrow hnil hat hown hA1 hnn hone hraw
    go_wp2_with fail
    go_ret
    exact ⟨A1, c1, rfl, HO.out, ⟨fun h => absurd h HA1.out, fun h => by cases h⟩, hb1⟩
end Go.Proofs.Ytfabhinehfhndaa
