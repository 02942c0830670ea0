/-
  slices.Clone of orders, blows, goes, deeds. (Printed by bin/parts.py.)
-/
import Derived.Test.YtfabhinehfhndaaBas
import Derived.Test.YtfabhinehfhndaaEqI
import Derived.Test.YtfabhinehfhndaaGol
import Derived.Test.YtfabhinehfhndaaWld
import Derived.Test.YtfabhinehfhndaaBlw
import Derived.Test.YtfabhinehfhndaaGox
import Derived.Test.YtfabhinehfhndaaDed
import Derived.Test.YtfabhinehfhndaaOdr
set_option linter.unusedVariables false
set_option linter.unusedSimpArgs false
namespace Go.Proofs.Ytfabhinehfhndaa
open Go.RowKit

set_option maxRecDepth 100000 in
set_option maxHeartbeats 1000000 in
theorem clone_O (A : Option Addr) (c : Nat) (l : List Odr) (w : World) (h : Odr.rep.SHas 48 w A c l) :
    Calls Try.prog 39 #[.slice A l.length c] w fun e w' => ∃ A' c', e = .returned (.slice A' l.length c') ∧ Odr.rep.SOwn 92 48 w' w.heap.size (Rep.blkOf A') A' c' l ∧ (A' = none ↔ A = none) ∧ Below w.heap.size w w' := by
  obtain ⟨i0, hi, hz0, hz1, hz2⟩ := info_parts Odr.info
  have qnil : ∀ (w : World) (a : Option Addr) (n c n' c' : Nat), (binOp .eql 76 (.slice a n c) (.slice none n' c')).run Try.prog w = .ok (.bool a.isNone) w := fun w a n c n' c' => Lib.run_eql_slice_nil w _ _ a n c n' c' Try.underlying76
  cases A with
  | none =>
    obtain rfl : c = 0 := h.2.2.2.1 rfl
    obtain rfl : l = [] := List.eq_nil_of_length_eq_zero (by have := h.1; omega)
    go_enter Try.func39, Try.ntmps39
    go_wp2_with fail
    go_ret
    exact ⟨none, 0, rfl, Rep.SOwn.nil _, by simp, Below.refl _ _⟩
  | some a =>
    have hb0 : Below w.heap.size w (w.alloc (.cells #[] 92)) := (Below.refl _ w).alloc (Nat.le_refl _) _
    obtain ⟨n, HN⟩ : ∃ n, Hid (l.length = n) := ⟨_, Lib.hid rfl⟩
    obtain ⟨h1, h2, h3, h4, ess, h5, h6⟩ := h.keep hb0
    have H5 := Lib.hid h5
    have hone : ∀ u ∈ ess.flatten, u.oneCell' = true := by
      intro u hu
      obtain ⟨y, hy, hu⟩ := List.mem_flatten.1 hu
      obtain ⟨a, ha⟩ := h5.left y hy
      exact Odr.rep.one ha u hu
    have hraw : ∀ (j : Nat) u, ess.flatten[j]? = some u → Odr.rep.raw (j % Odr.rep.size) u := fun j u hu => flat_raw h5 (by decide) hu
    rw [HN.out] at h1 h3 h6
    have HR := Lib.hid h6
    have HE := Lib.hid (Own.empty (e := 92) (size := Odr.rep.size) (G := Odr.rep.raw) w (Nat.le_refl w.heap.size))
    clear h h4 h5 h6
    rw [HN.out]
    go_enter Try.func39, Try.ntmps39
    go_wp2_with (at_builtin; refine wpList_append_all _ rfl _ _ 76 rfl w.heap.size 92 i0 Odr.zero Odr.rep.size 48 Try.underlying76 hi hz0 hz1 hz2 rfl (by decide) Odr.rep.raw Odr.zero_raw _ _ _ rfl HE.out (some a) n c ess.flatten rfl HR.out hone hraw ?qc4 ?qc5 ?qc6 ?_)
    case qc4 => unfold maxLen; omega
    case qc5 => omega
    case qc6 => simp
    intro v' w1 hown hgrow hnil hat
    have hb1 := hb0.grown hgrow (by simp) (by intro k hk; simp [Value.ownBlock] at hk; omega)
    obtain ⟨A1, c1, rfl, hle, _, _, _, hnn⟩ := hown.shape
    have hA1 : A1 ≠ none := by
      intro h
      subst h
      exact hnil (hnn rfl)
    have HO : Hid (Odr.rep.SOwn 92 48 w1 w.heap.size (Rep.blkOf A1) A1 c1 l) := Lib.hid (Rep.SOwn.of_plain Odr.plain H5.out (by rw [HN.out]; exact h3) (by rw [HN.out]; simpa using hown))
    have HA1 := Lib.hid hA1
    clear hgrow hnil hat hown hA1 hnn hone hraw
    go_wp2_with fail
    go_ret
    exact ⟨A1, c1, rfl, HO.out, ⟨fun h => absurd h HA1.out, fun h => by cases h⟩, hb1⟩
set_option maxRecDepth 100000 in
set_option maxHeartbeats 1000000 in
theorem clone_W (A : Option Addr) (c : Nat) (l : List Blw) (w : World) (h : Blw.rep.SHas 16 w A c l) :
    Calls Try.prog 41 #[.slice A l.length c] w fun e w' => ∃ A' c', e = .returned (.slice A' l.length c') ∧ Blw.rep.SOwn 95 16 w' w.heap.size (Rep.blkOf A') A' c' l ∧ (A' = none ↔ A = none) ∧ Below w.heap.size w w' := by
  obtain ⟨i0, hi, hz0, hz1, hz2⟩ := info_parts Blw.info
  have qnil : ∀ (w : World) (a : Option Addr) (n c n' c' : Nat), (binOp .eql 83 (.slice a n c) (.slice none n' c')).run Try.prog w = .ok (.bool a.isNone) w := fun w a n c n' c' => Lib.run_eql_slice_nil w _ _ a n c n' c' Try.underlying83
  cases A with
  | none =>
    obtain rfl : c = 0 := h.2.2.2.1 rfl
    obtain rfl : l = [] := List.eq_nil_of_length_eq_zero (by have := h.1; omega)
    go_enter Try.func41, Try.ntmps41
    go_wp2_with fail
    go_ret
    exact ⟨none, 0, rfl, Rep.SOwn.nil _, by simp, Below.refl _ _⟩
  | some a =>
    have hb0 : Below w.heap.size w (w.alloc (.cells #[] 95)) := (Below.refl _ w).alloc (Nat.le_refl _) _
    obtain ⟨n, HN⟩ : ∃ n, Hid (l.length = n) := ⟨_, Lib.hid rfl⟩
    obtain ⟨h1, h2, h3, h4, ess, h5, h6⟩ := h.keep hb0
    have H5 := Lib.hid h5
    have hone : ∀ u ∈ ess.flatten, u.oneCell' = true := by
      intro u hu
      obtain ⟨y, hy, hu⟩ := List.mem_flatten.1 hu
      obtain ⟨a, ha⟩ := h5.left y hy
      exact Blw.rep.one ha u hu
    have hraw : ∀ (j : Nat) u, ess.flatten[j]? = some u → Blw.rep.raw (j % Blw.rep.size) u := fun j u hu => flat_raw h5 (by decide) hu
    rw [HN.out] at h1 h3 h6
    have HR := Lib.hid h6
    have HE := Lib.hid (Own.empty (e := 95) (size := Blw.rep.size) (G := Blw.rep.raw) w (Nat.le_refl w.heap.size))
    clear h h4 h5 h6
    rw [HN.out]
    go_enter Try.func41, Try.ntmps41
    go_wp2_with (at_builtin; refine wpList_append_all _ rfl _ _ 83 rfl w.heap.size 95 i0 Blw.zero Blw.rep.size 16 Try.underlying83 hi hz0 hz1 hz2 rfl (by decide) Blw.rep.raw Blw.zero_raw _ _ _ rfl HE.out (some a) n c ess.flatten rfl HR.out hone hraw ?qc4 ?qc5 ?qc6 ?_)
    case qc4 => unfold maxLen; omega
    case qc5 => omega
    case qc6 => simp
    intro v' w1 hown hgrow hnil hat
    have hb1 := hb0.grown hgrow (by simp) (by intro k hk; simp [Value.ownBlock] at hk; omega)
    obtain ⟨A1, c1, rfl, hle, _, _, _, hnn⟩ := hown.shape
    have hA1 : A1 ≠ none := by
      intro h
      subst h
      exact hnil (hnn rfl)
    have HO : Hid (Blw.rep.SOwn 95 16 w1 w.heap.size (Rep.blkOf A1) A1 c1 l) := Lib.hid (Rep.SOwn.of_plain Blw.plain H5.out (by rw [HN.out]; exact h3) (by rw [HN.out]; simpa using hown))
    have HA1 := Lib.hid hA1
    clear hgrow hnil hat hown hA1 hnn hone hraw
    go_wp2_with fail
    go_ret
    exact ⟨A1, c1, rfl, HO.out, ⟨fun h => absurd h HA1.out, fun h => by cases h⟩, hb1⟩
set_option maxRecDepth 100000 in
set_option maxHeartbeats 1000000 in
theorem clone_G (A : Option Addr) (c : Nat) (l : List Gox) (w : World) (h : Gox.rep.SHas 24 w A c l) :
    Calls Try.prog 43 #[.slice A l.length c] w fun e w' => ∃ A' c', e = .returned (.slice A' l.length c') ∧ Gox.rep.SOwn 99 24 w' w.heap.size (Rep.blkOf A') A' c' l ∧ (A' = none ↔ A = none) ∧ Below w.heap.size w w' := by
  obtain ⟨i0, hi, hz0, hz1, hz2⟩ := info_parts Gox.info
  have qnil : ∀ (w : World) (a : Option Addr) (n c n' c' : Nat), (binOp .eql 84 (.slice a n c) (.slice none n' c')).run Try.prog w = .ok (.bool a.isNone) w := fun w a n c n' c' => Lib.run_eql_slice_nil w _ _ a n c n' c' Try.underlying84
  cases A with
  | none =>
    obtain rfl : c = 0 := h.2.2.2.1 rfl
    obtain rfl : l = [] := List.eq_nil_of_length_eq_zero (by have := h.1; omega)
    go_enter Try.func43, Try.ntmps43
    go_wp2_with fail
    go_ret
    exact ⟨none, 0, rfl, Rep.SOwn.nil _, by simp, Below.refl _ _⟩
  | some a =>
    have hb0 : Below w.heap.size w (w.alloc (.cells #[] 99)) := (Below.refl _ w).alloc (Nat.le_refl _) _
    obtain ⟨n, HN⟩ : ∃ n, Hid (l.length = n) := ⟨_, Lib.hid rfl⟩
    obtain ⟨h1, h2, h3, h4, ess, h5, h6⟩ := h.keep hb0
    have H5 := Lib.hid h5
    have hone : ∀ u ∈ ess.flatten, u.oneCell' = true := by
      intro u hu
      obtain ⟨y, hy, hu⟩ := List.mem_flatten.1 hu
      obtain ⟨a, ha⟩ := h5.left y hy
      exact Gox.rep.one ha u hu
    have hraw : ∀ (j : Nat) u, ess.flatten[j]? = some u → Gox.rep.raw (j % Gox.rep.size) u := fun j u hu => flat_raw h5 (by decide) hu
    rw [HN.out] at h1 h3 h6
    have HR := Lib.hid h6
    have HE := Lib.hid (Own.empty (e := 99) (size := Gox.rep.size) (G := Gox.rep.raw) w (Nat.le_refl w.heap.size))
    clear h h4 h5 h6
    rw [HN.out]
    go_enter Try.func43, Try.ntmps43
    go_wp2_with (at_builtin; refine wpList_append_all _ rfl _ _ 84 rfl w.heap.size 99 i0 Gox.zero Gox.rep.size 24 Try.underlying84 hi hz0 hz1 hz2 rfl (by decide) Gox.rep.raw Gox.zero_raw _ _ _ rfl HE.out (some a) n c ess.flatten rfl HR.out hone hraw ?qc4 ?qc5 ?qc6 ?_)
    case qc4 => unfold maxLen; omega
    case qc5 => omega
    case qc6 => simp
    intro v' w1 hown hgrow hnil hat
    have hb1 := hb0.grown hgrow (by simp) (by intro k hk; simp [Value.ownBlock] at hk; omega)
    obtain ⟨A1, c1, rfl, hle, _, _, _, hnn⟩ := hown.shape
    have hA1 : A1 ≠ none := by
      intro h
      subst h
      exact hnil (hnn rfl)
    have HO : Hid (Gox.rep.SOwn 99 24 w1 w.heap.size (Rep.blkOf A1) A1 c1 l) := Lib.hid (Rep.SOwn.of_plain Gox.plain H5.out (by rw [HN.out]; exact h3) (by rw [HN.out]; simpa using hown))
    have HA1 := Lib.hid hA1
    clear hgrow hnil hat hown hA1 hnn hone hraw
    go_wp2_with fail
    go_ret
    exact ⟨A1, c1, rfl, HO.out, ⟨fun h => absurd h HA1.out, fun h => by cases h⟩, hb1⟩
set_option maxRecDepth 100000 in
set_option maxHeartbeats 1000000 in
theorem clone_D (A : Option Addr) (c : Nat) (l : List Ded) (w : World) (h : Ded.rep.SHas 40 w A c l) :
    Calls Try.prog 45 #[.slice A l.length c] w fun e w' => ∃ A' c', e = .returned (.slice A' l.length c') ∧ Ded.rep.SOwn 103 40 w' w.heap.size (Rep.blkOf A') A' c' l ∧ (A' = none ↔ A = none) ∧ Below w.heap.size w w' := by
  obtain ⟨i0, hi, hz0, hz1, hz2⟩ := info_parts Ded.info
  have qnil : ∀ (w : World) (a : Option Addr) (n c n' c' : Nat), (binOp .eql 85 (.slice a n c) (.slice none n' c')).run Try.prog w = .ok (.bool a.isNone) w := fun w a n c n' c' => Lib.run_eql_slice_nil w _ _ a n c n' c' Try.underlying85
  cases A with
  | none =>
    obtain rfl : c = 0 := h.2.2.2.1 rfl
    obtain rfl : l = [] := List.eq_nil_of_length_eq_zero (by have := h.1; omega)
    go_enter Try.func45, Try.ntmps45
    go_wp2_with fail
    go_ret
    exact ⟨none, 0, rfl, Rep.SOwn.nil _, by simp, Below.refl _ _⟩
  | some a =>
    have hb0 : Below w.heap.size w (w.alloc (.cells #[] 103)) := (Below.refl _ w).alloc (Nat.le_refl _) _
    obtain ⟨n, HN⟩ : ∃ n, Hid (l.length = n) := ⟨_, Lib.hid rfl⟩
    obtain ⟨h1, h2, h3, h4, ess, h5, h6⟩ := h.keep hb0
    have H5 := Lib.hid h5
    have hone : ∀ u ∈ ess.flatten, u.oneCell' = true := by
      intro u hu
      obtain ⟨y, hy, hu⟩ := List.mem_flatten.1 hu
      obtain ⟨a, ha⟩ := h5.left y hy
      exact Ded.rep.one ha u hu
    have hraw : ∀ (j : Nat) u, ess.flatten[j]? = some u → Ded.rep.raw (j % Ded.rep.size) u := fun j u hu => flat_raw h5 (by decide) hu
    rw [HN.out] at h1 h3 h6
    have HR := Lib.hid h6
    have HE := Lib.hid (Own.empty (e := 103) (size := Ded.rep.size) (G := Ded.rep.raw) w (Nat.le_refl w.heap.size))
    clear h h4 h5 h6
    rw [HN.out]
    go_enter Try.func45, Try.ntmps45
    go_wp2_with (at_builtin; refine wpList_append_all _ rfl _ _ 85 rfl w.heap.size 103 i0 Ded.zero Ded.rep.size 40 Try.underlying85 hi hz0 hz1 hz2 rfl (by decide) Ded.rep.raw Ded.zero_raw _ _ _ rfl HE.out (some a) n c ess.flatten rfl HR.out hone hraw ?qc4 ?qc5 ?qc6 ?_)
    case qc4 => unfold maxLen; omega
    case qc5 => omega
    case qc6 => simp
    intro v' w1 hown hgrow hnil hat
    have hb1 := hb0.grown hgrow (by simp) (by intro k hk; simp [Value.ownBlock] at hk; omega)
    obtain ⟨A1, c1, rfl, hle, _, _, _, hnn⟩ := hown.shape
    have hA1 : A1 ≠ none := by
      intro h
      subst h
      exact hnil (hnn rfl)
    have HO : Hid (Ded.rep.SOwn 103 40 w1 w.heap.size (Rep.blkOf A1) A1 c1 l) := Lib.hid (Rep.SOwn.of_plain Ded.plain H5.out (by rw [HN.out]; exact h3) (by rw [HN.out]; simpa using hown))
    have HA1 := Lib.hid hA1
    clear hgrow hnil hat hown hA1 hnn hone hraw
    go_wp2_with fail
    go_ret
    exact ⟨A1, c1, rfl, HO.out, ⟨fun h => absurd h HA1.out, fun h => by cases h⟩, hb1⟩
end Go.Proofs.Ytfabhinehfhndaa
