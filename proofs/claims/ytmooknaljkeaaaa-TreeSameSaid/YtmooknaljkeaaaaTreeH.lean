/-
  The walks of tree.Trail, slices.Clone of marks and mustkeep.sides.
-/
import Derived.Test.YtmooknaljkeaaaaTreeD
set_option linter.unusedVariables false
namespace Go.Proofs.Ytmooknaljkeaaaa.Tree
open Go.RowKit Go.Proofs.Ytmooknaljkeaaaa Go.Proofs.Ytmooknaljkeaaaa.Bv Go.Proofs.Ytmooknaljkeaaaa.Mark

theorem trailf_long (A : Option Addr) (n c : Nat) (k : Int) (w : World) (h256 : 256 < n) :
    Calls Try.prog 21 #[.slice A n c, .int .i64 k] w fun e w' => e = .returned (.tuple #[.slice none 0 0, .int .i64 2]) ∧ w = w' := by
  have h2 : (256 : Int) < (n : Int) := by omega
  go_enter Try.func21, Try.ntmps21
  go_wp2_with fail
  go_ret2
  exact ⟨rfl, rfl⟩
theorem trailf_none (A : Option Addr) (n c : Nat) (k : Int) (w : World) (h256 : n ≤ 256) (hk : k < 0 ∨ (n : Int) ≤ k) :
    Calls Try.prog 21 #[.slice A n c, .int .i64 k] w fun e w' => e = .returned (.tuple #[.slice none 0 0, .int .i64 7]) ∧ w = w' := by
  rcases hk with h | h
  · go_enter Try.func21, Try.ntmps21
    go_wp2_with fail
    go_ret2
    exact ⟨rfl, rfl⟩
  · have h0 : ¬ k < 0 := by omega
    go_enter Try.func21, Try.ntmps21
    go_wp2_with fail
    go_ret2
    exact ⟨rfl, rfl⟩
def TrailfPost (w : World) (t : List W) (e : Ending) (w' : World) : Prop := ∃ A c, e = .returned (.tuple #[.slice A t.length c, .int .i64 0]) ∧ Own w' w.heap.size 30 1 GW (.slice A t.length c) t.length (cellsW t) ∧ Below w.heap.size w w'
theorem trailf_any (A : Option Addr) (n c at_ : Nat) (l : List ByteArray) (w : World) (h256 : n ≤ 256) (hat : at_ < n) (hnc : n ≤ c) (hc : c ≤ 9223372036854775807) (hs : Short l) (hr : Rd w 1 A n (cellsS l)) :
    Calls Try.prog 21 #[.slice A n c, .int .i64 (at_ : Int)] w (TrailfPost w (trailF n (lists l) at_)) := by
  have ht := trail_any n A n c at_ l w (Nat.le_refl _) h256 (by omega) hat hnc hc hs hr
  generalize trailF n (lists l) at_ = t at *
  unfold TrailPost at ht
  have h2 : ¬ (256 : Int) < (n : Int) := by omega
  have h3 : ¬ (n : Int) ≤ (at_ : Int) := by omega
  clear hr
  go_enter Try.func21, Try.ntmps21
  go_wp2_with fail
  refine ht.mono ?_
  rintro e w' ⟨A', c', rfl, ho, hb⟩
  have HO := Lib.hid ho
  clear ho
  go_wp2_with fail
  go_ret2
  exact ⟨A', c', rfl, HO.out, hb⟩
def CloneW (w : World) (n : Nat) (l : List W) (e : Ending) (w' : World) : Prop :=
  ∃ A c, e = .returned (.slice A n c) ∧ Own w' w.heap.size 30 1 GW (.slice A n c) n (cellsW l) ∧ Below w.heap.size w w'
theorem cellsW_one (l : List W) : ∀ u ∈ cellsW l, u.oneCell' = true := by
  intro u hu
  unfold cellsW at hu
  obtain ⟨x, _, rfl⟩ := List.mem_map.1 hu
  rfl
theorem cellsW_gw (l : List W) : ∀ j u, (cellsW l)[j]? = some u → GW (j % 1) u := by
  intro j u hu
  have hu := List.mem_of_getElem? hu
  unfold cellsW at hu
  obtain ⟨x, _, rfl⟩ := List.mem_map.1 hu
  exact ⟨_, rfl⟩
set_option maxRecDepth 100000 in
theorem clone_w {w : World} {A : Option Addr} {n c : Nat} {l : List W} (hn : n * 8 ≤ 140737488355328) (hz : A = none → n = 0) (h : Rd w 1 A n (cellsW l)) : Calls Try.prog 25 #[.slice A n c] w (CloneW w n l) := by
  obtain ⟨i0, hi, hz0, hz1, hz2⟩ := info_parts infoU64
  cases A with
  | none =>
    obtain rfl : n = 0 := hz rfl
    have hl : l = [] := List.eq_nil_of_length_eq_zero (by have := h.1; rw [cellsW_len] at this; omega)
    subst hl
    refine (Try.slices_Clone_nil_f25 0 c w).mono ?_
    rintro e w' ⟨rfl, rfl⟩
    exact ⟨none, 0, rfl, Own.nil _ _ _ _ _, Below.refl _ _⟩
  | some a =>
    refine (clone_all Try.laysSlE041_f25 i0 (.int .u64 0) 1 8 hi hz0 hz1 hz2 rfl (by decide) (by intro w; rfl) GW gw_zero a n c (cellsW l) w (by unfold maxLen; omega) hn h (cellsW_one l) (cellsW_gw l)).mono ?_
    rintro e w' ⟨v, rfl, hown, _, hb⟩
    obtain ⟨A', c', rfl, _⟩ := hown.shape
    exact ⟨A', c', rfl, hown, hb⟩
end Go.Proofs.Ytmooknaljkeaaaa.Tree
