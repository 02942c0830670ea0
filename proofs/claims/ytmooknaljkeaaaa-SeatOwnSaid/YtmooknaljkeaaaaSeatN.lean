/-
  The walks of seat.New and seat.Say.
-/
import Derived.Test.YtmooknaljkeaaaaSeatQ
set_option linter.unusedVariables false
namespace Go.Proofs.Ytmooknaljkeaaaa
open Go.RowKit

def seat0 : Seat := ⟨[], 0, false⟩
theorem made_row (n : Nat) (hn : n ≤ 8) : (madeCells seatZero.cells (n * 3)).toList = Seat.row (List.replicate n ⟨none, 0⟩) (List.replicate n seat0) := by
  apply List.ext_getElem?
  intro k
  by_cases hk : k < n * 3
  · have e : k = k / 3 * 3 + k % 3 := by omega
    have hj : k % 3 < 3 := Nat.mod_lt _ (by decide)
    have hr := Seat.row_get (List.replicate n ⟨none, 0⟩) (List.replicate n seat0) (by simp) (k / 3) (k % 3) (by simp; omega) hj
    rw [← e] at hr
    rw [hr]
    simp only [List.getElem_replicate]
    have hl : (madeCells seatZero.cells (n * 3)).toList[k]? = some (seatZero.cells[k % 3]!) := by
      unfold madeCells
      rw [Array.getElem?_toList, Array.getElem?_map]
      simp [hk]
      rfl
    rw [hl]
    generalize k % 3 = r at *
    match r, hj with
    | 0, _ => rfl
    | 1, _ => rfl
    | 2, _ => rfl
  · rw [List.getElem?_eq_none (by rw [Array.length_toList, size_madeCells]; omega), List.getElem?_eq_none (by rw [Seat.row_len _ _ (by simp)]; simp; omega)]
theorem make_full (w : World) (n : Nat) (hn : n ≤ 8) : ∃ w', (Instr.makeSlice 44 (.int .i64 (n : Int)) (.int .i64 (n : Int))).run Try.prog w = .ok (.slice (some ⟨w.heap.size, 0, none⟩) n n) w' ∧
    Mine w' w.heap.size (.slice (some ⟨w.heap.size, 0, none⟩) n n) n (List.replicate n ⟨none, 0⟩) (List.replicate n seat0) ∧ Below w.heap.size w w' := by
  obtain ⟨i0, hi, hz0, hz1, hz2⟩ := info_parts infoSeat
  have h := run_make (P := Try.prog) w 44 49 i0 seatZero Try.underlying44 hi hz0 .i64 .i64 n n (by omega) (by omega) (by rw [hz2]; omega) (by omega)
  simp only [Int.toNat_natCast] at h
  rw [hz1] at h
  refine ⟨_, h, ⟨by simp, by simp, ⟨by rw [Seat.row_len _ _ (by simp)]; simp, .inr ⟨w.heap.size, n, _, rfl, Nat.le_refl _, heap_alloc_new w _, Nat.le_refl _, by unfold maxLen; omega, by rw [size_madeCells], ?_, fun _ _ _ => trivial⟩⟩, ?_, ?_, ?_⟩, (Below.refl _ _).alloc (Nat.le_refl _) _⟩
  · rw [List.take_of_length_le (by rw [Array.length_toList, size_madeCells]; exact Nat.le_refl _)]
    exact made_row n hn
  · intro i h1 h2
    simp only [List.getElem_replicate]
    exact ⟨rfl, Nat.le_refl _, by show 0 ≤ _; omega, by omega, (fun _ => ⟨rfl, rfl⟩), Rd.zero _ _ _⟩
  · intro i h1
    simp only [List.getElem_replicate]
    exact .inl rfl
  · intro i h1 a ha
    simp only [List.getElem_replicate] at ha
    cases ha
def NewPost (w : World) (n : Nat) (e : Ending) (w' : World) : Prop :=
  ∃ A c hs, e = .returned (.tuple #[.slice A n c, .int .i64 0]) ∧ Mine w' w.heap.size (.slice A n c) n hs (List.replicate n seat0) ∧ Below w.heap.size w w'
theorem new_any (n : Nat) (h1 : 1 ≤ n) (h8 : n ≤ 8) (w : World) : Calls Try.prog 35 #[.int .i64 (n : Int)] w (NewPost w n) := by
  obtain ⟨wm, hmk, hm, hb⟩ := make_full w n h8
  have HM := Lib.hid hm
  have g1 : ¬ (n : Int) < 1 := by omega
  have g2 : ¬ 8 < (n : Int) := by omega
  clear hm
  go_enter Try.func35, Try.ntmps35
  go_wp2_with fail
  go_ret2
  exact ⟨_, _, _, rfl, HM.out, hb⟩
theorem new_bad (n : Int) (h : n < 1 ∨ 8 < n) (w : World) : Calls Try.prog 35 #[.int .i64 n] w fun e w' => e = .returned (.tuple #[.slice none 0 0, .int .i64 1]) ∧ w = w' := by
  rcases h with h | h
  · go_enter Try.func35, Try.ntmps35
    go_wp2_with fail
    go_ret2
    exact ⟨rfl, rfl⟩
  · have h0 : ¬ n < 1 := by omega
    go_enter Try.func35, Try.ntmps35
    go_wp2_with fail
    go_ret2
    exact ⟨rfl, rfl⟩
end Go.Proofs.Ytmooknaljkeaaaa
