/-
  The walk of the law LuckRound: for every word and number it returns true; what was there stays.
-/
import Derived.Test.YtnbelagjgmjehaaLuckSkips
set_option linter.unusedVariables false
namespace Go.Proofs.Ytnbelagjgmjehaa.Luck
open Go.RowKit Go.Proofs.Ytnbelagjgmjehaa.Bv

theorem infoB : (Try.prog.info? 4).map (fun i => (i.zero, i.size, i.bytes)) = some (some (.bool false), 1, 1) := by kernel_rfl

def hit (s : W) (N i j : Nat) : Bool := (List.range i).any fun q => (iter next q s).toNat % N == j
def cellsOf (s : W) (N i : Nat) : List Value := (List.range N).map fun j => Value.bool (hit s N i j)
theorem cells_zero (s : W) (N : Nat) : cellsOf s N 0 = List.replicate N (.bool false) := by
  unfold cellsOf hit
  apply List.ext_getElem
  · simp
  · intro j h1 h2; simp
theorem cells_at (s : W) (N i j : Nat) (h : j < N) : (cellsOf s N i)[j]? = some (.bool (hit s N i j)) := by
  unfold cellsOf; simp [h]
theorem hit_succ (s : W) (N i j : Nat) : hit s N (i + 1) j = (hit s N i j || (iter next i s).toNat % N == j) := by
  unfold hit; rw [List.range_succ, List.any_append]; simp
theorem cells_set (s : W) (N i j : Nat) (hj : (iter next i s).toNat % N = j) : (cellsOf s N i).set j (.bool true) = cellsOf s N (i + 1) := by
  unfold cellsOf
  apply List.ext_getElem
  · simp
  · intro k h1 h2
    rw [List.getElem_set]
    simp only [List.getElem_map, List.getElem_range, hit_succ]
    by_cases h : j = k
    · subst h; simp [hj]
    · have : ¬ (iter next i s).toNat % N = k := by omega
      simp [h, this]
theorem not_hit (s : W) (b i : Nat) (hb : b ≤ 32) (hi : i < 2 ^ b) : hit s (2 ^ b) i ((iter next i s).toNat % 2 ^ b) = false := by
  unfold hit
  rw [List.any_eq_false]
  intro q hq
  have hq' : q < i := List.mem_range.1 hq
  have h := apart b (i - q) hb (by omega) (by omega) (iter next q s)
  rw [← iter_add, show q + (i - q) = i by omega] at h
  simp only [beq_iff_eq]
  exact fun e => h e.symm

theorem wraps_u32 (n : Int) (h₀ : 0 ≤ n) (h₁ : n < 2 ^ 32) : IntKind.u32.wrap n = n := by rw [IntKind.wrap_u32]; omega
theorem mask_num (x : W) (b N : Nat) (hN : N = 2 ^ b) (hb : b ≤ 32) : bits BinOp.and IntKind.u32 (U x) ((N : Int) - 1) = ((x.toNat % N : Nat) : Int) := by
  have e : ((N : Int) - 1) = 2 ^ b - 1 := by rw [hN]; simp
  have h := x.isLt
  rw [e, bits_mask .u32 32 (by decide) wraps_u32 b hb (U x) (U_nonneg x) (by unfold U; omega), hN]
  unfold U
  simp

theorem round_walk (a0 : Int) (a1 : Int) (w : World) (w0 : (Lit.int .u32 a0).wf = true) (w1 : (Lit.int .i64 a1).wf = true) :
    Calls Try.prog 5 #[.int .u32 a0, .int .i64 a1] w fun e w' => e = .returned (.bool true) ∧ Below w.heap.size w w' := by
  obtain ⟨s, rfl⟩ := open_u32 w0
  have b1 := open_i64 w1
  clear w0 w1
  obtain ⟨i0, hi, hz0, hz1, hz2⟩ := info_parts infoB
  by_cases h1 : a1 < 1
  · go_enter Try.func5, Try.ntmps5
    go_wp2_with (go_at_call 18; (with_reducible refine (lives_any _).mono ?_); rintro e w' ⟨rfl, rfl⟩)
    go_ret
    exact ⟨rfl, Below.refl _ _⟩
  by_cases h2 : 12 < a1
  · go_enter Try.func5, Try.ntmps5
    go_wp2_with (go_at_call 18; (with_reducible refine (lives_any _).mono ?_); rintro e w' ⟨rfl, rfl⟩)
    go_ret
    exact ⟨rfl, Below.refl _ _⟩
  obtain ⟨b, rfl⟩ := Int.eq_ofNat_of_zero_le (show 0 ≤ a1 by omega)
  obtain ⟨N, HN⟩ : ∃ N, Hid (N = 2 ^ b) := ⟨_, Lib.hid rfl⟩
  have n0 : 1 ≤ N := by rw [HN.out]; exact Nat.two_pow_pos b
  have n1 : N ≤ 4096 := by rw [HN.out]; exact Nat.pow_le_pow_right (n := 2) (by decide) (show b ≤ 12 by omega)
  have e2 : ((2 : Int) ^ b) = (N : Int) := by rw [HN.out]; simp
  have e1 : wrap64 ((2 : Int) ^ b) = (N : Int) := by rw [e2]; unfold wrap64; omega
  go_enter Try.func5, Try.ntmps5
  go_wp2_with (first | (go_at_call 18; (with_reducible refine (lives_any _).mono ?_); rintro e w' ⟨rfl, rfl⟩) | (at_make; refine wpList_make_full _ rfl _ _ 32 rfl w.heap.size 4 i0 (.bool false) 1 Try.underlying32 hi hz0 hz1 .i64 .i64 _ _ N rfl rfl rfl rfl ?c1 ?c2 ?c3 ?_))
  case c1 => first | omega | (rw [hz2]; omega)
  case c2 => unfold maxLen; omega
  case c3 => exact Nat.le_refl _
  intro w1 hown hgrow
  have hb := (Below.refl w.heap.size w).grown hgrow (Nat.le_refl _) (by intro k hk; cases hk)
  rw [toList_madeCells_one, ← cells_zero s N] at hown
  clear hgrow
  go_wp2_with fail
  go_loopw [6, 25] (fun v i wr => ∃ k : Nat, k ≤ N ∧ i = .int .i64 k ∧ v = .int .u32 (U (iter next k s)) ∧ wr.ownsRow w.heap.size 4 1 (.slice (some ⟨w.heap.size, 0, none⟩) N N) N (cellsOf s N k) ∧ Below w.heap.size w wr) (fun _ i _ => N - (intOf i).toNat)
  case atStart => exact ⟨0, Nat.zero_le _, rfl, by rw [iter_zero], hown, hb⟩
  case round =>
    obtain ⟨k, hk, rfl, rfl, hown', hb'⟩ := hrel
    clear hown hb
    by_cases hlt : k < N
    · obtain ⟨j, HJ⟩ : ∃ j, Hid ((iter next k s).toNat % N = j) := ⟨_, Lib.hid rfl⟩
      have hj : j < N := by have h := Nat.mod_lt (iter next k s).toNat (show 0 < N by omega); rw [HJ.out] at h; exact h
      have hand := mask_num (iter next k s) b N HN.out (by omega)
      rw [HJ.out] at hand
      have c1 : wr.cell? ⟨w.heap.size, j, none⟩ = (cellsOf s N k)[j]? := hown'.cellAt j (by omega)
      have f1 : wr.frozen? ⟨w.heap.size, j, none⟩ = false := hown'.frozenAt j
      have hnh : hit s N k j = false := by
        have h := not_hit s b k (by omega) (by rw [← HN.out]; exact hlt)
        rw [← HN.out, HJ.out] at h
        exact h
      rw [cells_at s N k j hj, hnh] at c1
      have hs := hown'.stored j (.bool true)
      rw [cells_set s N k j HJ.out] at hs
      have hs1 := hs.1
      have hb2 := hb'.setCell (p := ⟨w.heap.size, j, none⟩) (Nat.le_refl _) (.bool true)
      clear hs hown' hb' hnh
      go_wp2_with (go_at_call 20; (with_reducible refine (next_any _ (iter next k s) rfl _).mono ?_); rintro e w' ⟨rfl, rfl⟩)
      go_roundw
      case rel => exact ⟨k + 1, by omega, by go_num, by rw [iter_succ'], hs1, hb2⟩
      case measure => simp [intOf]; omega
    · have hkn : k = N := by omega
      subst hkn
      have m1 := mask_num (iter next k s) b k HN.out (by omega)
      have m2 := mask_num s b k HN.out (by omega)
      have hr := round b (by omega) s
      rw [← HN.out] at hr
      rw [hr] at m1
      generalize s.toNat % k = r at *
      clear hown'
      go_wp2_with fail
      go_quiet (fail)
      go_wp2_with fail
      go_ret
      exact ⟨ret_true (by simp), below_drewN hb' _⟩
end Go.Proofs.Ytnbelagjgmjehaa.Luck
