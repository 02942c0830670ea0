/-
  slices.IsSorted of integers that rise.
-/
import Derived.Test.YthjolbdjokopnaaEqI
set_option linter.unusedVariables false
namespace Go.Proofs.Ythjolbdjokopnaa
open Go.RowKit

theorem less_any (x y : Int) (w : World) : Calls Try.prog 61 #[.int .i64 x, .int .i64 y] w fun e w' => e = .returned (.bool (decide (x < y))) ∧ w = w' := by
  go_enter Try.func61, Try.ntmps61
  go_wp2
  go_ret
  exact ⟨rfl, rfl⟩
set_option maxRecDepth 100000 in
set_option maxHeartbeats 1000000 in
theorem sorted_int (A : Option Addr) (c by_ : Nat) (l : List Int) (w : World) (hl : repI.SHas by_ w A c l) (hs : ∀ (i j : Nat) x y, i < j → l[i]? = some x → l[j]? = some y → x ≤ y) :
    Calls Try.prog 42 #[.slice A l.length c] w fun e w' => e = .returned (.bool true) ∧ Below w.heap.size w w' := by
  obtain ⟨n, HN⟩ : ∃ n, Hid (l.length = n) := ⟨_, Lib.hid rfl⟩
  have hle : n ≤ 9223372036854775807 := by have := hl.len_le; rw [HN.out] at this; exact this
  have HL := Lib.hid hl
  have HS := Lib.hid hs
  clear hl hs
  rw [HN.out]
  go_enter Try.func42, Try.ntmps42
  go_wp2_with fail
  go_loopw [3] (fun iv wr => ∃ (k m : Nat), k ≤ n ∧ iv = .int .i64 ((k : Int) - 1) ∧ Hid (wr = w.drewN m)) (fun iv _ => (intOf iv).toNat)
  case atStart => exact ⟨n, 0, Nat.le_refl _, by first | rfl | go_num, rfl⟩
  case round =>
    obtain ⟨k, m, hk, rfl, HW⟩ := hrel
    have hbr : Below w.heap.size w wr := by rw [HW.out]; exact below_drewN (Below.refl _ w) m
    by_cases h2 : 2 ≤ k
    · obtain ⟨j, rfl⟩ : ∃ j, k = j + 2 := ⟨k - 2, by omega⟩
      obtain ⟨x, hx⟩ := get_of (l := l) (i := j + 1) (by rw [HN.out]; omega)
      obtain ⟨y, hy⟩ := get_of (l := l) (i := j) (by rw [HN.out]; omega)
      have hxy := HS.out j (j + 1) y x (by omega) hy hx
      obtain ⟨b, o, rfl, hcell⟩ := repI_at (HL.out.keep hbr) (by rw [HN.out]; omega)
      have q0 := hcell (j + 1) x hx
      have q1 := hcell j y hy
      have e0 : ((j + 2 : Nat) : Int) - 1 = ((j + 1 : Nat) : Int) := by omega
      rw [e0]
      have hd : decide (x < y) = false := by simpa using hxy
      have hla := fun V => less_any x y V
      rw [hd] at hla
      have w1 : IntKind.i64.wrap (((j + 1 : Nat) : Int) - 1) = (j : Int) := by
        rw [IntKind.wrap_i64]; omega
      have HLA := Lib.hid hla
      have k1 : ((j + 1 : Nat) : Int) < (n : Int) := by omega
      have k2 : (0 : Int) ≤ ((j + 1 : Nat) : Int) := by omega
      have k3 : (j : Int) < (n : Int) := by omega
      have k4 : (0 : Int) ≤ (j : Int) := by omega
      have k5 : (0 : Int) < ((j + 1 : Nat) : Int) := by omega
      clear hcell hx hy hxy hla
      go_wp2_with fail
      go_quiet ((go_at_call 61; exact quiet_of (HLA.out _)))
      go_wp2_with fail
      go_roundw
      case rel => exact ⟨j + 1, m + nq, by omega, by go_num, by show _ = _; rw [HW.out]; simp⟩
      case measure => simp [intOf] <;> omega
    · have hd : decide ((0 : Int) < (k : Int) - 1) = false := by simp; omega
      go_wp2_with fail
      go_ret
      exact ⟨rfl, hbr⟩
end Go.Proofs.Ythjolbdjokopnaa
