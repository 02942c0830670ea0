/-
  slices.Equal of integers. (Printed by bin/eqI.py.)
-/
import Derived.Test.YtkijhejjnlmbmaaGol
import Derived.Test.YtkijhejjnlmbmaaBas
import Derived.Handy
set_option linter.unusedVariables false
set_option linter.unusedSimpArgs false
namespace Go.Proofs.Ytkijhejjnlmbmaa
open Go.RowKit

theorem ret_bool {a b : Bool} (h : a = b) : Ending.returned (.bool a) = .returned (.bool b) := by rw [h]
theorem below_alloc0 (w : World) (o : Obj) : Below w.heap.size w (w.alloc o) := (Below.refl _ w).alloc (Nat.le_refl _) o
set_option maxRecDepth 100000 in
set_option maxHeartbeats 2000000 in
theorem equal_I (A B : Option Addr) (c d b1 b2 : Nat) (l m : List Int) (w : World) (h1 : repI.SHas b1 w A c l) (h2 : repI.SHas b2 w B d m) :
    Calls Try.prog 21 #[.slice A l.length c, .slice B m.length d] w fun e w' => e = .returned (.bool (decide (l = m))) ∧ Below w.heap.size w w' := by
  obtain ⟨n, HN⟩ : ∃ n, Hid (l.length = n) := ⟨_, Lib.hid rfl⟩
  obtain ⟨n2, HM⟩ : ∃ n, Hid (m.length = n) := ⟨_, Lib.hid rfl⟩
  have hle : n ≤ 9223372036854775807 := by have := h1.len_le; rw [HN.out] at this; exact this
  have H1 := Lib.hid h1
  have H2 := Lib.hid h2
  clear h1 h2
  rw [HN.out, HM.out]
  by_cases hnn : n = n2
  · subst hnn
    have hd : ((n : Int) != (n : Int)) = false := by simp
    go_enter Try.func21, Try.ntmps21
    go_wp2_with fail
    clear hd
    go_loopw [5, 13] (fun _ iv wr => ∃ (k q : Nat), k ≤ n ∧ iv = .int .i64 (k : Int) ∧ Hid (l.take k = m.take k) ∧ Hid (wr = w.drewN q)) (fun _ iv _ => n - (intOf iv).toNat)
    case atStart => exact ⟨0, 0, Nat.zero_le _, rfl, (by show _ = _; simp), rfl⟩
    case round =>
      obtain ⟨k, q, hk, rfl, HK, HW⟩ := hrel
      have hbr : Below w.heap.size w wr := by rw [HW.out]; exact below_drewN (Below.refl _ w) q
      by_cases hlt : k < n
      · obtain ⟨x, hx⟩ := get_of (l := l) (i := k) (by rw [HN.out]; exact hlt)
        obtain ⟨y, hy⟩ := get_of (l := m) (i := k) (by rw [HM.out]; exact hlt)
        obtain ⟨b1, o1, rfl, hc1⟩ := repI_at (H1.out.keep hbr) (by rw [HN.out]; omega)
        obtain ⟨b2, o2, rfl, hc2⟩ := repI_at (H2.out.keep hbr) (by rw [HM.out]; omega)
        have q0 := hc1 k x hx
        have r0 := hc2 k y hy
        have hki : (k : Int) < (n : Int) := by omega
        have hk0 : (0 : Int) ≤ (k : Int) := by omega
        have htl : l.take (k + 1) = l.take k ++ [x] := by rw [List.take_add_one, hx]; rfl
        have htm : m.take (k + 1) = m.take k ++ [y] := by rw [List.take_add_one, hy]; rfl
        have HTL := Lib.hid htl
        have HTM := Lib.hid htm
        have HX := Lib.hid hx
        have HY := Lib.hid hy
        clear hc1 hc2 htl htm hx hy
        by_cases hxy : x = y
        · subst hxy
          have HK2 : Hid (l.take (k + 1) = m.take (k + 1)) := Lib.hid (by rw [HTL.out, HTM.out, HK.out])
          go_wp2_with fail
          go_quiet (fail)
          go_wp2_with fail
          go_roundw
          case rel => exact ⟨k + 1, _, by omega, by go_num, HK2, by show _ = _; rw [HW.out]; simp; rfl⟩
          case measure => simp [intOf]; omega
        · have HF : Hid (decide (l = m) = false) := Lib.hid (decide_eq_false fun e => hxy (by have h1 := HX.out; rw [e, HY.out] at h1; exact (Option.some.inj h1).symm))
          have hne : (x == y) = false := by simpa using hxy
          have hne2 : (x != y) = true := by simpa using hxy
          clear hxy
          go_wp2_with fail
          go_quiet (fail)
          go_wp2_with fail
          go_ret
          exact ⟨ret_bool HF.out.symm, below_drewN hbr _⟩
      · have HT : Hid (decide (l = m) = true) := Lib.hid (decide_eq_true (by have := HK.out; rw [List.take_of_length_le (by rw [HN.out]; omega), List.take_of_length_le (by rw [HM.out]; omega)] at this; exact this))
        clear HK
        go_wp2_with fail
        go_ret
        exact ⟨ret_bool HT.out.symm, hbr⟩
  · have HF : Hid (decide (l = m) = false) := Lib.hid (decide_eq_false fun e => hnn (by rw [← HN.out, ← HM.out, e]))
    have hd : ((n : Int) != (n2 : Int)) = true := by simp; omega
    rw [HF.out]
    go_enter Try.func21, Try.ntmps21
    go_wp2_with fail
    go_ret
    exact ⟨rfl, Below.refl _ _⟩
end Go.Proofs.Ytkijhejjnlmbmaa
