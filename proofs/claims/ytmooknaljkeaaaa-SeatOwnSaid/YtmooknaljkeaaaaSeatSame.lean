/-
  The walk of mustref.SameSeats, of seats that read alike; and of seat.Leave, whatever it is given for player 0.
-/
import Derived.Test.YtmooknaljkeaaaaSeatW
set_option linter.unusedVariables false
namespace Go.Proofs.Ytmooknaljkeaaaa
open Go.RowKit

set_option maxRecDepth 100000 in
set_option maxHeartbeats 1000000 in
theorem same1_any (A B : Option Addr) (m c d : Nat) (l : List Ord) (late : Int) (gn : Bool) (w : World) (h1 : Ords w A m c l) (h2 : Ords w B m d l) :
    Calls Try.prog 63 #[.agg #[.slice A m c, .int .i64 late, .bool gn], .agg #[.slice B m d, .int .i64 late, .bool gn]] w fun e w' => e = .returned (.bool true) ∧ Below w.heap.size w w' := by
  have hb1 := below_alloc0 w (.cells #[.slice A m c, .int .i64 late, .bool gn] 49)
  have hb2 := hb1.alloc hb1.size (.cells #[.slice B m d, .int .i64 late, .bool gn] 49)
  have heq := equalO_same (h1.later hb2) (h2.later hb2)
  have e1 : (late == late) = true := beq_self_eq_true _
  have e2 : (gn == gn) = true := beq_self_eq_true _
  clear h1 h2
  cases gn
  all_goals
    go_enter Try.func63, Try.ntmps63
    go_wp2_with (go_at_call 33; refine heq.mono ?_; rintro e w' ⟨rfl, q, rfl⟩)
    go_ret
    exact ⟨rfl, below_drewN hb2 q⟩
set_option maxRecDepth 100000 in
set_option maxHeartbeats 2000000 in
theorem same_any (A B : Option Addr) (n c d : Nat) (hs ks : List Seat.At) (l : List Seat) (w : World) (h1 : Seats w A n c hs l) (h2 : Seats w B n d ks l) :
    Calls Try.prog 62 #[.slice A n c, .slice B n d, .func (.func 63) #[] #[]] w fun e w' => e = .returned (.bool true) ∧ Below w.heap.size w w' := by
  have hln := h1.len
  have hbig := h1.cap.2.1
  have H1 := Lib.hid h1
  have H2 := Lib.hid h2
  have hnn : ((n : Int) != (n : Int)) = false := by simp
  clear h1 h2
  go_enter Try.func62, Try.ntmps62
  go_wp2_with fail
  clear hnn
  go_loopw [7, 8, 9, 17] (fun _ _ _ iv wr => ∃ k : Nat, k ≤ n ∧ iv = .int .i64 (k : Int) ∧ Below w.heap.size w wr) (fun _ _ _ iv _ => n - (intOf iv).toNat)
  case atStart => exact ⟨0, Nat.zero_le _, rfl, Below.refl _ _⟩
  case round =>
    obtain ⟨k, hk, rfl, hb⟩ := hrel
    by_cases hlt : k < n
    · obtain ⟨s, hs0⟩ : ∃ s, l[k]? = some s := ⟨_, List.getElem?_eq_getElem (by omega)⟩
      obtain ⟨b1, o1, x, rfl, _, ho1, q0, q1, q2⟩ := (H1.out.later hb).get hs0
      obtain ⟨b2, o2, y, rfl, _, ho2, r0, r1, r2⟩ := (H2.out.later hb).get hs0
      obtain ⟨m, hm⟩ : ∃ m, s.waits.length = m := ⟨_, rfl⟩
      rw [hm] at q0 r0 ho1 ho2
      have hbX := hb.alloc hb.size (.cells #[.slice x.A m x.c, .int .i64 s.late, .bool s.gone] 49)
      have hbY := hbX.alloc hbX.size (.cells #[.slice y.A m y.c, .int .i64 s.late, .bool s.gone] 49)
      have hxy := (below_alloc0 wr (.cells #[.slice x.A m x.c, .int .i64 s.late, .bool s.gone] 49)).alloc (by simp) (.cells #[.slice y.A m y.c, .int .i64 s.late, .bool s.gone] 49)
      have hc := same1_any x.A y.A m x.c y.c s.waits s.late s.gone _ (ho1.later hxy) (ho2.later hxy)
      have hki : (k : Int) < (n : Int) := by omega
      have hk0 : (0 : Int) ≤ (k : Int) := by omega
      have hbl2 : b2 < wr.heap.size := World.block_lt_of_cell? wr _ r0
      have hbne : ¬ b2 = wr.heap.size := by omega
      clear hs0 ho1 ho2 hm hxy hbX
      go_wp2_with (go_at_call 63; refine hc.mono ?_; rintro e w' ⟨rfl, hb2⟩)
      go_roundw
      case rel => exact ⟨k + 1, by omega, by go_num, hbY.trans (hb2.mono hbY.size)⟩
      case measure => simp [intOf]; omega
    · go_wp2_with fail
      go_ret
      exact ⟨rfl, hb⟩
theorem sames_any (A B : Option Addr) (n c d : Nat) (hs ks : List Seat.At) (l : List Seat) (w : World) (h1 : Seats w A n c hs l) (h2 : Seats w B n d ks l) :
    Calls Try.prog 37 #[.slice A n c, .slice B n d] w fun e w' => e = .returned (.bool true) ∧ Below w.heap.size w w' := by
  have hc := same_any A B n c d hs ks l w h1 h2
  clear h1 h2
  go_enter Try.func37, Try.ntmps37
  go_wp2_with (go_at_call 62; refine hc.mono ?_; rintro e w' ⟨rfl, hb2⟩)
  go_ret
  exact ⟨rfl, hb2⟩
theorem leave_bad (A : Option Addr) (n c : Nat) (hs : List Seat.At) (l : List Seat) (i : Int) (w : World) (hl : Seats w A n c hs l) (h1 : Seat.chk l ≠ 0) :
    Calls Try.prog 32 #[.slice A n c, .int .i64 i] w fun e w' => e = .returned (.tuple #[.slice none 0 0, .int .i64 (Seat.chk l)]) ∧ Below w.heap.size w w' := by
  have hc := scheck_any A n c hs l w hl
  generalize Seat.chk l = k at *
  have k1 : (k != 0) = true := by rw [bne_iff_ne]; exact h1
  have k2 : (k == 0) = false := by rw [beq_eq_false_iff_ne]; exact h1
  clear hl h1
  go_enter Try.func32, Try.ntmps32
  go_wp2_with fail
  refine hc.mono ?_
  rintro e w2 ⟨rfl, hb2⟩
  clear hc
  go_wp2_with fail
  go_ret2
  exact ⟨rfl, hb2⟩
theorem leave_gone (A : Option Addr) (n c : Nat) (hs : List Seat.At) (l : List Seat) (w : World) (hl : Seats w A n c hs l) (h1 : Seat.chk l = 0) (i : Nat) (s : Seat) (hs0 : l[i]? = some s) (hg : s.gone = true) :
    Calls Try.prog 32 #[.slice A n c, .int .i64 (i : Int)] w fun e w' => e = .returned (.tuple #[.slice none 0 0, .int .i64 8]) ∧ Below w.heap.size w w' := by
  have hc := scheck_any A n c hs l w hl
  rw [h1] at hc
  have hin : i < n := by have := (List.getElem?_eq_some_iff.1 hs0).1; rw [← hl.len]; exact this
  obtain ⟨b, o, k, rfl, hk0, hor, q0, q1, q2⟩ := hl.get hs0
  rw [hg] at q2
  have hin1 : ¬ (i : Int) < 0 := by omega
  have hin' : ¬ (n : Int) ≤ (i : Int) := by omega
  have hin2 : (i : Int) < (n : Int) := by omega
  have hi0 : (0 : Int) ≤ (i : Int) := by omega
  clear hl h1 hs0 hk0 hor q0 q1
  go_enter Try.func32, Try.ntmps32
  go_wp2_with fail
  refine hc.mono ?_
  rintro e w2 ⟨rfl, hb2⟩
  have q2 := cell_later hb2 q2
  clear hc
  go_wp2_with fail
  go_ret2
  exact ⟨rfl, hb2⟩
end Go.Proofs.Ytmooknaljkeaaaa
