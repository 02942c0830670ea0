/-
  The walks of order.within, bare and Check.
-/
import Derived.Test.YtmooknaljkeaaaaOrdM
import Derived.Test.YtmooknaljkeaaaaStep
import Derived.Test.YtmooknaljkeaaaaShelf
import Derived.Outline
set_option linter.unusedVariables false
namespace Go.Proofs.Ytmooknaljkeaaaa
open Go.RowKit

theorem below_alloc0 (W : World) (o : Obj) : Below W.heap.size W (W.alloc o) := (Below.refl _ _).alloc (Nat.le_refl _) _
theorem within_any (n lo hi : Int) (w : World) : Calls Try.prog 79 #[.int .i64 n, .int .i64 lo, .int .i64 hi] w fun e w' => e = .returned (.bool (inB n lo hi)) ∧ w = w' := by
  by_cases h1 : lo ≤ n
  · by_cases h2 : n ≤ hi
    · have e : inB n lo hi = true := by simp [inB, h1, h2]
      rw [e]; clear e
      go_enter Try.func79, Try.ntmps79
      go_wp2_with fail
      go_ret
      exact ⟨rfl, rfl⟩
    · have e : inB n lo hi = false := by simp [inB, h2]
      rw [e]; clear e
      go_enter Try.func79, Try.ntmps79
      go_wp2_with fail
      go_ret
      exact ⟨rfl, rfl⟩
  · have e : inB n lo hi = false := by simp [inB, h1]
    rw [e]; clear e
    go_enter Try.func79, Try.ntmps79
    go_wp2_with fail
    go_ret
    exact ⟨rfl, rfl⟩
set_option maxRecDepth 100000 in
theorem bare1 (b who x y what : Int) (w : World) : Calls Try.prog 80 #[.agg #[.int .i64 b, .int .i64 1, .int .i64 who, .int .i64 x, .int .i64 y, .int .i64 what]] w fun e w' =>
    e = .returned (.agg #[.int .i64 b, .int .i64 1, .int .i64 who, .int .i64 0, .int .i64 0, .int .i64 what]) ∧ Below w.heap.size w w' := by
  go_enter Try.func80, Try.ntmps80
  go_wp2_with fail
  refine bodyPost_ret (v := .agg #[.int .i64 b, .int .i64 1, .int .i64 who, .int .i64 0, .int .i64 0, .int .i64 what]) (by simp [results, Try.results80, go_sem]) rfl ⟨rfl, ?_⟩
  exact ((Below.refl _ _).alloc (Nat.le_refl _) _).alloc (by simp) _
set_option maxRecDepth 100000 in
theorem bare2 (b who x y what : Int) (w : World) : Calls Try.prog 80 #[.agg #[.int .i64 b, .int .i64 2, .int .i64 who, .int .i64 x, .int .i64 y, .int .i64 what]] w fun e w' =>
    e = .returned (.agg #[.int .i64 b, .int .i64 2, .int .i64 who, .int .i64 x, .int .i64 y, .int .i64 0]) ∧ Below w.heap.size w w' := by
  go_enter Try.func80, Try.ntmps80
  go_wp2_with fail
  refine bodyPost_ret (v := .agg #[.int .i64 b, .int .i64 2, .int .i64 who, .int .i64 x, .int .i64 y, .int .i64 0]) (by simp [results, Try.results80, go_sem]) rfl ⟨rfl, ?_⟩
  exact ((Below.refl _ _).alloc (Nat.le_refl _) _).alloc (by simp) _
set_option maxRecDepth 100000 in
theorem bare3 (b who x y what : Int) (w : World) : Calls Try.prog 80 #[.agg #[.int .i64 b, .int .i64 3, .int .i64 who, .int .i64 x, .int .i64 y, .int .i64 what]] w fun e w' =>
    e = .returned (.agg #[.int .i64 b, .int .i64 3, .int .i64 who, .int .i64 x, .int .i64 y, .int .i64 0]) ∧ Below w.heap.size w w' := by
  go_enter Try.func80, Try.ntmps80
  go_wp2_with fail
  refine bodyPost_ret (v := .agg #[.int .i64 b, .int .i64 3, .int .i64 who, .int .i64 x, .int .i64 y, .int .i64 0]) (by simp [results, Try.results80, go_sem]) rfl ⟨rfl, ?_⟩
  exact ((Below.refl _ _).alloc (Nat.le_refl _) _).alloc (by simp) _
set_option maxRecDepth 100000 in
theorem bare4 (b who x y what : Int) (w : World) : Calls Try.prog 80 #[.agg #[.int .i64 b, .int .i64 4, .int .i64 who, .int .i64 x, .int .i64 y, .int .i64 what]] w fun e w' =>
    e = .returned (.agg #[.int .i64 b, .int .i64 4, .int .i64 who, .int .i64 0, .int .i64 0, .int .i64 0]) ∧ Below w.heap.size w w' := by
  go_enter Try.func80, Try.ntmps80
  go_wp2_with fail
  refine bodyPost_ret (v := .agg #[.int .i64 b, .int .i64 4, .int .i64 who, .int .i64 0, .int .i64 0, .int .i64 0]) (by simp [results, Try.results80, go_sem]) rfl ⟨rfl, ?_⟩
  exact ((Below.refl _ _).alloc (Nat.le_refl _) _).alloc (by simp) _
set_option maxRecDepth 100000 in
theorem bare5 (b who x y what : Int) (w : World) : Calls Try.prog 80 #[.agg #[.int .i64 b, .int .i64 5, .int .i64 who, .int .i64 x, .int .i64 y, .int .i64 what]] w fun e w' =>
    e = .returned (.agg #[.int .i64 b, .int .i64 5, .int .i64 0, .int .i64 0, .int .i64 0, .int .i64 what]) ∧ Below w.heap.size w w' := by
  go_enter Try.func80, Try.ntmps80
  go_wp2_with fail
  refine bodyPost_ret (v := .agg #[.int .i64 b, .int .i64 5, .int .i64 0, .int .i64 0, .int .i64 0, .int .i64 what]) (by simp [results, Try.results80, go_sem]) rfl ⟨rfl, ?_⟩
  exact ((Below.refl _ _).alloc (Nat.le_refl _) _).alloc (by simp) _
theorem held6 {w0 W W' : World} {a0 a1 a2 a3 a4 a5 : Addr} {v0 v1 v2 v3 v4 v5 : Value} (h : Below w0.heap.size w0 W ∧ W.cell? a0 = some v0 ∧ W.cell? a1 = some v1 ∧ W.cell? a2 = some v2 ∧ W.cell? a3 = some v3 ∧ W.cell? a4 = some v4 ∧ W.cell? a5 = some v5) (hb : Below W.heap.size W W') :
    Below w0.heap.size w0 W' ∧ W'.cell? a0 = some v0 ∧ W'.cell? a1 = some v1 ∧ W'.cell? a2 = some v2 ∧ W'.cell? a3 = some v3 ∧ W'.cell? a4 = some v4 ∧ W'.cell? a5 = some v5 :=
  ⟨h.1.trans (hb.mono h.1.size), cell_later hb h.2.1, cell_later hb h.2.2.1, cell_later hb h.2.2.2.1, cell_later hb h.2.2.2.2.1, cell_later hb h.2.2.2.2.2.1, cell_later hb h.2.2.2.2.2.2⟩
theorem start6 (w : World) (v0 v1 v2 v3 v4 v5 : Value) (t : TypeId) : Below (w.alloc (.cells #[v0, v1, v2, v3, v4, v5] t)).heap.size (w.alloc (.cells #[v0, v1, v2, v3, v4, v5] t)) (w.alloc (.cells #[v0, v1, v2, v3, v4, v5] t)).drew ∧
    (w.alloc (.cells #[v0, v1, v2, v3, v4, v5] t)).drew.cell? ⟨w.heap.size, 0, none⟩ = some v0 ∧ (w.alloc (.cells #[v0, v1, v2, v3, v4, v5] t)).drew.cell? ⟨w.heap.size, 1, none⟩ = some v1 ∧ (w.alloc (.cells #[v0, v1, v2, v3, v4, v5] t)).drew.cell? ⟨w.heap.size, 2, none⟩ = some v2 ∧
    (w.alloc (.cells #[v0, v1, v2, v3, v4, v5] t)).drew.cell? ⟨w.heap.size, 3, none⟩ = some v3 ∧ (w.alloc (.cells #[v0, v1, v2, v3, v4, v5] t)).drew.cell? ⟨w.heap.size, 4, none⟩ = some v4 ∧ (w.alloc (.cells #[v0, v1, v2, v3, v4, v5] t)).drew.cell? ⟨w.heap.size, 5, none⟩ = some v5 := by
  have hA := Blk.new w [v0, v1, v2, v3, v4, v5] t (0, 0)
  exact ⟨(Below.refl _ _).drew, hA.cell 0, hA.cell 1, hA.cell 2, hA.cell 3, hA.cell 4, hA.cell 5⟩
set_option maxRecDepth 100000 in
set_option maxHeartbeats 1000000 in
theorem chk1_ok (b who what : Int) (h_b : inB b 0 7 = true) (h_who : inB who 0 1000000 = true) (h_what : inB what 0 1000000 = true) (w : World) :
    Calls Try.prog 59 #[.agg #[.int .i64 b, .int .i64 1, .int .i64 who, .int .i64 0, .int .i64 0, .int .i64 what]] w fun e w' => e = .returned (.int .i64 0) ∧ Below w.heap.size w w' := by
  have h_k : inB 1 1 5 = true := by decide
  have h_x : inB 0 (-1000) 1000 = true := by decide
  have h_y : inB 0 (-1000) 1000 = true := by decide
  have HB := below_alloc0 w (.cells #[.int .i64 b, .int .i64 1, .int .i64 who, .int .i64 0, .int .i64 0, .int .i64 what] 59)
  have HS := start6 w (.int .i64 b) (.int .i64 1) (.int .i64 who) (.int .i64 0) (.int .i64 0) (.int .i64 what) 59
  go_enter Try.func59, Try.ntmps59
  go_wp2_with (go_at_call 79; refine (within_any _ _ _ _).mono ?_; rintro e w' ⟨rfl, rfl⟩; simp only [h_b, h_k, h_who, h_x, h_what])
  obtain ⟨w0, HW0⟩ : ∃ w0, Hid (w.alloc (.cells #[.int .i64 b, .int .i64 1, .int .i64 who, .int .i64 0, .int .i64 0, .int .i64 what] 59) = w0) := ⟨_, Lib.hid rfl⟩
  rw [HW0.out] at HB HS ⊢
  go_region_held3 (fun wx => Below w0.heap.size w0 wx ∧ wx.cell? ⟨w.heap.size, 0, none⟩ = some (.int .i64 b) ∧ wx.cell? ⟨w.heap.size, 1, none⟩ = some (.int .i64 1) ∧ wx.cell? ⟨w.heap.size, 2, none⟩ = some (.int .i64 who) ∧ wx.cell? ⟨w.heap.size, 3, none⟩ = some (.int .i64 0) ∧ wx.cell? ⟨w.heap.size, 4, none⟩ = some (.int .i64 0) ∧ wx.cell? ⟨w.heap.size, 5, none⟩ = some (.int .i64 what))
    (first | exact HS | exact held6 (by assumption) (by assumption)) ((go_at_call 80; refine (bare1 _ _ _ _ _ _).mono ?_; rintro e w' ⟨rfl, hbb⟩))
  all_goals
    have hb9 := HB.trans (Below.mono (And.left (show Below w0.heap.size w0 _ ∧ _ by assumption)) HB.size)
    go_wp2_with fail
    go_ret
    exact ⟨rfl, hb9⟩
set_option maxRecDepth 100000 in
set_option maxHeartbeats 1000000 in
theorem chk1_bad_x (b who x y what : Int) (h_b : inB b 0 7 = true) (h_who : inB who 0 1000000 = true) (h_x : inB x (-1000) 1000 = true) (h_y : inB y (-1000) 1000 = true) (h_what : inB what 0 1000000 = true) (hbad : ¬ x = 0) (w : World) :
    Calls Try.prog 59 #[.agg #[.int .i64 b, .int .i64 1, .int .i64 who, .int .i64 x, .int .i64 y, .int .i64 what]] w fun e w' => e = .returned (.int .i64 4) ∧ Below w.heap.size w w' := by
  have h_k : inB 1 1 5 = true := by decide
  have hb1 : ((0 : Int) == x) = false := by rw [beq_eq_false_iff_ne]; exact fun h => hbad h.symm
  have hb2 : (x == (0 : Int)) = false := by rw [beq_eq_false_iff_ne]; exact hbad
  have hb3 : ¬ (0 : Int) = x := fun h => hbad h.symm
  have HB := below_alloc0 w (.cells #[.int .i64 b, .int .i64 1, .int .i64 who, .int .i64 x, .int .i64 y, .int .i64 what] 59)
  have HS := start6 w (.int .i64 b) (.int .i64 1) (.int .i64 who) (.int .i64 x) (.int .i64 y) (.int .i64 what) 59
  go_enter Try.func59, Try.ntmps59
  go_wp2_with (go_at_call 79; refine (within_any _ _ _ _).mono ?_; rintro e w' ⟨rfl, rfl⟩; simp only [h_b, h_k, h_who, h_x, h_y, h_what])
  obtain ⟨w0, HW0⟩ : ∃ w0, Hid (w.alloc (.cells #[.int .i64 b, .int .i64 1, .int .i64 who, .int .i64 x, .int .i64 y, .int .i64 what] 59) = w0) := ⟨_, Lib.hid rfl⟩
  rw [HW0.out] at HB HS ⊢
  go_region_held3 (fun wx => Below w0.heap.size w0 wx ∧ wx.cell? ⟨w.heap.size, 0, none⟩ = some (.int .i64 b) ∧ wx.cell? ⟨w.heap.size, 1, none⟩ = some (.int .i64 1) ∧ wx.cell? ⟨w.heap.size, 2, none⟩ = some (.int .i64 who) ∧ wx.cell? ⟨w.heap.size, 3, none⟩ = some (.int .i64 x) ∧ wx.cell? ⟨w.heap.size, 4, none⟩ = some (.int .i64 y) ∧ wx.cell? ⟨w.heap.size, 5, none⟩ = some (.int .i64 what))
    (first | exact HS | exact held6 (by assumption) (by assumption)) ((go_at_call 80; refine (bare1 _ _ _ _ _ _).mono ?_; rintro e w' ⟨rfl, hbb⟩))
  all_goals
    have hb9 := HB.trans (Below.mono (And.left (show Below w0.heap.size w0 _ ∧ _ by assumption)) HB.size)
    go_wp2_with fail
    go_ret
    exact ⟨rfl, hb9⟩
set_option maxRecDepth 100000 in
set_option maxHeartbeats 1000000 in
theorem chk1_bad_y (b who y what : Int) (h_b : inB b 0 7 = true) (h_who : inB who 0 1000000 = true) (h_y : inB y (-1000) 1000 = true) (h_what : inB what 0 1000000 = true) (hbad : ¬ y = 0) (w : World) :
    Calls Try.prog 59 #[.agg #[.int .i64 b, .int .i64 1, .int .i64 who, .int .i64 0, .int .i64 y, .int .i64 what]] w fun e w' => e = .returned (.int .i64 4) ∧ Below w.heap.size w w' := by
  have h_k : inB 1 1 5 = true := by decide
  have h_x : inB 0 (-1000) 1000 = true := by decide
  have hb1 : ((0 : Int) == y) = false := by rw [beq_eq_false_iff_ne]; exact fun h => hbad h.symm
  have hb2 : (y == (0 : Int)) = false := by rw [beq_eq_false_iff_ne]; exact hbad
  have hb3 : ¬ (0 : Int) = y := fun h => hbad h.symm
  have HB := below_alloc0 w (.cells #[.int .i64 b, .int .i64 1, .int .i64 who, .int .i64 0, .int .i64 y, .int .i64 what] 59)
  have HS := start6 w (.int .i64 b) (.int .i64 1) (.int .i64 who) (.int .i64 0) (.int .i64 y) (.int .i64 what) 59
  go_enter Try.func59, Try.ntmps59
  go_wp2_with (go_at_call 79; refine (within_any _ _ _ _).mono ?_; rintro e w' ⟨rfl, rfl⟩; simp only [h_b, h_k, h_who, h_x, h_y, h_what])
  obtain ⟨w0, HW0⟩ : ∃ w0, Hid (w.alloc (.cells #[.int .i64 b, .int .i64 1, .int .i64 who, .int .i64 0, .int .i64 y, .int .i64 what] 59) = w0) := ⟨_, Lib.hid rfl⟩
  rw [HW0.out] at HB HS ⊢
  go_region_held3 (fun wx => Below w0.heap.size w0 wx ∧ wx.cell? ⟨w.heap.size, 0, none⟩ = some (.int .i64 b) ∧ wx.cell? ⟨w.heap.size, 1, none⟩ = some (.int .i64 1) ∧ wx.cell? ⟨w.heap.size, 2, none⟩ = some (.int .i64 who) ∧ wx.cell? ⟨w.heap.size, 3, none⟩ = some (.int .i64 0) ∧ wx.cell? ⟨w.heap.size, 4, none⟩ = some (.int .i64 y) ∧ wx.cell? ⟨w.heap.size, 5, none⟩ = some (.int .i64 what))
    (first | exact HS | exact held6 (by assumption) (by assumption)) ((go_at_call 80; refine (bare1 _ _ _ _ _ _).mono ?_; rintro e w' ⟨rfl, hbb⟩))
  all_goals
    have hb9 := HB.trans (Below.mono (And.left (show Below w0.heap.size w0 _ ∧ _ by assumption)) HB.size)
    go_wp2_with fail
    go_ret
    exact ⟨rfl, hb9⟩
set_option maxRecDepth 100000 in
set_option maxHeartbeats 1000000 in
theorem chk2_ok (b who x y : Int) (h_b : inB b 0 7 = true) (h_who : inB who 0 1000000 = true) (h_x : inB x (-1000) 1000 = true) (h_y : inB y (-1000) 1000 = true) (w : World) :
    Calls Try.prog 59 #[.agg #[.int .i64 b, .int .i64 2, .int .i64 who, .int .i64 x, .int .i64 y, .int .i64 0]] w fun e w' => e = .returned (.int .i64 0) ∧ Below w.heap.size w w' := by
  have h_k : inB 2 1 5 = true := by decide
  have h_what : inB 0 0 1000000 = true := by decide
  have HB := below_alloc0 w (.cells #[.int .i64 b, .int .i64 2, .int .i64 who, .int .i64 x, .int .i64 y, .int .i64 0] 59)
  have HS := start6 w (.int .i64 b) (.int .i64 2) (.int .i64 who) (.int .i64 x) (.int .i64 y) (.int .i64 0) 59
  go_enter Try.func59, Try.ntmps59
  go_wp2_with (go_at_call 79; refine (within_any _ _ _ _).mono ?_; rintro e w' ⟨rfl, rfl⟩; simp only [h_b, h_k, h_who, h_x, h_y, h_what])
  obtain ⟨w0, HW0⟩ : ∃ w0, Hid (w.alloc (.cells #[.int .i64 b, .int .i64 2, .int .i64 who, .int .i64 x, .int .i64 y, .int .i64 0] 59) = w0) := ⟨_, Lib.hid rfl⟩
  rw [HW0.out] at HB HS ⊢
  go_region_held3 (fun wx => Below w0.heap.size w0 wx ∧ wx.cell? ⟨w.heap.size, 0, none⟩ = some (.int .i64 b) ∧ wx.cell? ⟨w.heap.size, 1, none⟩ = some (.int .i64 2) ∧ wx.cell? ⟨w.heap.size, 2, none⟩ = some (.int .i64 who) ∧ wx.cell? ⟨w.heap.size, 3, none⟩ = some (.int .i64 x) ∧ wx.cell? ⟨w.heap.size, 4, none⟩ = some (.int .i64 y) ∧ wx.cell? ⟨w.heap.size, 5, none⟩ = some (.int .i64 0))
    (first | exact HS | exact held6 (by assumption) (by assumption)) ((go_at_call 80; refine (bare2 _ _ _ _ _ _).mono ?_; rintro e w' ⟨rfl, hbb⟩))
  all_goals
    have hb9 := HB.trans (Below.mono (And.left (show Below w0.heap.size w0 _ ∧ _ by assumption)) HB.size)
    go_wp2_with fail
    go_ret
    exact ⟨rfl, hb9⟩
set_option maxRecDepth 100000 in
set_option maxHeartbeats 1000000 in
theorem chk2_bad_what (b who x y what : Int) (h_b : inB b 0 7 = true) (h_who : inB who 0 1000000 = true) (h_x : inB x (-1000) 1000 = true) (h_y : inB y (-1000) 1000 = true) (h_what : inB what 0 1000000 = true) (hbad : ¬ what = 0) (w : World) :
    Calls Try.prog 59 #[.agg #[.int .i64 b, .int .i64 2, .int .i64 who, .int .i64 x, .int .i64 y, .int .i64 what]] w fun e w' => e = .returned (.int .i64 4) ∧ Below w.heap.size w w' := by
  have h_k : inB 2 1 5 = true := by decide
  have hb1 : ((0 : Int) == what) = false := by rw [beq_eq_false_iff_ne]; exact fun h => hbad h.symm
  have hb2 : (what == (0 : Int)) = false := by rw [beq_eq_false_iff_ne]; exact hbad
  have hb3 : ¬ (0 : Int) = what := fun h => hbad h.symm
  have HB := below_alloc0 w (.cells #[.int .i64 b, .int .i64 2, .int .i64 who, .int .i64 x, .int .i64 y, .int .i64 what] 59)
  have HS := start6 w (.int .i64 b) (.int .i64 2) (.int .i64 who) (.int .i64 x) (.int .i64 y) (.int .i64 what) 59
  go_enter Try.func59, Try.ntmps59
  go_wp2_with (go_at_call 79; refine (within_any _ _ _ _).mono ?_; rintro e w' ⟨rfl, rfl⟩; simp only [h_b, h_k, h_who, h_x, h_y, h_what])
  obtain ⟨w0, HW0⟩ : ∃ w0, Hid (w.alloc (.cells #[.int .i64 b, .int .i64 2, .int .i64 who, .int .i64 x, .int .i64 y, .int .i64 what] 59) = w0) := ⟨_, Lib.hid rfl⟩
  rw [HW0.out] at HB HS ⊢
  go_region_held3 (fun wx => Below w0.heap.size w0 wx ∧ wx.cell? ⟨w.heap.size, 0, none⟩ = some (.int .i64 b) ∧ wx.cell? ⟨w.heap.size, 1, none⟩ = some (.int .i64 2) ∧ wx.cell? ⟨w.heap.size, 2, none⟩ = some (.int .i64 who) ∧ wx.cell? ⟨w.heap.size, 3, none⟩ = some (.int .i64 x) ∧ wx.cell? ⟨w.heap.size, 4, none⟩ = some (.int .i64 y) ∧ wx.cell? ⟨w.heap.size, 5, none⟩ = some (.int .i64 what))
    (first | exact HS | exact held6 (by assumption) (by assumption)) ((go_at_call 80; refine (bare2 _ _ _ _ _ _).mono ?_; rintro e w' ⟨rfl, hbb⟩))
  all_goals
    have hb9 := HB.trans (Below.mono (And.left (show Below w0.heap.size w0 _ ∧ _ by assumption)) HB.size)
    go_wp2_with fail
    go_ret
    exact ⟨rfl, hb9⟩
set_option maxRecDepth 100000 in
set_option maxHeartbeats 1000000 in
theorem chk3_ok (b who x y : Int) (h_b : inB b 0 7 = true) (h_who : inB who 0 1000000 = true) (h_x : inB x (-1000) 1000 = true) (h_y : inB y (-1000) 1000 = true) (w : World) :
    Calls Try.prog 59 #[.agg #[.int .i64 b, .int .i64 3, .int .i64 who, .int .i64 x, .int .i64 y, .int .i64 0]] w fun e w' => e = .returned (.int .i64 0) ∧ Below w.heap.size w w' := by
  have h_k : inB 3 1 5 = true := by decide
  have h_what : inB 0 0 1000000 = true := by decide
  have HB := below_alloc0 w (.cells #[.int .i64 b, .int .i64 3, .int .i64 who, .int .i64 x, .int .i64 y, .int .i64 0] 59)
  have HS := start6 w (.int .i64 b) (.int .i64 3) (.int .i64 who) (.int .i64 x) (.int .i64 y) (.int .i64 0) 59
  go_enter Try.func59, Try.ntmps59
  go_wp2_with (go_at_call 79; refine (within_any _ _ _ _).mono ?_; rintro e w' ⟨rfl, rfl⟩; simp only [h_b, h_k, h_who, h_x, h_y, h_what])
  obtain ⟨w0, HW0⟩ : ∃ w0, Hid (w.alloc (.cells #[.int .i64 b, .int .i64 3, .int .i64 who, .int .i64 x, .int .i64 y, .int .i64 0] 59) = w0) := ⟨_, Lib.hid rfl⟩
  rw [HW0.out] at HB HS ⊢
  go_region_held3 (fun wx => Below w0.heap.size w0 wx ∧ wx.cell? ⟨w.heap.size, 0, none⟩ = some (.int .i64 b) ∧ wx.cell? ⟨w.heap.size, 1, none⟩ = some (.int .i64 3) ∧ wx.cell? ⟨w.heap.size, 2, none⟩ = some (.int .i64 who) ∧ wx.cell? ⟨w.heap.size, 3, none⟩ = some (.int .i64 x) ∧ wx.cell? ⟨w.heap.size, 4, none⟩ = some (.int .i64 y) ∧ wx.cell? ⟨w.heap.size, 5, none⟩ = some (.int .i64 0))
    (first | exact HS | exact held6 (by assumption) (by assumption)) ((go_at_call 80; refine (bare3 _ _ _ _ _ _).mono ?_; rintro e w' ⟨rfl, hbb⟩))
  all_goals
    have hb9 := HB.trans (Below.mono (And.left (show Below w0.heap.size w0 _ ∧ _ by assumption)) HB.size)
    go_wp2_with fail
    go_ret
    exact ⟨rfl, hb9⟩
set_option maxRecDepth 100000 in
set_option maxHeartbeats 1000000 in
theorem chk3_bad_what (b who x y what : Int) (h_b : inB b 0 7 = true) (h_who : inB who 0 1000000 = true) (h_x : inB x (-1000) 1000 = true) (h_y : inB y (-1000) 1000 = true) (h_what : inB what 0 1000000 = true) (hbad : ¬ what = 0) (w : World) :
    Calls Try.prog 59 #[.agg #[.int .i64 b, .int .i64 3, .int .i64 who, .int .i64 x, .int .i64 y, .int .i64 what]] w fun e w' => e = .returned (.int .i64 4) ∧ Below w.heap.size w w' := by
  have h_k : inB 3 1 5 = true := by decide
  have hb1 : ((0 : Int) == what) = false := by rw [beq_eq_false_iff_ne]; exact fun h => hbad h.symm
  have hb2 : (what == (0 : Int)) = false := by rw [beq_eq_false_iff_ne]; exact hbad
  have hb3 : ¬ (0 : Int) = what := fun h => hbad h.symm
  have HB := below_alloc0 w (.cells #[.int .i64 b, .int .i64 3, .int .i64 who, .int .i64 x, .int .i64 y, .int .i64 what] 59)
  have HS := start6 w (.int .i64 b) (.int .i64 3) (.int .i64 who) (.int .i64 x) (.int .i64 y) (.int .i64 what) 59
  go_enter Try.func59, Try.ntmps59
  go_wp2_with (go_at_call 79; refine (within_any _ _ _ _).mono ?_; rintro e w' ⟨rfl, rfl⟩; simp only [h_b, h_k, h_who, h_x, h_y, h_what])
  obtain ⟨w0, HW0⟩ : ∃ w0, Hid (w.alloc (.cells #[.int .i64 b, .int .i64 3, .int .i64 who, .int .i64 x, .int .i64 y, .int .i64 what] 59) = w0) := ⟨_, Lib.hid rfl⟩
  rw [HW0.out] at HB HS ⊢
  go_region_held3 (fun wx => Below w0.heap.size w0 wx ∧ wx.cell? ⟨w.heap.size, 0, none⟩ = some (.int .i64 b) ∧ wx.cell? ⟨w.heap.size, 1, none⟩ = some (.int .i64 3) ∧ wx.cell? ⟨w.heap.size, 2, none⟩ = some (.int .i64 who) ∧ wx.cell? ⟨w.heap.size, 3, none⟩ = some (.int .i64 x) ∧ wx.cell? ⟨w.heap.size, 4, none⟩ = some (.int .i64 y) ∧ wx.cell? ⟨w.heap.size, 5, none⟩ = some (.int .i64 what))
    (first | exact HS | exact held6 (by assumption) (by assumption)) ((go_at_call 80; refine (bare3 _ _ _ _ _ _).mono ?_; rintro e w' ⟨rfl, hbb⟩))
  all_goals
    have hb9 := HB.trans (Below.mono (And.left (show Below w0.heap.size w0 _ ∧ _ by assumption)) HB.size)
    go_wp2_with fail
    go_ret
    exact ⟨rfl, hb9⟩
set_option maxRecDepth 100000 in
set_option maxHeartbeats 1000000 in
theorem chk4_ok (b who : Int) (h_b : inB b 0 7 = true) (h_who : inB who 0 1000000 = true) (w : World) :
    Calls Try.prog 59 #[.agg #[.int .i64 b, .int .i64 4, .int .i64 who, .int .i64 0, .int .i64 0, .int .i64 0]] w fun e w' => e = .returned (.int .i64 0) ∧ Below w.heap.size w w' := by
  have h_k : inB 4 1 5 = true := by decide
  have h_x : inB 0 (-1000) 1000 = true := by decide
  have h_y : inB 0 (-1000) 1000 = true := by decide
  have h_what : inB 0 0 1000000 = true := by decide
  have HB := below_alloc0 w (.cells #[.int .i64 b, .int .i64 4, .int .i64 who, .int .i64 0, .int .i64 0, .int .i64 0] 59)
  have HS := start6 w (.int .i64 b) (.int .i64 4) (.int .i64 who) (.int .i64 0) (.int .i64 0) (.int .i64 0) 59
  go_enter Try.func59, Try.ntmps59
  go_wp2_with (go_at_call 79; refine (within_any _ _ _ _).mono ?_; rintro e w' ⟨rfl, rfl⟩; simp only [h_b, h_k, h_who, h_x, h_what])
  obtain ⟨w0, HW0⟩ : ∃ w0, Hid (w.alloc (.cells #[.int .i64 b, .int .i64 4, .int .i64 who, .int .i64 0, .int .i64 0, .int .i64 0] 59) = w0) := ⟨_, Lib.hid rfl⟩
  rw [HW0.out] at HB HS ⊢
  go_region_held3 (fun wx => Below w0.heap.size w0 wx ∧ wx.cell? ⟨w.heap.size, 0, none⟩ = some (.int .i64 b) ∧ wx.cell? ⟨w.heap.size, 1, none⟩ = some (.int .i64 4) ∧ wx.cell? ⟨w.heap.size, 2, none⟩ = some (.int .i64 who) ∧ wx.cell? ⟨w.heap.size, 3, none⟩ = some (.int .i64 0) ∧ wx.cell? ⟨w.heap.size, 4, none⟩ = some (.int .i64 0) ∧ wx.cell? ⟨w.heap.size, 5, none⟩ = some (.int .i64 0))
    (first | exact HS | exact held6 (by assumption) (by assumption)) ((go_at_call 80; refine (bare4 _ _ _ _ _ _).mono ?_; rintro e w' ⟨rfl, hbb⟩))
  all_goals
    have hb9 := HB.trans (Below.mono (And.left (show Below w0.heap.size w0 _ ∧ _ by assumption)) HB.size)
    go_wp2_with fail
    go_ret
    exact ⟨rfl, hb9⟩
set_option maxRecDepth 100000 in
set_option maxHeartbeats 1000000 in
theorem chk4_bad_x (b who x y what : Int) (h_b : inB b 0 7 = true) (h_who : inB who 0 1000000 = true) (h_x : inB x (-1000) 1000 = true) (h_y : inB y (-1000) 1000 = true) (h_what : inB what 0 1000000 = true) (hbad : ¬ x = 0) (w : World) :
    Calls Try.prog 59 #[.agg #[.int .i64 b, .int .i64 4, .int .i64 who, .int .i64 x, .int .i64 y, .int .i64 what]] w fun e w' => e = .returned (.int .i64 4) ∧ Below w.heap.size w w' := by
  have h_k : inB 4 1 5 = true := by decide
  have hb1 : ((0 : Int) == x) = false := by rw [beq_eq_false_iff_ne]; exact fun h => hbad h.symm
  have hb2 : (x == (0 : Int)) = false := by rw [beq_eq_false_iff_ne]; exact hbad
  have hb3 : ¬ (0 : Int) = x := fun h => hbad h.symm
  have HB := below_alloc0 w (.cells #[.int .i64 b, .int .i64 4, .int .i64 who, .int .i64 x, .int .i64 y, .int .i64 what] 59)
  have HS := start6 w (.int .i64 b) (.int .i64 4) (.int .i64 who) (.int .i64 x) (.int .i64 y) (.int .i64 what) 59
  go_enter Try.func59, Try.ntmps59
  go_wp2_with (go_at_call 79; refine (within_any _ _ _ _).mono ?_; rintro e w' ⟨rfl, rfl⟩; simp only [h_b, h_k, h_who, h_x, h_y, h_what])
  obtain ⟨w0, HW0⟩ : ∃ w0, Hid (w.alloc (.cells #[.int .i64 b, .int .i64 4, .int .i64 who, .int .i64 x, .int .i64 y, .int .i64 what] 59) = w0) := ⟨_, Lib.hid rfl⟩
  rw [HW0.out] at HB HS ⊢
  go_region_held3 (fun wx => Below w0.heap.size w0 wx ∧ wx.cell? ⟨w.heap.size, 0, none⟩ = some (.int .i64 b) ∧ wx.cell? ⟨w.heap.size, 1, none⟩ = some (.int .i64 4) ∧ wx.cell? ⟨w.heap.size, 2, none⟩ = some (.int .i64 who) ∧ wx.cell? ⟨w.heap.size, 3, none⟩ = some (.int .i64 x) ∧ wx.cell? ⟨w.heap.size, 4, none⟩ = some (.int .i64 y) ∧ wx.cell? ⟨w.heap.size, 5, none⟩ = some (.int .i64 what))
    (first | exact HS | exact held6 (by assumption) (by assumption)) ((go_at_call 80; refine (bare4 _ _ _ _ _ _).mono ?_; rintro e w' ⟨rfl, hbb⟩))
  all_goals
    have hb9 := HB.trans (Below.mono (And.left (show Below w0.heap.size w0 _ ∧ _ by assumption)) HB.size)
    go_wp2_with fail
    go_ret
    exact ⟨rfl, hb9⟩
set_option maxRecDepth 100000 in
set_option maxHeartbeats 1000000 in
theorem chk4_bad_y (b who y what : Int) (h_b : inB b 0 7 = true) (h_who : inB who 0 1000000 = true) (h_y : inB y (-1000) 1000 = true) (h_what : inB what 0 1000000 = true) (hbad : ¬ y = 0) (w : World) :
    Calls Try.prog 59 #[.agg #[.int .i64 b, .int .i64 4, .int .i64 who, .int .i64 0, .int .i64 y, .int .i64 what]] w fun e w' => e = .returned (.int .i64 4) ∧ Below w.heap.size w w' := by
  have h_k : inB 4 1 5 = true := by decide
  have h_x : inB 0 (-1000) 1000 = true := by decide
  have hb1 : ((0 : Int) == y) = false := by rw [beq_eq_false_iff_ne]; exact fun h => hbad h.symm
  have hb2 : (y == (0 : Int)) = false := by rw [beq_eq_false_iff_ne]; exact hbad
  have hb3 : ¬ (0 : Int) = y := fun h => hbad h.symm
  have HB := below_alloc0 w (.cells #[.int .i64 b, .int .i64 4, .int .i64 who, .int .i64 0, .int .i64 y, .int .i64 what] 59)
  have HS := start6 w (.int .i64 b) (.int .i64 4) (.int .i64 who) (.int .i64 0) (.int .i64 y) (.int .i64 what) 59
  go_enter Try.func59, Try.ntmps59
  go_wp2_with (go_at_call 79; refine (within_any _ _ _ _).mono ?_; rintro e w' ⟨rfl, rfl⟩; simp only [h_b, h_k, h_who, h_x, h_y, h_what])
  obtain ⟨w0, HW0⟩ : ∃ w0, Hid (w.alloc (.cells #[.int .i64 b, .int .i64 4, .int .i64 who, .int .i64 0, .int .i64 y, .int .i64 what] 59) = w0) := ⟨_, Lib.hid rfl⟩
  rw [HW0.out] at HB HS ⊢
  go_region_held3 (fun wx => Below w0.heap.size w0 wx ∧ wx.cell? ⟨w.heap.size, 0, none⟩ = some (.int .i64 b) ∧ wx.cell? ⟨w.heap.size, 1, none⟩ = some (.int .i64 4) ∧ wx.cell? ⟨w.heap.size, 2, none⟩ = some (.int .i64 who) ∧ wx.cell? ⟨w.heap.size, 3, none⟩ = some (.int .i64 0) ∧ wx.cell? ⟨w.heap.size, 4, none⟩ = some (.int .i64 y) ∧ wx.cell? ⟨w.heap.size, 5, none⟩ = some (.int .i64 what))
    (first | exact HS | exact held6 (by assumption) (by assumption)) ((go_at_call 80; refine (bare4 _ _ _ _ _ _).mono ?_; rintro e w' ⟨rfl, hbb⟩))
  all_goals
    have hb9 := HB.trans (Below.mono (And.left (show Below w0.heap.size w0 _ ∧ _ by assumption)) HB.size)
    go_wp2_with fail
    go_ret
    exact ⟨rfl, hb9⟩
set_option maxRecDepth 100000 in
set_option maxHeartbeats 1000000 in
theorem chk4_bad_what (b who what : Int) (h_b : inB b 0 7 = true) (h_who : inB who 0 1000000 = true) (h_what : inB what 0 1000000 = true) (hbad : ¬ what = 0) (w : World) :
    Calls Try.prog 59 #[.agg #[.int .i64 b, .int .i64 4, .int .i64 who, .int .i64 0, .int .i64 0, .int .i64 what]] w fun e w' => e = .returned (.int .i64 4) ∧ Below w.heap.size w w' := by
  have h_k : inB 4 1 5 = true := by decide
  have h_x : inB 0 (-1000) 1000 = true := by decide
  have h_y : inB 0 (-1000) 1000 = true := by decide
  have hb1 : ((0 : Int) == what) = false := by rw [beq_eq_false_iff_ne]; exact fun h => hbad h.symm
  have hb2 : (what == (0 : Int)) = false := by rw [beq_eq_false_iff_ne]; exact hbad
  have hb3 : ¬ (0 : Int) = what := fun h => hbad h.symm
  have HB := below_alloc0 w (.cells #[.int .i64 b, .int .i64 4, .int .i64 who, .int .i64 0, .int .i64 0, .int .i64 what] 59)
  have HS := start6 w (.int .i64 b) (.int .i64 4) (.int .i64 who) (.int .i64 0) (.int .i64 0) (.int .i64 what) 59
  go_enter Try.func59, Try.ntmps59
  go_wp2_with (go_at_call 79; refine (within_any _ _ _ _).mono ?_; rintro e w' ⟨rfl, rfl⟩; simp only [h_b, h_k, h_who, h_x, h_what])
  obtain ⟨w0, HW0⟩ : ∃ w0, Hid (w.alloc (.cells #[.int .i64 b, .int .i64 4, .int .i64 who, .int .i64 0, .int .i64 0, .int .i64 what] 59) = w0) := ⟨_, Lib.hid rfl⟩
  rw [HW0.out] at HB HS ⊢
  go_region_held3 (fun wx => Below w0.heap.size w0 wx ∧ wx.cell? ⟨w.heap.size, 0, none⟩ = some (.int .i64 b) ∧ wx.cell? ⟨w.heap.size, 1, none⟩ = some (.int .i64 4) ∧ wx.cell? ⟨w.heap.size, 2, none⟩ = some (.int .i64 who) ∧ wx.cell? ⟨w.heap.size, 3, none⟩ = some (.int .i64 0) ∧ wx.cell? ⟨w.heap.size, 4, none⟩ = some (.int .i64 0) ∧ wx.cell? ⟨w.heap.size, 5, none⟩ = some (.int .i64 what))
    (first | exact HS | exact held6 (by assumption) (by assumption)) ((go_at_call 80; refine (bare4 _ _ _ _ _ _).mono ?_; rintro e w' ⟨rfl, hbb⟩))
  all_goals
    have hb9 := HB.trans (Below.mono (And.left (show Below w0.heap.size w0 _ ∧ _ by assumption)) HB.size)
    go_wp2_with fail
    go_ret
    exact ⟨rfl, hb9⟩
set_option maxRecDepth 100000 in
set_option maxHeartbeats 1000000 in
theorem chk5_ok (b what : Int) (h_b : inB b 0 7 = true) (h_what : inB what 0 1000000 = true) (w : World) :
    Calls Try.prog 59 #[.agg #[.int .i64 b, .int .i64 5, .int .i64 0, .int .i64 0, .int .i64 0, .int .i64 what]] w fun e w' => e = .returned (.int .i64 0) ∧ Below w.heap.size w w' := by
  have h_k : inB 5 1 5 = true := by decide
  have h_who : inB 0 0 1000000 = true := by decide
  have h_x : inB 0 (-1000) 1000 = true := by decide
  have h_y : inB 0 (-1000) 1000 = true := by decide
  have HB := below_alloc0 w (.cells #[.int .i64 b, .int .i64 5, .int .i64 0, .int .i64 0, .int .i64 0, .int .i64 what] 59)
  have HS := start6 w (.int .i64 b) (.int .i64 5) (.int .i64 0) (.int .i64 0) (.int .i64 0) (.int .i64 what) 59
  go_enter Try.func59, Try.ntmps59
  go_wp2_with (go_at_call 79; refine (within_any _ _ _ _).mono ?_; rintro e w' ⟨rfl, rfl⟩; simp only [h_b, h_k, h_who, h_x, h_what])
  obtain ⟨w0, HW0⟩ : ∃ w0, Hid (w.alloc (.cells #[.int .i64 b, .int .i64 5, .int .i64 0, .int .i64 0, .int .i64 0, .int .i64 what] 59) = w0) := ⟨_, Lib.hid rfl⟩
  rw [HW0.out] at HB HS ⊢
  go_region_held3 (fun wx => Below w0.heap.size w0 wx ∧ wx.cell? ⟨w.heap.size, 0, none⟩ = some (.int .i64 b) ∧ wx.cell? ⟨w.heap.size, 1, none⟩ = some (.int .i64 5) ∧ wx.cell? ⟨w.heap.size, 2, none⟩ = some (.int .i64 0) ∧ wx.cell? ⟨w.heap.size, 3, none⟩ = some (.int .i64 0) ∧ wx.cell? ⟨w.heap.size, 4, none⟩ = some (.int .i64 0) ∧ wx.cell? ⟨w.heap.size, 5, none⟩ = some (.int .i64 what))
    (first | exact HS | exact held6 (by assumption) (by assumption)) ((go_at_call 80; refine (bare5 _ _ _ _ _ _).mono ?_; rintro e w' ⟨rfl, hbb⟩))
  all_goals
    have hb9 := HB.trans (Below.mono (And.left (show Below w0.heap.size w0 _ ∧ _ by assumption)) HB.size)
    go_wp2_with fail
    go_ret
    exact ⟨rfl, hb9⟩
set_option maxRecDepth 100000 in
set_option maxHeartbeats 1000000 in
theorem chk5_bad_who (b who x y what : Int) (h_b : inB b 0 7 = true) (h_who : inB who 0 1000000 = true) (h_x : inB x (-1000) 1000 = true) (h_y : inB y (-1000) 1000 = true) (h_what : inB what 0 1000000 = true) (hbad : ¬ who = 0) (w : World) :
    Calls Try.prog 59 #[.agg #[.int .i64 b, .int .i64 5, .int .i64 who, .int .i64 x, .int .i64 y, .int .i64 what]] w fun e w' => e = .returned (.int .i64 4) ∧ Below w.heap.size w w' := by
  have h_k : inB 5 1 5 = true := by decide
  have hb1 : ((0 : Int) == who) = false := by rw [beq_eq_false_iff_ne]; exact fun h => hbad h.symm
  have hb2 : (who == (0 : Int)) = false := by rw [beq_eq_false_iff_ne]; exact hbad
  have hb3 : ¬ (0 : Int) = who := fun h => hbad h.symm
  have HB := below_alloc0 w (.cells #[.int .i64 b, .int .i64 5, .int .i64 who, .int .i64 x, .int .i64 y, .int .i64 what] 59)
  have HS := start6 w (.int .i64 b) (.int .i64 5) (.int .i64 who) (.int .i64 x) (.int .i64 y) (.int .i64 what) 59
  go_enter Try.func59, Try.ntmps59
  go_wp2_with (go_at_call 79; refine (within_any _ _ _ _).mono ?_; rintro e w' ⟨rfl, rfl⟩; simp only [h_b, h_k, h_who, h_x, h_y, h_what])
  obtain ⟨w0, HW0⟩ : ∃ w0, Hid (w.alloc (.cells #[.int .i64 b, .int .i64 5, .int .i64 who, .int .i64 x, .int .i64 y, .int .i64 what] 59) = w0) := ⟨_, Lib.hid rfl⟩
  rw [HW0.out] at HB HS ⊢
  go_region_held3 (fun wx => Below w0.heap.size w0 wx ∧ wx.cell? ⟨w.heap.size, 0, none⟩ = some (.int .i64 b) ∧ wx.cell? ⟨w.heap.size, 1, none⟩ = some (.int .i64 5) ∧ wx.cell? ⟨w.heap.size, 2, none⟩ = some (.int .i64 who) ∧ wx.cell? ⟨w.heap.size, 3, none⟩ = some (.int .i64 x) ∧ wx.cell? ⟨w.heap.size, 4, none⟩ = some (.int .i64 y) ∧ wx.cell? ⟨w.heap.size, 5, none⟩ = some (.int .i64 what))
    (first | exact HS | exact held6 (by assumption) (by assumption)) ((go_at_call 80; refine (bare5 _ _ _ _ _ _).mono ?_; rintro e w' ⟨rfl, hbb⟩))
  all_goals
    have hb9 := HB.trans (Below.mono (And.left (show Below w0.heap.size w0 _ ∧ _ by assumption)) HB.size)
    go_wp2_with fail
    go_ret
    exact ⟨rfl, hb9⟩
set_option maxRecDepth 100000 in
set_option maxHeartbeats 1000000 in
theorem chk5_bad_x (b x y what : Int) (h_b : inB b 0 7 = true) (h_x : inB x (-1000) 1000 = true) (h_y : inB y (-1000) 1000 = true) (h_what : inB what 0 1000000 = true) (hbad : ¬ x = 0) (w : World) :
    Calls Try.prog 59 #[.agg #[.int .i64 b, .int .i64 5, .int .i64 0, .int .i64 x, .int .i64 y, .int .i64 what]] w fun e w' => e = .returned (.int .i64 4) ∧ Below w.heap.size w w' := by
  have h_k : inB 5 1 5 = true := by decide
  have h_who : inB 0 0 1000000 = true := by decide
  have hb1 : ((0 : Int) == x) = false := by rw [beq_eq_false_iff_ne]; exact fun h => hbad h.symm
  have hb2 : (x == (0 : Int)) = false := by rw [beq_eq_false_iff_ne]; exact hbad
  have hb3 : ¬ (0 : Int) = x := fun h => hbad h.symm
  have HB := below_alloc0 w (.cells #[.int .i64 b, .int .i64 5, .int .i64 0, .int .i64 x, .int .i64 y, .int .i64 what] 59)
  have HS := start6 w (.int .i64 b) (.int .i64 5) (.int .i64 0) (.int .i64 x) (.int .i64 y) (.int .i64 what) 59
  go_enter Try.func59, Try.ntmps59
  go_wp2_with (go_at_call 79; refine (within_any _ _ _ _).mono ?_; rintro e w' ⟨rfl, rfl⟩; simp only [h_b, h_k, h_who, h_x, h_y, h_what])
  obtain ⟨w0, HW0⟩ : ∃ w0, Hid (w.alloc (.cells #[.int .i64 b, .int .i64 5, .int .i64 0, .int .i64 x, .int .i64 y, .int .i64 what] 59) = w0) := ⟨_, Lib.hid rfl⟩
  rw [HW0.out] at HB HS ⊢
  go_region_held3 (fun wx => Below w0.heap.size w0 wx ∧ wx.cell? ⟨w.heap.size, 0, none⟩ = some (.int .i64 b) ∧ wx.cell? ⟨w.heap.size, 1, none⟩ = some (.int .i64 5) ∧ wx.cell? ⟨w.heap.size, 2, none⟩ = some (.int .i64 0) ∧ wx.cell? ⟨w.heap.size, 3, none⟩ = some (.int .i64 x) ∧ wx.cell? ⟨w.heap.size, 4, none⟩ = some (.int .i64 y) ∧ wx.cell? ⟨w.heap.size, 5, none⟩ = some (.int .i64 what))
    (first | exact HS | exact held6 (by assumption) (by assumption)) ((go_at_call 80; refine (bare5 _ _ _ _ _ _).mono ?_; rintro e w' ⟨rfl, hbb⟩))
  all_goals
    have hb9 := HB.trans (Below.mono (And.left (show Below w0.heap.size w0 _ ∧ _ by assumption)) HB.size)
    go_wp2_with fail
    go_ret
    exact ⟨rfl, hb9⟩
set_option maxRecDepth 100000 in
set_option maxHeartbeats 1000000 in
theorem chk5_bad_y (b y what : Int) (h_b : inB b 0 7 = true) (h_y : inB y (-1000) 1000 = true) (h_what : inB what 0 1000000 = true) (hbad : ¬ y = 0) (w : World) :
    Calls Try.prog 59 #[.agg #[.int .i64 b, .int .i64 5, .int .i64 0, .int .i64 0, .int .i64 y, .int .i64 what]] w fun e w' => e = .returned (.int .i64 4) ∧ Below w.heap.size w w' := by
  have h_k : inB 5 1 5 = true := by decide
  have h_who : inB 0 0 1000000 = true := by decide
  have h_x : inB 0 (-1000) 1000 = true := by decide
  have hb1 : ((0 : Int) == y) = false := by rw [beq_eq_false_iff_ne]; exact fun h => hbad h.symm
  have hb2 : (y == (0 : Int)) = false := by rw [beq_eq_false_iff_ne]; exact hbad
  have hb3 : ¬ (0 : Int) = y := fun h => hbad h.symm
  have HB := below_alloc0 w (.cells #[.int .i64 b, .int .i64 5, .int .i64 0, .int .i64 0, .int .i64 y, .int .i64 what] 59)
  have HS := start6 w (.int .i64 b) (.int .i64 5) (.int .i64 0) (.int .i64 0) (.int .i64 y) (.int .i64 what) 59
  go_enter Try.func59, Try.ntmps59
  go_wp2_with (go_at_call 79; refine (within_any _ _ _ _).mono ?_; rintro e w' ⟨rfl, rfl⟩; simp only [h_b, h_k, h_who, h_x, h_y, h_what])
  obtain ⟨w0, HW0⟩ : ∃ w0, Hid (w.alloc (.cells #[.int .i64 b, .int .i64 5, .int .i64 0, .int .i64 0, .int .i64 y, .int .i64 what] 59) = w0) := ⟨_, Lib.hid rfl⟩
  rw [HW0.out] at HB HS ⊢
  go_region_held3 (fun wx => Below w0.heap.size w0 wx ∧ wx.cell? ⟨w.heap.size, 0, none⟩ = some (.int .i64 b) ∧ wx.cell? ⟨w.heap.size, 1, none⟩ = some (.int .i64 5) ∧ wx.cell? ⟨w.heap.size, 2, none⟩ = some (.int .i64 0) ∧ wx.cell? ⟨w.heap.size, 3, none⟩ = some (.int .i64 0) ∧ wx.cell? ⟨w.heap.size, 4, none⟩ = some (.int .i64 y) ∧ wx.cell? ⟨w.heap.size, 5, none⟩ = some (.int .i64 what))
    (first | exact HS | exact held6 (by assumption) (by assumption)) ((go_at_call 80; refine (bare5 _ _ _ _ _ _).mono ?_; rintro e w' ⟨rfl, hbb⟩))
  all_goals
    have hb9 := HB.trans (Below.mono (And.left (show Below w0.heap.size w0 _ ∧ _ by assumption)) HB.size)
    go_wp2_with fail
    go_ret
    exact ⟨rfl, hb9⟩
set_option maxRecDepth 100000 in
set_option maxHeartbeats 1000000 in
theorem chk_arg_b (b k who x y what : Int) (h_b : inB b 0 7 = false) (w : World) :
    Calls Try.prog 59 #[.agg #[.int .i64 b, .int .i64 k, .int .i64 who, .int .i64 x, .int .i64 y, .int .i64 what]] w fun e w' => e = .returned (.int .i64 1) ∧ Below w.heap.size w w' := by
  have HB := below_alloc0 w (.cells #[.int .i64 b, .int .i64 k, .int .i64 who, .int .i64 x, .int .i64 y, .int .i64 what] 59)
  go_enter Try.func59, Try.ntmps59
  go_wp2_with (go_at_call 79; refine (within_any _ _ _ _).mono ?_; rintro e w' ⟨rfl, rfl⟩; simp only [h_b])
  go_ret
  exact ⟨rfl, HB⟩
set_option maxRecDepth 100000 in
set_option maxHeartbeats 1000000 in
theorem chk_arg_k (b k who x y what : Int) (h_b : inB b 0 7 = true) (h_k : inB k 1 5 = false) (w : World) :
    Calls Try.prog 59 #[.agg #[.int .i64 b, .int .i64 k, .int .i64 who, .int .i64 x, .int .i64 y, .int .i64 what]] w fun e w' => e = .returned (.int .i64 1) ∧ Below w.heap.size w w' := by
  have HB := below_alloc0 w (.cells #[.int .i64 b, .int .i64 k, .int .i64 who, .int .i64 x, .int .i64 y, .int .i64 what] 59)
  go_enter Try.func59, Try.ntmps59
  go_wp2_with (go_at_call 79; refine (within_any _ _ _ _).mono ?_; rintro e w' ⟨rfl, rfl⟩; simp only [h_b, h_k])
  go_ret
  exact ⟨rfl, HB⟩
set_option maxRecDepth 100000 in
set_option maxHeartbeats 1000000 in
theorem chk_arg_who (b k who x y what : Int) (h_b : inB b 0 7 = true) (h_k : inB k 1 5 = true) (h_who : inB who 0 1000000 = false) (w : World) :
    Calls Try.prog 59 #[.agg #[.int .i64 b, .int .i64 k, .int .i64 who, .int .i64 x, .int .i64 y, .int .i64 what]] w fun e w' => e = .returned (.int .i64 1) ∧ Below w.heap.size w w' := by
  have HB := below_alloc0 w (.cells #[.int .i64 b, .int .i64 k, .int .i64 who, .int .i64 x, .int .i64 y, .int .i64 what] 59)
  go_enter Try.func59, Try.ntmps59
  go_wp2_with (go_at_call 79; refine (within_any _ _ _ _).mono ?_; rintro e w' ⟨rfl, rfl⟩; simp only [h_b, h_k, h_who])
  go_ret
  exact ⟨rfl, HB⟩
set_option maxRecDepth 100000 in
set_option maxHeartbeats 1000000 in
theorem chk_arg_x (b k who x y what : Int) (h_b : inB b 0 7 = true) (h_k : inB k 1 5 = true) (h_who : inB who 0 1000000 = true) (h_x : inB x (-1000) 1000 = false) (w : World) :
    Calls Try.prog 59 #[.agg #[.int .i64 b, .int .i64 k, .int .i64 who, .int .i64 x, .int .i64 y, .int .i64 what]] w fun e w' => e = .returned (.int .i64 1) ∧ Below w.heap.size w w' := by
  have HB := below_alloc0 w (.cells #[.int .i64 b, .int .i64 k, .int .i64 who, .int .i64 x, .int .i64 y, .int .i64 what] 59)
  go_enter Try.func59, Try.ntmps59
  go_wp2_with (go_at_call 79; refine (within_any _ _ _ _).mono ?_; rintro e w' ⟨rfl, rfl⟩; simp only [h_b, h_k, h_who, h_x])
  go_ret
  exact ⟨rfl, HB⟩
set_option maxRecDepth 100000 in
set_option maxHeartbeats 1000000 in
theorem chk_arg_y (b k who x y what : Int) (h_b : inB b 0 7 = true) (h_k : inB k 1 5 = true) (h_who : inB who 0 1000000 = true) (h_x : inB x (-1000) 1000 = true) (h_y : inB y (-1000) 1000 = false) (w : World) :
    Calls Try.prog 59 #[.agg #[.int .i64 b, .int .i64 k, .int .i64 who, .int .i64 x, .int .i64 y, .int .i64 what]] w fun e w' => e = .returned (.int .i64 1) ∧ Below w.heap.size w w' := by
  have HB := below_alloc0 w (.cells #[.int .i64 b, .int .i64 k, .int .i64 who, .int .i64 x, .int .i64 y, .int .i64 what] 59)
  go_enter Try.func59, Try.ntmps59
  go_wp2_with (go_at_call 79; refine (within_any _ _ _ _).mono ?_; rintro e w' ⟨rfl, rfl⟩; simp only [h_b, h_k, h_who, h_x, h_y])
  go_ret
  exact ⟨rfl, HB⟩
set_option maxRecDepth 100000 in
set_option maxHeartbeats 1000000 in
theorem chk_arg_what (b k who x y what : Int) (h_b : inB b 0 7 = true) (h_k : inB k 1 5 = true) (h_who : inB who 0 1000000 = true) (h_x : inB x (-1000) 1000 = true) (h_y : inB y (-1000) 1000 = true) (h_what : inB what 0 1000000 = false) (w : World) :
    Calls Try.prog 59 #[.agg #[.int .i64 b, .int .i64 k, .int .i64 who, .int .i64 x, .int .i64 y, .int .i64 what]] w fun e w' => e = .returned (.int .i64 1) ∧ Below w.heap.size w w' := by
  have HB := below_alloc0 w (.cells #[.int .i64 b, .int .i64 k, .int .i64 who, .int .i64 x, .int .i64 y, .int .i64 what] 59)
  go_enter Try.func59, Try.ntmps59
  go_wp2_with (go_at_call 79; refine (within_any _ _ _ _).mono ?_; rintro e w' ⟨rfl, rfl⟩; simp only [h_b, h_k, h_who, h_x, h_y, h_what])
  go_ret
  exact ⟨rfl, HB⟩
theorem Ord.cells_eq (o : Ord) : o.cells.toArray = #[.int .i64 o.by_, .int .i64 o.kind, .int .i64 o.who, .int .i64 o.x, .int .i64 o.y, .int .i64 o.what] := rfl
theorem Ord.chk_arg {o : Ord} (h : o.range = false) : o.chk = 1 := by unfold Ord.chk; rw [h]; rfl
theorem Ord.chk_form {o : Ord} (h : o.range = true) (h2 : o.form = false) : o.chk = 4 := by unfold Ord.chk; rw [h, h2]; rfl
theorem Ord.chk_good {o : Ord} (h : o.range = true) (h2 : o.form = true) : o.chk = 0 := by unfold Ord.chk; rw [h, h2]; rfl
/-- order.Check. -/
theorem check_any (o : Ord) (w : World) : Calls Try.prog 59 #[.agg o.cells.toArray] w fun e w' => e = .returned (.int .i64 o.chk) ∧ Below w.heap.size w w' := by
  rw [Ord.cells_eq]
  obtain ⟨b, k, who, x, y, what⟩ := o
  simp only
  cases h_b : inB b 0 7
  · rw [Ord.chk_arg (by simp [Ord.range, h_b])]; exact chk_arg_b b k who x y what h_b w
  cases h_k : inB k 1 5
  · rw [Ord.chk_arg (by simp [Ord.range, h_k])]; exact chk_arg_k b k who x y what h_b h_k w
  cases h_who : inB who 0 1000000
  · rw [Ord.chk_arg (by simp [Ord.range, h_who])]; exact chk_arg_who b k who x y what h_b h_k h_who w
  cases h_x : inB x (-1000) 1000
  · rw [Ord.chk_arg (by simp [Ord.range, h_x])]; exact chk_arg_x b k who x y what h_b h_k h_who h_x w
  cases h_y : inB y (-1000) 1000
  · rw [Ord.chk_arg (by simp [Ord.range, h_y])]; exact chk_arg_y b k who x y what h_b h_k h_who h_x h_y w
  cases h_what : inB what 0 1000000
  · rw [Ord.chk_arg (by simp [Ord.range, h_what])]; exact chk_arg_what b k who x y what h_b h_k h_who h_x h_y h_what w
  have hr : Ord.range ⟨b, k, who, x, y, what⟩ = true := by simp [Ord.range, h_b, h_k, h_who, h_x, h_y, h_what]
  obtain ⟨hk1, hk5⟩ := inB_true h_k
  have hk : k = 1 ∨ k = 2 ∨ k = 3 ∨ k = 4 ∨ k = 5 := by omega
  rcases hk with rfl | rfl | rfl | rfl | rfl
  · by_cases hz0 : x = 0
    rotate_left
    · rw [Ord.chk_form hr (by simp [Ord.form, hz0])]; exact chk1_bad_x b who x y what h_b h_who h_x h_y h_what hz0 w
    subst hz0
    by_cases hz1 : y = 0
    rotate_left
    · rw [Ord.chk_form hr (by simp [Ord.form, hz1])]; exact chk1_bad_y b who y what h_b h_who h_y h_what hz1 w
    subst hz1
    rw [Ord.chk_good hr (by simp [Ord.form])]; exact chk1_ok b who what h_b h_who h_what w
  · by_cases hz0 : what = 0
    rotate_left
    · rw [Ord.chk_form hr (by simp [Ord.form, hz0])]; exact chk2_bad_what b who x y what h_b h_who h_x h_y h_what hz0 w
    subst hz0
    rw [Ord.chk_good hr (by simp [Ord.form])]; exact chk2_ok b who x y h_b h_who h_x h_y w
  · by_cases hz0 : what = 0
    rotate_left
    · rw [Ord.chk_form hr (by simp [Ord.form, hz0])]; exact chk3_bad_what b who x y what h_b h_who h_x h_y h_what hz0 w
    subst hz0
    rw [Ord.chk_good hr (by simp [Ord.form])]; exact chk3_ok b who x y h_b h_who h_x h_y w
  · by_cases hz0 : x = 0
    rotate_left
    · rw [Ord.chk_form hr (by simp [Ord.form, hz0])]; exact chk4_bad_x b who x y what h_b h_who h_x h_y h_what hz0 w
    subst hz0
    by_cases hz1 : y = 0
    rotate_left
    · rw [Ord.chk_form hr (by simp [Ord.form, hz1])]; exact chk4_bad_y b who y what h_b h_who h_y h_what hz1 w
    subst hz1
    by_cases hz2 : what = 0
    rotate_left
    · rw [Ord.chk_form hr (by simp [Ord.form, hz2])]; exact chk4_bad_what b who what h_b h_who h_what hz2 w
    subst hz2
    rw [Ord.chk_good hr (by simp [Ord.form])]; exact chk4_ok b who h_b h_who w
  · by_cases hz0 : who = 0
    rotate_left
    · rw [Ord.chk_form hr (by simp [Ord.form, hz0])]; exact chk5_bad_who b who x y what h_b h_who h_x h_y h_what hz0 w
    subst hz0
    by_cases hz1 : x = 0
    rotate_left
    · rw [Ord.chk_form hr (by simp [Ord.form, hz1])]; exact chk5_bad_x b x y what h_b h_x h_y h_what hz1 w
    subst hz1
    by_cases hz2 : y = 0
    rotate_left
    · rw [Ord.chk_form hr (by simp [Ord.form, hz2])]; exact chk5_bad_y b y what h_b h_y h_what hz2 w
    subst hz2
    rw [Ord.chk_good hr (by simp [Ord.form])]; exact chk5_ok b what h_b h_what w
end Go.Proofs.Ytmooknaljkeaaaa
