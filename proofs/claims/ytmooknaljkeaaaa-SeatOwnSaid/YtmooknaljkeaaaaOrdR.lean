/-
  The walks of mustref.Between, CellNear and OrderRight (of what is right).
-/
import Derived.Test.YtmooknaljkeaaaaOrdW
set_option linter.unusedVariables false
namespace Go.Proofs.Ytmooknaljkeaaaa
open Go.RowKit

theorem between_any (n lo hi : Int) (w : World) : Calls Try.prog 60 #[.int .i64 n, .int .i64 lo, .int .i64 hi] w fun e w' => e = .returned (.bool (inB n lo hi)) ∧ w = w' := by
  by_cases h1 : lo ≤ n
  · by_cases h2 : n ≤ hi
    · have e : inB n lo hi = true := by simp [inB, h1, h2]
      rw [e]; clear e
      go_enter Try.func60, Try.ntmps60
      go_wp2_with fail
      go_ret
      exact ⟨rfl, rfl⟩
    · have e : inB n lo hi = false := by simp [inB, h2]
      rw [e]; clear e
      go_enter Try.func60, Try.ntmps60
      go_wp2_with fail
      go_ret
      exact ⟨rfl, rfl⟩
  · have e : inB n lo hi = false := by simp [inB, h1]
    rw [e]; clear e
    go_enter Try.func60, Try.ntmps60
    go_wp2_with fail
    go_ret
    exact ⟨rfl, rfl⟩
theorem near_ok (x y : Int) (h4 : inB x (-1000) 1000 = true) (h5 : inB y (-1000) 1000 = true) (w : World) : Calls Try.prog 81 #[.agg #[.int .i64 x, .int .i64 y]] w fun e w' => e = .returned (.bool true) ∧ Below w.heap.size w w' := by
  have HB := below_alloc0 w (.cells #[.int .i64 x, .int .i64 y] 57)
  go_enter Try.func81, Try.ntmps81
  go_wp2_with (go_at_call 60; refine (between_any _ _ _ _).mono ?_; rintro e w' ⟨rfl, rfl⟩; simp only [h4, h5])
  go_ret
  exact ⟨rfl, HB⟩
theorem held6b {w0 W W' : World} {g : Nat} {cur : List Value} {t : TypeId} (h : Blk W g cur t (0, 0)) (hb : Below W.heap.size W W') : Blk W' g cur t (0, 0) := h.later hb
set_option maxRecDepth 100000 in
set_option maxHeartbeats 1000000 in
theorem right1_ok (b who what : Int) (h_b : inB b 0 7 = true) (h_who : inB who 0 1000000 = true) (h_what : inB what 0 1000000 = true) (w : World) :
    Calls Try.prog 61 #[.agg #[.int .i64 b, .int .i64 1, .int .i64 who, .int .i64 0, .int .i64 0, .int .i64 what]] w fun e w' => e = .returned (.int .i64 0) ∧ Below w.heap.size w w' := by
  have h_k : inB 1 1 5 = true := by decide
  have h_x : inB 0 (-1000) 1000 = true := by decide
  have h_y : inB 0 (-1000) 1000 = true := by decide
  have HB := below_alloc0 w (.cells #[.int .i64 b, .int .i64 1, .int .i64 who, .int .i64 0, .int .i64 0, .int .i64 what] 59)
  have hA := Blk.new w [.int .i64 b, .int .i64 1, .int .i64 who, .int .i64 0, .int .i64 0, .int .i64 what] 59 (0, 0)
  go_enter Try.func61, Try.ntmps61
  go_wp2_with (first | (go_at_call 60; refine (between_any _ _ _ _).mono ?_; rintro e w' ⟨rfl, rfl⟩; simp only [h_b, h_k, h_who, h_what]) | (go_at_call 81; refine (near_ok _ _ h_x h_y _).mono ?_; rintro e w2 ⟨rfl, hb2⟩; have hA2 := hA.later hb2; have c1 : w2.cell? ⟨w.heap.size, 1, none⟩ = _ := hA2.cell 1; have c2 : w2.cell? ⟨w.heap.size, 2, none⟩ = _ := hA2.cell 2; have c3 : w2.cell? ⟨w.heap.size, 3, none⟩ = _ := hA2.cell 3; have c4 : w2.cell? ⟨w.heap.size, 4, none⟩ = _ := hA2.cell 4; have c5 : w2.cell? ⟨w.heap.size, 5, none⟩ = _ := hA2.cell 5; have hb9 := HB.trans (hb2.mono HB.size); simp only [List.getElem?_cons_zero, List.getElem?_cons_succ] at c1 c2 c3 c4 c5; clear hA2 hb2))
  go_ret
  exact ⟨rfl, hb9⟩
set_option maxRecDepth 100000 in
set_option maxHeartbeats 1000000 in
theorem right2_ok (b who x y : Int) (h_b : inB b 0 7 = true) (h_who : inB who 0 1000000 = true) (h_x : inB x (-1000) 1000 = true) (h_y : inB y (-1000) 1000 = true) (w : World) :
    Calls Try.prog 61 #[.agg #[.int .i64 b, .int .i64 2, .int .i64 who, .int .i64 x, .int .i64 y, .int .i64 0]] w fun e w' => e = .returned (.int .i64 0) ∧ Below w.heap.size w w' := by
  have h_k : inB 2 1 5 = true := by decide
  have h_what : inB 0 0 1000000 = true := by decide
  have HB := below_alloc0 w (.cells #[.int .i64 b, .int .i64 2, .int .i64 who, .int .i64 x, .int .i64 y, .int .i64 0] 59)
  have hA := Blk.new w [.int .i64 b, .int .i64 2, .int .i64 who, .int .i64 x, .int .i64 y, .int .i64 0] 59 (0, 0)
  go_enter Try.func61, Try.ntmps61
  go_wp2_with (first | (go_at_call 60; refine (between_any _ _ _ _).mono ?_; rintro e w' ⟨rfl, rfl⟩; simp only [h_b, h_k, h_who, h_what]) | (go_at_call 81; refine (near_ok _ _ h_x h_y _).mono ?_; rintro e w2 ⟨rfl, hb2⟩; have hA2 := hA.later hb2; have c1 : w2.cell? ⟨w.heap.size, 1, none⟩ = _ := hA2.cell 1; have c2 : w2.cell? ⟨w.heap.size, 2, none⟩ = _ := hA2.cell 2; have c3 : w2.cell? ⟨w.heap.size, 3, none⟩ = _ := hA2.cell 3; have c4 : w2.cell? ⟨w.heap.size, 4, none⟩ = _ := hA2.cell 4; have c5 : w2.cell? ⟨w.heap.size, 5, none⟩ = _ := hA2.cell 5; have hb9 := HB.trans (hb2.mono HB.size); simp only [List.getElem?_cons_zero, List.getElem?_cons_succ] at c1 c2 c3 c4 c5; clear hA2 hb2))
  go_ret
  exact ⟨rfl, hb9⟩
set_option maxRecDepth 100000 in
set_option maxHeartbeats 1000000 in
theorem right3_ok (b who x y : Int) (h_b : inB b 0 7 = true) (h_who : inB who 0 1000000 = true) (h_x : inB x (-1000) 1000 = true) (h_y : inB y (-1000) 1000 = true) (w : World) :
    Calls Try.prog 61 #[.agg #[.int .i64 b, .int .i64 3, .int .i64 who, .int .i64 x, .int .i64 y, .int .i64 0]] w fun e w' => e = .returned (.int .i64 0) ∧ Below w.heap.size w w' := by
  have h_k : inB 3 1 5 = true := by decide
  have h_what : inB 0 0 1000000 = true := by decide
  have HB := below_alloc0 w (.cells #[.int .i64 b, .int .i64 3, .int .i64 who, .int .i64 x, .int .i64 y, .int .i64 0] 59)
  have hA := Blk.new w [.int .i64 b, .int .i64 3, .int .i64 who, .int .i64 x, .int .i64 y, .int .i64 0] 59 (0, 0)
  go_enter Try.func61, Try.ntmps61
  go_wp2_with (first | (go_at_call 60; refine (between_any _ _ _ _).mono ?_; rintro e w' ⟨rfl, rfl⟩; simp only [h_b, h_k, h_who, h_what]) | (go_at_call 81; refine (near_ok _ _ h_x h_y _).mono ?_; rintro e w2 ⟨rfl, hb2⟩; have hA2 := hA.later hb2; have c1 : w2.cell? ⟨w.heap.size, 1, none⟩ = _ := hA2.cell 1; have c2 : w2.cell? ⟨w.heap.size, 2, none⟩ = _ := hA2.cell 2; have c3 : w2.cell? ⟨w.heap.size, 3, none⟩ = _ := hA2.cell 3; have c4 : w2.cell? ⟨w.heap.size, 4, none⟩ = _ := hA2.cell 4; have c5 : w2.cell? ⟨w.heap.size, 5, none⟩ = _ := hA2.cell 5; have hb9 := HB.trans (hb2.mono HB.size); simp only [List.getElem?_cons_zero, List.getElem?_cons_succ] at c1 c2 c3 c4 c5; clear hA2 hb2))
  go_ret
  exact ⟨rfl, hb9⟩
set_option maxRecDepth 100000 in
set_option maxHeartbeats 1000000 in
theorem right4_ok (b who : Int) (h_b : inB b 0 7 = true) (h_who : inB who 0 1000000 = true) (w : World) :
    Calls Try.prog 61 #[.agg #[.int .i64 b, .int .i64 4, .int .i64 who, .int .i64 0, .int .i64 0, .int .i64 0]] w fun e w' => e = .returned (.int .i64 0) ∧ Below w.heap.size w w' := by
  have h_k : inB 4 1 5 = true := by decide
  have h_x : inB 0 (-1000) 1000 = true := by decide
  have h_y : inB 0 (-1000) 1000 = true := by decide
  have h_what : inB 0 0 1000000 = true := by decide
  have HB := below_alloc0 w (.cells #[.int .i64 b, .int .i64 4, .int .i64 who, .int .i64 0, .int .i64 0, .int .i64 0] 59)
  have hA := Blk.new w [.int .i64 b, .int .i64 4, .int .i64 who, .int .i64 0, .int .i64 0, .int .i64 0] 59 (0, 0)
  go_enter Try.func61, Try.ntmps61
  go_wp2_with (first | (go_at_call 60; refine (between_any _ _ _ _).mono ?_; rintro e w' ⟨rfl, rfl⟩; simp only [h_b, h_k, h_who, h_what]) | (go_at_call 81; refine (near_ok _ _ h_x h_y _).mono ?_; rintro e w2 ⟨rfl, hb2⟩; have hA2 := hA.later hb2; have c1 : w2.cell? ⟨w.heap.size, 1, none⟩ = _ := hA2.cell 1; have c2 : w2.cell? ⟨w.heap.size, 2, none⟩ = _ := hA2.cell 2; have c3 : w2.cell? ⟨w.heap.size, 3, none⟩ = _ := hA2.cell 3; have c4 : w2.cell? ⟨w.heap.size, 4, none⟩ = _ := hA2.cell 4; have c5 : w2.cell? ⟨w.heap.size, 5, none⟩ = _ := hA2.cell 5; have hb9 := HB.trans (hb2.mono HB.size); simp only [List.getElem?_cons_zero, List.getElem?_cons_succ] at c1 c2 c3 c4 c5; clear hA2 hb2))
  go_ret
  exact ⟨rfl, hb9⟩
set_option maxRecDepth 100000 in
set_option maxHeartbeats 1000000 in
theorem right5_ok (b what : Int) (h_b : inB b 0 7 = true) (h_what : inB what 0 1000000 = true) (w : World) :
    Calls Try.prog 61 #[.agg #[.int .i64 b, .int .i64 5, .int .i64 0, .int .i64 0, .int .i64 0, .int .i64 what]] w fun e w' => e = .returned (.int .i64 0) ∧ Below w.heap.size w w' := by
  have h_k : inB 5 1 5 = true := by decide
  have h_who : inB 0 0 1000000 = true := by decide
  have h_x : inB 0 (-1000) 1000 = true := by decide
  have h_y : inB 0 (-1000) 1000 = true := by decide
  have HB := below_alloc0 w (.cells #[.int .i64 b, .int .i64 5, .int .i64 0, .int .i64 0, .int .i64 0, .int .i64 what] 59)
  have hA := Blk.new w [.int .i64 b, .int .i64 5, .int .i64 0, .int .i64 0, .int .i64 0, .int .i64 what] 59 (0, 0)
  go_enter Try.func61, Try.ntmps61
  go_wp2_with (first | (go_at_call 60; refine (between_any _ _ _ _).mono ?_; rintro e w' ⟨rfl, rfl⟩; simp only [h_b, h_k, h_who, h_what]) | (go_at_call 81; refine (near_ok _ _ h_x h_y _).mono ?_; rintro e w2 ⟨rfl, hb2⟩; have hA2 := hA.later hb2; have c1 : w2.cell? ⟨w.heap.size, 1, none⟩ = _ := hA2.cell 1; have c2 : w2.cell? ⟨w.heap.size, 2, none⟩ = _ := hA2.cell 2; have c3 : w2.cell? ⟨w.heap.size, 3, none⟩ = _ := hA2.cell 3; have c4 : w2.cell? ⟨w.heap.size, 4, none⟩ = _ := hA2.cell 4; have c5 : w2.cell? ⟨w.heap.size, 5, none⟩ = _ := hA2.cell 5; have hb9 := HB.trans (hb2.mono HB.size); simp only [List.getElem?_cons_zero, List.getElem?_cons_succ] at c1 c2 c3 c4 c5; clear hA2 hb2))
  go_ret
  exact ⟨rfl, hb9⟩
/-- mustref.OrderRight, of a right order. -/
theorem right_ok (o : Ord) (ho : o.ok = true) (w : World) : Calls Try.prog 61 #[.agg o.cells.toArray] w fun e w' => e = .returned (.int .i64 0) ∧ Below w.heap.size w w' := by
  rw [Ord.cells_eq]
  obtain ⟨b, k, who, x, y, what⟩ := o
  simp only [Ord.ok, Ord.range, Ord.form, Bool.and_eq_true] at ho
  obtain ⟨⟨⟨⟨⟨⟨h_b, h_k⟩, h_who⟩, h_x⟩, h_y⟩, h_what⟩, ⟨f1, f2⟩, f3⟩ := ho
  obtain ⟨hk1, hk5⟩ := inB_true h_k
  have hk : k = 1 ∨ k = 2 ∨ k = 3 ∨ k = 4 ∨ k = 5 := by omega
  rcases hk with rfl | rfl | rfl | rfl | rfl
  · simp at f2; obtain ⟨rfl, rfl⟩ := f2; exact right1_ok b who what h_b h_who h_what w
  · simp at f3; subst f3; exact right2_ok b who x y h_b h_who h_x h_y w
  · simp at f3; subst f3; exact right3_ok b who x y h_b h_who h_x h_y w
  · simp at f2 f3; obtain ⟨rfl, rfl⟩ := f2; subst f3; exact right4_ok b who h_b h_who w
  · simp at f1 f2; obtain ⟨rfl, rfl⟩ := f2; subst f1; exact right5_ok b what h_b h_what w
end Go.Proofs.Ytmooknaljkeaaaa
