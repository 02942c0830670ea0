/-
  mustkeep.lineLives holds; Cells as its callers use it.
-/
import Derived.Test.YthbadfnonjkbhaaLineC
set_option linter.unusedVariables false
namespace Go.Proofs.Ythbadfnonjkbhaa.Line
open Go.RowKit Go.Proofs.Ythbadfnonjkbhaa

/-- A row of n points in world w at block g. -/
def Row (w : World) (g n : Nat) (f h : Nat → Int) : Prop := g < w.heap.size ∧ ∀ k, k < n → w.cell? ⟨g, k * 2, none⟩ = some (.int .i64 (f k)) ∧ w.cell? ⟨g, k * 2 + 1, none⟩ = some (.int .i64 (h k))
theorem Row.later {w w' : World} {g n : Nat} {f h : Nat → Int} (hr : Row w g n f h) (hb : Below w.heap.size w w') : Row w' g n f h :=
  ⟨Nat.lt_of_lt_of_le hr.1 hb.size, fun k hk => ⟨cell_below hb (hr.2 k hk).1 hr.1, cell_below hb (hr.2 k hk).2 hr.1⟩⟩
theorem cells_use (a b c d : Int) (h1 : Near a b) (h2 : Near c d) (w : World) :
    Calls Try.prog 14 #[.agg #[.int .i64 a, .int .i64 b], .agg #[.int .i64 c, .int .i64 d]] w fun e w' =>
      ∃ g cap, e = .returned (.tuple #[.slice (some ⟨g, 0, none⟩) (long (dX a c) (dX b d) + 1) cap, .int .i64 0]) ∧ Below w.heap.size w w' ∧
        Row w' g (long (dX a c) (dX b d) + 1) (X (dX a c) (dX b d) a (c - a).sign) (Y (dX a c) (dX b d) b (d - b).sign) := by
  refine (cells_any a b c d h1 h2 w).mono ?_
  rintro e w' ⟨v, rfl, hb, hown⟩
  have h := hown
  rcases h.2 with ⟨_, h⟩ | ⟨g, cap, cur, rfl, hg, hh, _⟩
  · omega
  · refine ⟨g, cap, rfl, hb, (Array.getElem?_eq_some_iff.1 hh).1, fun k hk => ?_⟩
    obtain ⟨p1, p2⟩ := pts_at (X (dX a c) (dX b d) a (c - a).sign) (Y (dX a c) (dX b d) b (d - b).sign) _ k hk
    exact ⟨by rw [hown.cellAt (k * 2) (by omega)]; exact p1, by rw [hown.cellAt (k * 2 + 1) (by omega)]; exact p2⟩

set_option maxRecDepth 100000 in
theorem lives_any (w : World) : Calls Try.prog 15 #[] w fun e w' => e = .returned (.bool true) ∧ Below w.heap.size w w' := by
  go_enter Try.func15, Try.ntmps15
  go_wp2_with fail
  refine (cells_use 0 0 2 1 (by decide) (by decide) _).mono ?_
  rintro e w' ⟨g, cap, rfl, hb, hg, hr⟩
  have e1 : long (dX 0 2) (dX 0 1) + 1 = 3 := by decide
  rw [e1] at hr ⊢
  have r0 := hr 0 (by decide)
  have r1 := hr 1 (by decide)
  have r2 := hr 2 (by decide)
  have v0 : X (dX 0 2) (dX 0 1) 0 (2 - 0 : Int).sign 0 = 0 ∧ Y (dX 0 2) (dX 0 1) 0 (1 - 0 : Int).sign 0 = 0 := by decide
  have v1 : X (dX 0 2) (dX 0 1) 0 (2 - 0 : Int).sign 1 = 1 ∧ Y (dX 0 2) (dX 0 1) 0 (1 - 0 : Int).sign 1 = 1 := by decide
  have v2 : X (dX 0 2) (dX 0 1) 0 (2 - 0 : Int).sign 2 = 2 ∧ Y (dX 0 2) (dX 0 1) 0 (1 - 0 : Int).sign 2 = 1 := by decide
  rw [v0.1, v0.2] at r0
  rw [v1.1, v1.2] at r1
  rw [v2.1, v2.2] at r2
  simp only [Nat.zero_mul, Nat.one_mul, Nat.zero_add, Nat.reduceMul, Nat.reduceAdd] at r0 r1 r2
  obtain ⟨r00, r01⟩ := r0
  obtain ⟨r10, r11⟩ := r1
  obtain ⟨r20, r21⟩ := r2
  clear v0 v1 v2 e1 hr
  go_wp2_with fail
  go_ret
  exact ⟨rfl, hb⟩
end Go.Proofs.Ythbadfnonjkbhaa.Line
