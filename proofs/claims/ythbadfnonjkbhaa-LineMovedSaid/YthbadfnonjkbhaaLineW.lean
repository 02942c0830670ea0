/-
  The walks of line.near, line.sign, line.Apart and line.Cells.
-/
import Derived.Test.YthbadfnonjkbhaaProg
import Derived.Test.YthbadfnonjkbhaaBase
import Derived.Test.YthbadfnonjkbhaaLineM
import Derived.Laws.AppendOwn
set_option linter.unusedVariables false
namespace Go.Proofs.Ythbadfnonjkbhaa.Line
open Go.RowKit Go.Proofs.Ythbadfnonjkbhaa

def Near (x y : Int) : Prop := (-1000 ≤ x ∧ x ≤ 1000) ∧ (-1000 ≤ y ∧ y ≤ 1000)
instance (x y : Int) : Decidable (Near x y) := by unfold Near; infer_instance
theorem ret_bool {a b : Bool} (h : a = b) : Ending.returned (.bool a) = .returned (.bool b) := by rw [h]

theorem run_max_int4 {P : Program} (ts : Array TypeId) (t : TypeId) (x y z u : Int) (w : World) :
    ∃ m : Int, (Builtin.max_ ts t #[.int .i64 x, .int .i64 y, .int .i64 z, .int .i64 u]).run P w = .ok (.int .i64 m) w ∧ (x ≤ m ∧ y ≤ m ∧ z ≤ m ∧ u ≤ m) ∧ (m = x ∨ m = y ∨ m = z ∨ m = u) := by
  refine ⟨if (if (if x < y then y else x) < z then z else (if x < y then y else x)) < u then u else (if (if x < y then y else x) < z then z else (if x < y then y else x)), ?_, ?_, ?_⟩
  · simp [Builtin.max_, Builtin.max2]
  · split <;> split <;> split <;> omega
  · split <;> split <;> split <;> omega
set_option maxRecDepth 100000 in
theorem near_any (x y : Int) (hx : -9223372036854775808 ≤ x ∧ x ≤ 9223372036854775807) (hy : -9223372036854775808 ≤ y ∧ y ≤ 9223372036854775807) (w : World) :
    Calls Try.prog 42 #[.agg #[.int .i64 x, .int .i64 y]] w fun e w' => e = .returned (.bool (decide (Near x y))) ∧ Below w.heap.size w w' := by
  obtain ⟨B, HB⟩ : ∃ B, Hid (decide (Near x y) = B) := ⟨_, Lib.hid rfl⟩
  rw [HB.out]
  go_enter Try.func42, Try.ntmps42
  go_wp2
  obtain ⟨m, hm, h1, h2⟩ := run_max_int4 (P := Try.prog) #[3, 3, 3, 3] 3 x (wrap64 (-x)) y (wrap64 (-y)) (w.alloc (.cells #[.int .i64 x, .int .i64 y] 23))
  have hm' := Lib.hid hm
  have hb : Below w.heap.size w (w.alloc (.cells #[.int .i64 x, .int .i64 y] 23)) := (Below.refl w.heap.size w).alloc (Nat.le_refl _) _
  have h3 : wrap64 (-x) = if x = -9223372036854775808 then x else -x := by unfold wrap64; split <;> omega
  have h4 : wrap64 (-y) = if y = -9223372036854775808 then y else -y := by unfold wrap64; split <;> omega
  by_cases hN : Near x y
  · have hM : m ≤ 1000 := by unfold Near at hN; rw [h3, h4] at h2; split at h2 <;> split at h2 <;> omega
    clear h1 h2 h3 h4
    have hd1 : -1000 ≤ x ∧ -1000 ≤ y := by unfold Near at hN; omega
    obtain rfl : B = true := by rw [← HB.out]; exact decide_eq_true hN
    rw [hm'.out]
    clear hN hm
    go_wp2
    all_goals go_ret
    all_goals exact ⟨by first | rfl | exact ret_bool (decide_eq_true (by omega)), hb⟩
  · have hM : m ≤ 1000 → x < -1000 ∨ y < -1000 := by
      intro hM; unfold Near at hN; rw [h3, h4] at h1; split at h1 <;> split at h1 <;> omega
    obtain rfl : B = false := by rw [← HB.out]; exact decide_eq_false hN
    clear h1 h2 h3 h4
    rw [hm'.out]
    clear hN hm
    by_cases hm1 : m ≤ 1000
    · have h6 := hM hm1
      go_wp2
      all_goals go_ret
      all_goals exact ⟨by first | rfl | exact ret_bool (decide_eq_false (by omega)), hb⟩
    · go_wp2
      go_ret
      exact ⟨rfl, hb⟩
theorem sign_any (n : Int) (hn : -2000 ≤ n ∧ n ≤ 2000) (w : World) :
    Calls Try.prog 43 #[.int .i64 n] w fun e w' => e = .returned (.tuple #[.int .i64 n.sign, .int .i64 (n.natAbs : Int)]) ∧ w = w' := by
  have h1 : n < 0 → n.sign = -1 ∧ (n.natAbs : Int) = -n := fun h => ⟨Int.sign_eq_neg_one_of_neg h, by omega⟩
  have h2 : 0 < n → n.sign = 1 ∧ (n.natAbs : Int) = n := fun h => ⟨Int.sign_eq_one_of_pos h, by omega⟩
  have h3 : n = 0 → n.sign = 0 ∧ (n.natAbs : Int) = 0 := fun h => by subst h; exact ⟨rfl, rfl⟩
  by_cases hp : 0 < n
  · rw [(h2 hp).1, (h2 hp).2]
    clear h1 h2 h3
    go_enter Try.func43, Try.ntmps43
    go_wp2
    go_ret2
    exact ⟨rfl, rfl⟩
  · by_cases hz : n = 0
    · rw [(h3 hz).1, (h3 hz).2]
      subst hz
      clear h1 h2 h3
      go_enter Try.func43, Try.ntmps43
      go_wp2
      go_ret2
      exact ⟨rfl, rfl⟩
    · have hneg : n < 0 := by omega
      rw [(h1 hneg).1, (h1 hneg).2]
      clear h1 h2 h3
      go_enter Try.func43, Try.ntmps43
      go_wp2
      go_ret2
      exact ⟨rfl, rfl⟩

def dX (a c : Int) : Nat := (c - a).natAbs
theorem long_max (m n : Nat) : (if (m : Int) < (n : Int) then (n : Int) else (m : Int)) = (long m n : Int) := by unfold long; split <;> split <;> omega
/-- Two cells in two blocks of their own. -/
structure Two (w w1 : World) (a b c d : Int) : Prop where
  one : Blk w1 w.heap.size [.int .i64 a, .int .i64 b] 23 (0, 0)
  two : Blk w1 (w.heap.size + 1) [.int .i64 c, .int .i64 d] 23 (0, 0)
  below : Below w.heap.size w w1
theorem Two.new (w : World) (a b c d : Int) : Two w ((w.alloc (.cells #[.int .i64 a, .int .i64 b] 23)).alloc (.cells #[.int .i64 c, .int .i64 d] 23)) a b c d := by
  have h1 := Blk.new w [.int .i64 a, .int .i64 b] 23 (0, 0)
  have hb : Below w.heap.size w (w.alloc (.cells #[.int .i64 a, .int .i64 b] 23)) := (Below.refl w.heap.size w).alloc (Nat.le_refl _) _
  have h2 := Blk.new (w.alloc (.cells #[.int .i64 a, .int .i64 b] 23)) [.int .i64 c, .int .i64 d] 23 (0, 0)
  have hb2 := hb.alloc hb.size (.cells #[.int .i64 c, .int .i64 d] 23)
  refine ⟨h1.later ((Below.refl _ _).alloc (Nat.le_refl _) _), by simpa using h2, hb2⟩
theorem Two.later {w w1 w2 : World} {a b c d : Int} (h : Two w w1 a b c d) (hb : Below w1.heap.size w1 w2) : Two w w2 a b c d :=
  ⟨h.one.later hb, h.two.later hb, h.below.trans (hb.mono h.below.size)⟩
theorem Two.cells {w w1 : World} {a b c d : Int} (h : Two w w1 a b c d) :
    w1.cell? ⟨w.heap.size, 0, none⟩ = some (.int .i64 a) ∧ w1.cell? ⟨w.heap.size, 1, none⟩ = some (.int .i64 b) ∧ w1.cell? ⟨w.heap.size + 1, 0, none⟩ = some (.int .i64 c) ∧ w1.cell? ⟨w.heap.size + 1, 1, none⟩ = some (.int .i64 d) :=
  ⟨h.one.cell 0, h.one.cell 1, h.two.cell 0, h.two.cell 1⟩
/-- What Apart tells of near cells. -/
theorem apart_any (a b c d : Int) (h1 : Near a b) (h2 : Near c d) (w : World) :
    Calls Try.prog 22 #[.agg #[.int .i64 a, .int .i64 b], .agg #[.int .i64 c, .int .i64 d]] w fun e w' =>
      e = .returned (.tuple #[.int .i64 (long (dX a c) (dX b d) : Int), .int .i64 ((dX a c : Int) + (dX b d : Int)), .int .i64 0]) ∧ Below w.heap.size w w' := by
  have t1 : decide (Near a b) = true := decide_eq_true h1
  have t2 : decide (Near c d) = true := decide_eq_true h2
  unfold Near at h1 h2
  obtain ⟨⟨a1, a2⟩, b1, b2⟩ := h1
  obtain ⟨⟨c1, c2⟩, d1, d2⟩ := h2
  have T1 := Lib.hid t1
  have T2 := Lib.hid t2
  have hm1 : dX a c ≤ 2000 := by unfold dX; omega
  have hm2 : dX b d ≤ 2000 := by unfold dX; omega
  clear t1 t2
  go_enter Try.func22, Try.ntmps22
  go_wp2_with fail
  refine (near_any a b (by omega) (by omega) _).mono ?_
  rintro e w1 ⟨rfl, hb⟩
  have hT := (Two.new w a b c d).later hb
  obtain ⟨k1, k2, k3, k4⟩ := hT.cells
  rw [T1.out]
  clear hb
  go_wp2_with fail
  refine (near_any c d (by omega) (by omega) _).mono ?_
  rintro e w2 ⟨rfl, hb⟩
  replace hT := hT.later hb
  clear k1 k2 k3 k4 hb
  obtain ⟨k1, k2, k3, k4⟩ := hT.cells
  rw [T2.out]
  go_wp2_with fail
  refine (sign_any _ (by omega) _).mono ?_
  rintro e w' ⟨rfl, rfl⟩
  rw [show (c - a).natAbs = dX a c from rfl]
  go_wp2_with fail
  refine (sign_any _ (by omega) _).mono ?_
  rintro e w' ⟨rfl, rfl⟩
  rw [show (d - b).natAbs = dX b d from rfl]
  go_wp2_with fail
  all_goals go_ret3
  all_goals refine ⟨?_, hT.below⟩
  · rw [show long (dX a c) (dX b d) = dX b d from if_pos (by assumption)]; rfl
  · rw [show long (dX a c) (dX b d) = dX a c from if_neg (by omega)]; rfl
theorem apart_bad (a b c d : Int) (ha : -9223372036854775808 ≤ a ∧ a ≤ 9223372036854775807) (hb : -9223372036854775808 ≤ b ∧ b ≤ 9223372036854775807) (hc : -9223372036854775808 ≤ c ∧ c ≤ 9223372036854775807) (hd : -9223372036854775808 ≤ d ∧ d ≤ 9223372036854775807)
    (h : ¬ (Near a b ∧ Near c d)) (w : World) :
    Calls Try.prog 22 #[.agg #[.int .i64 a, .int .i64 b], .agg #[.int .i64 c, .int .i64 d]] w fun e w' =>
      e = .returned (.tuple #[.int .i64 0, .int .i64 0, .int .i64 1]) ∧ Below w.heap.size w w' := by
  obtain ⟨A, HA⟩ : ∃ A, Hid (decide (Near a b) = A) := ⟨_, Lib.hid rfl⟩
  obtain ⟨B, HB⟩ : ∃ B, Hid (decide (Near c d) = B) := ⟨_, Lib.hid rfl⟩
  have hAB : A = true → B = false := fun h1 => by
    rw [← HA.out] at h1; rw [← HB.out]
    exact decide_eq_false fun h2 => h ⟨of_decide_eq_true h1, h2⟩
  clear h
  go_enter Try.func22, Try.ntmps22
  go_wp2_with fail
  refine (near_any a b (by omega) (by omega) _).mono ?_
  rintro e w1 ⟨rfl, hb1⟩
  have hT := (Two.new w a b c d).later hb1
  obtain ⟨k1, k2, k3, k4⟩ := hT.cells
  rw [HA.out]
  clear hb1
  cases A with
  | false =>
    go_wp2_with fail
    go_ret3
    exact ⟨rfl, hT.below⟩
  | true =>
    obtain rfl := hAB rfl
    go_wp2_with fail
    refine (near_any c d (by omega) (by omega) _).mono ?_
    rintro e w2 ⟨rfl, hb1⟩
    replace hT := hT.later hb1
    rw [HB.out]
    go_wp2_with fail
    go_ret3
    exact ⟨rfl, hT.below⟩

end Go.Proofs.Ythbadfnonjkbhaa.Line
