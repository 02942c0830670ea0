/-
  Lines as plain mathematics: after i steps of the longer way a line has gone J steps of the shorter one.
-/
import Derived.WalkKit
namespace Go.Proofs.Ythbadfnonjkbhaa.Line

def J (s l i : Nat) : Nat := (2 * (i * s) + l) / (2 * l)
def off (s l i : Nat) : Int := 2 * ((i * s : Nat) : Int) - 2 * ((l * J s l i : Nat) : Int)
theorem J_spec (s l i : Nat) (hl : 0 < l) : 2 * (l * J s l i) ≤ 2 * (i * s) + l ∧ 2 * (i * s) + l < 2 * (l * J s l i) + 2 * l := by
  have h1 := Nat.div_add_mod (2 * (i * s) + l) (2 * l)
  have h2 := Nat.mod_lt (2 * (i * s) + l) (show 0 < 2 * l by omega)
  have h3 : 2 * l * ((2 * (i * s) + l) / (2 * l)) = 2 * (l * J s l i) := by unfold J; rw [Nat.mul_assoc]
  omega
theorem J_of {s l i j : Nat} (hl : 0 < l) (h1 : 2 * (l * j) ≤ 2 * (i * s) + l) (h2 : 2 * (i * s) + l < 2 * (l * j) + 2 * l) : J s l i = j := by
  obtain ⟨s1, s2⟩ := J_spec s l i hl
  generalize J s l i = m at *
  have a1 : m < j + 1 := Nat.lt_of_not_le fun h => by have := Nat.mul_le_mul_left l h; rw [Nat.mul_add] at this; omega
  have a2 : j < m + 1 := Nat.lt_of_not_le fun h => by have := Nat.mul_le_mul_left l h; rw [Nat.mul_add] at this; omega
  omega
theorem off_bd (s l i : Nat) (hl : 0 < l) : -(l : Int) ≤ off s l i ∧ off s l i < l := by
  have := J_spec s l i hl
  unfold off
  omega
theorem J_zero (s l : Nat) (hl : 0 < l) : J s l 0 = 0 := J_of hl (by omega) (by omega)
theorem off_zero (s l : Nat) (hl : 0 < l) : off s l 0 = 0 := by unfold off; rw [J_zero s l hl]; simp
theorem J_yes {s l i : Nat} (hl : 0 < l) (hs : s ≤ l) (h : (l : Int) ≤ off s l i + 2 * s) : J s l (i + 1) = J s l i + 1 ∧ off s l (i + 1) = off s l i + 2 * s - 2 * l := by
  have h0 := J_spec s l i hl
  have e1 : (i + 1) * s = i * s + s := Nat.succ_mul ..
  have e2 : l * (J s l i + 1) = l * J s l i + l := Nat.mul_succ ..
  have h1 : J s l (i + 1) = J s l i + 1 := J_of hl (by rw [e1, e2]; unfold off at h; omega) (by rw [e1, e2]; omega)
  refine ⟨h1, ?_⟩
  unfold off
  rw [h1, e1, e2]
  omega
theorem J_no {s l i : Nat} (hl : 0 < l) (h : ¬ (l : Int) ≤ off s l i + 2 * s) : J s l (i + 1) = J s l i ∧ off s l (i + 1) = off s l i + 2 * s := by
  have h0 := J_spec s l i hl
  have e1 : (i + 1) * s = i * s + s := Nat.succ_mul ..
  have h1 : J s l (i + 1) = J s l i := J_of hl (by rw [e1]; omega) (by rw [e1]; unfold off at h; omega)
  refine ⟨h1, ?_⟩
  unfold off
  rw [h1, e1]
  omega
theorem J_end (s l : Nat) (hl : 0 < l) : J s l l = s := J_of hl (by omega) (by omega)

def long (dx dy : Nat) : Nat := if dx < dy then dy else dx
def short (dx dy : Nat) : Nat := if dx < dy then dx else dy
/-- Where a line stands after i steps. -/
def X (dx dy : Nat) (a sx : Int) (i : Nat) : Int := a + sx * ((if dx < dy then J dx dy i else i : Nat) : Int)
def Y (dx dy : Nat) (b sy : Int) (i : Nat) : Int := b + sy * ((if dx < dy then i else J dy dx i : Nat) : Int)

/-- One step. -/
theorem step {dx dy i : Nat} {a sx b sy : Int} (hl : 0 < long dx dy) :
    ((long dx dy : Int) ≤ off (short dx dy) (long dx dy) i + 2 * (short dx dy : Int) → X dx dy a sx (i + 1) = X dx dy a sx i + sx ∧ Y dx dy b sy (i + 1) = Y dx dy b sy i + sy ∧ off (short dx dy) (long dx dy) (i + 1) = off (short dx dy) (long dx dy) i + 2 * (short dx dy : Int) - 2 * (long dx dy : Int)) ∧
    (¬ (long dx dy : Int) ≤ off (short dx dy) (long dx dy) i + 2 * (short dx dy : Int) → off (short dx dy) (long dx dy) (i + 1) = off (short dx dy) (long dx dy) i + 2 * (short dx dy : Int) ∧
      (dx < dy → X dx dy a sx (i + 1) = X dx dy a sx i ∧ Y dx dy b sy (i + 1) = Y dx dy b sy i + sy) ∧ (¬ dx < dy → X dx dy a sx (i + 1) = X dx dy a sx i + sx ∧ Y dx dy b sy (i + 1) = Y dx dy b sy i)) := by
  have hs : short dx dy ≤ long dx dy := by unfold short long; split <;> omega
  have e : ∀ (n : Nat) (x : Int), x * ((n + 1 : Nat) : Int) = x * (n : Int) + x := fun n x => by rw [Int.natCast_add, Int.mul_add]; simp
  constructor
  · intro h
    have := J_yes hl hs h
    refine ⟨?_, ?_, this.2⟩
    · unfold X; unfold short long at this; split
      · rename_i h1; rw [if_pos h1, if_pos h1] at this; rw [this.1, e]; omega
      · rw [e]; omega
    · unfold Y; unfold short long at this; split
      · rw [e]; omega
      · rename_i h1; rw [if_neg h1, if_neg h1] at this; rw [this.1, e]; omega
  · intro h
    have := J_no hl h
    refine ⟨this.2, fun h1 => ?_, fun h1 => ?_⟩
    · unfold X Y
      unfold short long at this
      rw [if_pos h1, if_pos h1] at this
      simp only [if_pos h1]
      rw [this.1, e]; omega
    · unfold X Y
      unfold short long at this
      rw [if_neg h1, if_neg h1] at this
      simp only [if_neg h1]
      rw [this.1, e]; omega
theorem X_zero (dx dy : Nat) (a sx : Int) : X dx dy a sx 0 = a := by
  unfold X; split
  · rw [J_zero _ _ (by omega)]; simp
  · simp
theorem Y_zero (dx dy : Nat) (b sy : Int) : Y dx dy b sy 0 = b := by
  unfold Y; split
  · simp
  · by_cases h : 0 < dx
    · rw [J_zero _ _ h]; simp
    · obtain rfl : dx = 0 := by omega
      simp [J]

/-- The cells of the first n points, one behind the other. -/
def pts (f g : Nat → Int) (n : Nat) : List Value := (List.range n).flatMap fun k => [.int .i64 (f k), .int .i64 (g k)]
theorem pts_succ (f g : Nat → Int) (n : Nat) : pts f g (n + 1) = pts f g n ++ [.int .i64 (f n), .int .i64 (g n)] := by
  unfold pts; rw [List.range_succ, List.flatMap_append]; simp
theorem pts_len (f g : Nat → Int) : ∀ n, (pts f g n).length = n * 2
  | 0 => rfl
  | n + 1 => by rw [pts_succ, List.length_append, pts_len f g n]; simp; omega
theorem pts_at (f g : Nat → Int) : ∀ n k, k < n → (pts f g n)[k * 2]? = some (.int .i64 (f k)) ∧ (pts f g n)[k * 2 + 1]? = some (.int .i64 (g k))
  | 0, k, h => by omega
  | n + 1, k, h => by
    rw [pts_succ]
    by_cases hk : k < n
    · rw [List.getElem?_append_left (by rw [pts_len]; omega), List.getElem?_append_left (by rw [pts_len]; omega)]
      exact pts_at f g n k hk
    · obtain rfl : k = n := by omega
      rw [List.getElem?_append_right (by rw [pts_len]; omega), List.getElem?_append_right (by rw [pts_len]; omega), pts_len]
      simp
end Go.Proofs.Ythbadfnonjkbhaa.Line
