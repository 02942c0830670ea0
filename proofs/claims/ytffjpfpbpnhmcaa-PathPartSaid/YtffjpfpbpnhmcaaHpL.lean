/-
  What the loops of container/heap do, round by round.
-/
import Derived.Test.YtffjpfpbpnhmcaaHp
import Derived.Test.YtffjpfpbpnhmcaaIfc
import Derived.Test.YtffjpfpbpnhmcaaGolC
set_option linter.unusedVariables false
set_option linter.unusedSimpArgs false
namespace Go.Proofs.Ytffjpfpbpnhmcaa
open Go.RowKit

namespace Hp
section
variable {α : Type} [Inhabited α] {key : α → Int} {lm l : List α} {m N n : Nat}
theorem up_exit (h : (((((m - 1) / 2 : Nat) : Int) == (m : Int)) || !decide (key (lm.getD m default) < key (lm.getD ((m - 1) / 2) default))) = true) : upF key lm m = lm := by
  unfold upF
  rw [if_neg]
  rintro ⟨h1, h2⟩
  simp only [Bool.or_eq_true, beq_iff_eq, Bool.not_eq_true', decide_eq_false_iff_not] at h
  rcases h with h | h
  · omega
  · exact h h2
theorem up_more (h : (((((m - 1) / 2 : Nat) : Int) == (m : Int)) || !decide (key (lm.getD m default) < key (lm.getD ((m - 1) / 2) default))) = false) : 0 < m ∧ upF key lm m = upF key (swp lm ((m - 1) / 2) m) ((m - 1) / 2) := by
  simp only [Bool.or_eq_false_iff, beq_eq_false_iff_ne, Bool.not_eq_false', decide_eq_true_eq] at h
  have hm : 0 < m := by
    rcases Nat.eq_zero_or_pos m with h0 | h0
    · subst h0; exact absurd rfl h.1
    · exact h0
  refine ⟨hm, ?_⟩
  conv => lhs; unfold upF
  rw [if_pos ⟨hm, h.2⟩]
theorem dn_exit (h : (decide ((N : Int) ≤ 2 * (m : Int) + 1) || decide (2 * (m : Int) + 1 < 0)) = true) : downF key N l m = l := by
  unfold downF
  rw [if_neg]
  simp only [Bool.or_eq_true, decide_eq_true_eq] at h
  omega
theorem dn_go (h : (decide ((N : Int) ≤ 2 * (m : Int) + 1) || decide (2 * (m : Int) + 1 < 0)) = false) : 2 * m + 1 < N := by
  simp only [Bool.or_eq_false_iff, decide_eq_false_iff_not] at h
  omega
theorem low_two (h : (decide (2 * (m : Int) + 1 + 1 < (N : Int)) && decide (key (l.getD (2 * m + 1 + 1) default) < key (l.getD (2 * m + 1) default))) = true) : lowC key N l m = 2 * m + 2 := by
  simp only [Bool.and_eq_true, decide_eq_true_eq] at h
  unfold lowC
  rw [if_pos ⟨by omega, h.2⟩]
theorem low_lt {q : Bool} (h : (decide (2 * (m : Int) + 1 + 1 < (N : Int)) && q) = true) : 2 * m + 2 < N := by
  simp only [Bool.and_eq_true, decide_eq_true_eq] at h
  omega
theorem low_one (h : (decide (2 * (m : Int) + 1 + 1 < (N : Int)) && decide (key (l.getD (2 * m + 1 + 1) default) < key (l.getD (2 * m + 1) default))) = false) : lowC key N l m = 2 * m + 1 := by
  unfold lowC
  rw [if_neg]
  rintro ⟨h1, h2⟩
  rw [decide_eq_true (show 2 * (m : Int) + 1 + 1 < (N : Int) by omega), decide_eq_true (show key (l.getD (2 * m + 1 + 1) default) < key (l.getD (2 * m + 1) default) from h2)] at h
  cases h
theorem dn_exit2 {j : Nat} (h1 : 2 * m + 1 < N) (hl : lowC key N l m = j) (h : (!decide (key (l.getD j default) < key (l.getD m default))) = true) : downF key N l m = l := by
  unfold downF
  rw [if_neg]
  rw [hl]
  rintro ⟨_, h2⟩
  rw [decide_eq_true h2] at h; cases h
theorem dn_more {j : Nat} (h1 : 2 * m + 1 < N) (hl : lowC key N l m = j) (h : (!decide (key (l.getD j default) < key (l.getD m default))) = false) : downF key N l m = downF key N (swp l m j) j := by
  conv => lhs; unfold downF
  rw [hl, if_pos ⟨h1, by simpa using h⟩]
end
end Hp
theorem tdiv_half (m : Nat) : Int.tdiv ((m : Int) - 1) 2 = (((m - 1) / 2 : Nat) : Int) := by
  cases m with
  | zero => rfl
  | succ m =>
    rw [show ((m + 1 : Nat) : Int) - 1 = (m : Int) by omega, Int.tdiv_eq_ediv_of_nonneg (by omega)]
    simp
section
variable {P : Program} {n : Nat} {E : List (Nat × Value)} {w : World} {ty : TypeId} {pos : String} {af : Array Edge} {x y : Operand} {t u : TypeId} {d : Option Nat} {g : Option (Nat × Bool)}
theorem bquH {k : IntKind} {i j r : Int} (hx : ev E x = some (.int k i)) (hy : ev E y = some (.int k j)) (h1 : j ≠ 0) (hr : Int.tdiv i j = r) (hw : k.wrap r = r) : Runs P E ⟨d, .binOp .quo t x y u, ty, pos, af, g⟩ w (.int k r) w := run_bin hx hy (binOp_quo t k i j) (by
  subst hr
  have : Op.intDiv .quo k i j = pure (.int k (Int.tdiv i j)) := by simp [Op.intDiv, h1, hw]
  rw [this]; rfl)
end
end Go.Proofs.Ytffjpfpbpnhmcaa
