/-
  What a right world is, in plain mathematics.
-/
import Derived.Test.YticfnngppcmidaaWd
import Derived.Test.YticfnngppcmidaaIdx
set_option linter.unusedVariables false
namespace Go.Proofs.Yticfnngppcmidaa
open Go.RowKit

theorem Fld.ground_in {f : Fld} {c : Cel} (h : f.ground c = true) : f.isIn c = true := by
  unfold Fld.ground at h
  rw [Bool.and_eq_true] at h
  exact h.1
namespace Wd
theorem chk_field {W : Wd} (h : W.field.chk ≠ 0) : W.chk = W.field.chk := by unfold chk; rw [if_pos h]
theorem chk_large {W : Wd} (h : W.field.chk = 0) (h2 : 8 < W.bases.length ∨ 100 < W.troops.length) : W.chk = 2 := by unfold chk; rw [if_neg (by simpa using h), if_pos h2]
theorem chk_all {W : Wd} (h : W.field.chk = 0) (h2 : ¬ (8 < W.bases.length ∨ 100 < W.troops.length)) : W.chk = if W.players && W.minesOk && W.troopsOk then 0 else 4 := by unfold chk; rw [if_neg (by simpa using h), if_neg h2]
end Wd
theorem Wd.players_no {W : Wd} (h : ¬ W.stocks.length = W.bases.length) : W.players = false := by unfold Wd.players; rw [decide_eq_false h]; rfl
theorem Wd.players_bad {W : Wd} {k : Nat} (hk : k < W.bases.length) (h : W.okBase k = false) : W.players = false := by
  unfold Wd.players
  rw [Bool.and_eq_false_iff]; right
  rw [List.all_eq_false]
  exact ⟨k, List.mem_range.2 hk, by rw [h]; simp⟩
theorem Wd.players_ok {W : Wd} (h : W.stocks.length = W.bases.length) (ha : ∀ k, k < W.bases.length → W.okBase k = true) : W.players = true := by
  unfold Wd.players
  rw [decide_eq_true h, Bool.true_and, List.all_eq_true]
  exact fun k hk => ha k (List.mem_range.1 hk)
theorem Wd.mines_no {W : Wd} (h : ¬ W.mines.length = W.field.places.length) : W.minesOk = false := by unfold Wd.minesOk; rw [decide_eq_false h]; rfl
theorem Wd.mines_bad {W : Wd} {k : Nat} (hk : k < W.mines.length) (h : W.okMine k = false) : W.minesOk = false := by
  unfold Wd.minesOk
  rw [Bool.and_eq_false_iff]; right
  rw [List.all_eq_false]
  exact ⟨k, List.mem_range.2 hk, by rw [h]; simp⟩
theorem Wd.mines_ok {W : Wd} (h : W.mines.length = W.field.places.length) (ha : ∀ k, k < W.mines.length → W.okMine k = true) : W.minesOk = true := by
  unfold Wd.minesOk
  rw [decide_eq_true h, Bool.true_and, List.all_eq_true]
  exact fun k hk => ha k (List.mem_range.1 hk)
theorem Wd.troops_bad {W : Wd} {k : Nat} (hk : k < W.troops.length) (h : W.okTroop k = false) : W.troopsOk = false := by
  unfold Wd.troopsOk
  rw [Bool.and_eq_false_iff]; left
  rw [List.all_eq_false]
  exact ⟨k, List.mem_range.2 hk, by rw [h]; simp⟩
def isId (id : Int) (t : Trp) : Bool := t.id == id
def isAt (p : Cel) (t : Trp) : Bool := decide (t.spot = p)
def whichI (W : Wd) (p : Trp → Bool) : Int := if W.chk = 0 then max (idxI p W.troops) 0 else 0
def whichB (W : Wd) (p : Trp → Bool) : Bool := decide (W.chk = 0) && decide (0 ≤ idxI p W.troops)
theorem which_ok {W : Wd} (h : W.chk = 0) (p : Trp → Bool) : whichI W p = max (idxI p W.troops) 0 ∧ whichB W p = decide (0 ≤ idxI p W.troops) := by
  unfold whichI whichB
  rw [if_pos h, decide_eq_true h]
  exact ⟨rfl, rfl⟩
theorem which_bad {W : Wd} (h : ¬ W.chk = 0) (p : Trp → Bool) : whichI W p = 0 ∧ whichB W p = false := by
  unfold whichI whichB
  rw [if_neg h, decide_eq_false h]
  exact ⟨rfl, rfl⟩
def nearT (c : Cel) (r : Int) (t : Trp) : Bool := inB c.x (t.spot.x - r) (t.spot.x + r) && inB c.y (t.spot.y - r) (t.spot.y + r)
def nearIds (W : Wd) (c : Cel) (r : Int) : List Int := (W.troops.filter (nearT c r)).map (·.id)
def nearE (W : Wd) (r : Int) : Int := if W.chk ≠ 0 then W.chk else if inB r 0 12 then 0 else 1
theorem good_spots {W : Wd} (h : W.chk = 0) : W.field.chk = 0 ∧ W.bases.length ≤ 8 ∧ W.troops.length ≤ 100 ∧ W.players = true ∧ W.minesOk = true ∧ W.troopsOk = true := by
  by_cases h1 : W.field.chk = 0
  · by_cases h2 : 8 < W.bases.length ∨ 100 < W.troops.length
    · rw [Wd.chk_large h1 h2] at h; cases h
    · rw [Wd.chk_all h1 h2] at h
      split at h
      · rename_i h3
        rw [Bool.and_eq_true, Bool.and_eq_true] at h3
        exact ⟨h1, by omega, by omega, h3.1.1, h3.1.2, h3.2⟩
      · cases h
  · rw [Wd.chk_field h1] at h; exact absurd h h1
theorem good_troop {W : Wd} (h : W.chk = 0) {k : Nat} {t : Trp} (ht : W.troops[k]? = some t) : W.field.ground t.spot = true ∧ inB t.kind 1 2 = true ∧ inB t.owner 0 ((W.bases.length : Int) - 1) = true ∧ inB t.life 1 (Wd.lifeOf t.kind) = true ∧ inB t.load 0 (Wd.mostOf t.kind) = true ∧ (W.spots k).contains t.spot = false ∧ inB t.id (wrap64 (W.lastId k + 1)) (wrap64 (W.next - 1)) = true := by
  obtain ⟨h0, _, _, _, _, h6⟩ := good_spots h
  unfold Wd.troopsOk at h6
  rw [Bool.and_eq_true, List.all_eq_true] at h6
  have hk := (List.getElem?_eq_some_iff.1 ht).1
  have h7 := h6.1 k (List.mem_range.2 hk)
  unfold Wd.okTroop Wd.okOne at h7
  rw [List.getD_eq_getElem?_getD, ht] at h7
  simp only [Option.getD_some, Bool.and_eq_true, Bool.not_eq_true'] at h7
  obtain ⟨⟨⟨⟨⟨⟨a1, a2⟩, a3⟩, a4⟩, a5⟩, a6⟩, a7⟩ := h7
  exact ⟨a4, a1, a3, a5, a6, a7, a2⟩
end Go.Proofs.Yticfnngppcmidaa
