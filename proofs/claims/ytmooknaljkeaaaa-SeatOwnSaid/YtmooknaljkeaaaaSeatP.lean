/-
  A turn is closed, as plain mathematics: what is told of each player, and how often.
-/
import Derived.Test.YtmooknaljkeaaaaSeatM
set_option linter.unusedVariables false
namespace Go.Proofs.Ytmooknaljkeaaaa

def ofP (j : Nat) (l : List Ord) : List Ord := l.filter fun o => o.by_ == (j : Int)
theorem ofP_app (j : Nat) (a b : List Ord) : ofP j (a ++ b) = ofP j a ++ ofP j b := by unfold ofP; rw [List.filter_append]
theorem ofP_one_self {j : Nat} {o : Ord} (h : o.by_ = (j : Int)) : ofP j [o] = [o] := by unfold ofP; simp [h]
theorem ofP_one_other {j : Nat} {o : Ord} (h : ¬ o.by_ = (j : Int)) : ofP j [o] = [] := by unfold ofP; simp [h]
namespace Seat
/-- Behind a turn, ahead of what is told. -/
def lateF (s : Seat) : Seat := if s.waits.isEmpty then (if s.gone then s else { s with late := min (s.late + 1) 1000000 }) else { s with late := 0 }
theorem lateF_waits (s : Seat) : (lateF s).waits = s.waits := by
  unfold lateF
  split
  · split <;> rfl
  · rfl
theorem lateF_gone (s : Seat) : (lateF s).gone = s.gone := by
  unfold lateF
  split
  · split <;> rfl
  · rfl
/-- What was told, and what still waits, are what waited. -/
structure Kept (l0 l : List Seat) (out : List Ord) : Prop where
  len : l.length = l0.length
  late : ∀ j (h : j < l.length) (h0 : j < l0.length), l[j].late = (lateF l0[j]).late ∧ l[j].gone = l0[j].gone
  waits : ∀ j (h : j < l.length) (h0 : j < l0.length), ofP j out ++ l[j].waits = l0[j].waits
  told : ∀ o ∈ out, ∃ j, j < l0.length ∧ o.by_ = ((j : Nat) : Int)
def ByAll (l0 : List Seat) : Prop := ∀ j (h : j < l0.length), ∀ o ∈ l0[j].waits, o.by_ = ((j : Nat) : Int)
theorem Kept.mem {l0 l : List Seat} {out : List Ord} (h : Kept l0 l out) (hb : ByAll l0) {j : Nat} (hj : j < l.length) {o : Ord} (ho : o ∈ l[j].waits) : o.by_ = (j : Int) := by
  have h0 : j < l0.length := by rw [← h.len]; exact hj
  refine hb j h0 o ?_
  rw [← h.waits j hj h0]
  exact List.mem_append_right _ ho
theorem Kept.tell {l0 l : List Seat} {out : List Ord} (h : Kept l0 l out) (hb : ByAll l0) {i : Nat} (hi : i < l.length) {o : Ord} {r : List Ord} (he : l[i].waits = o :: r) :
    Kept l0 (l.set i { l[i] with waits := r }) (out ++ [o]) := by
  have hby : o.by_ = (i : Int) := h.mem hb hi (by rw [he]; simp)
  refine ⟨by rw [List.length_set]; exact h.len, ?_, ?_, ?_⟩
  · intro j hj h0
    rw [List.length_set] at hj
    have := h.late j hj h0
    by_cases e : i = j
    · subst e; rw [List.getElem_set_self]; exact this
    · rw [List.getElem_set_ne e]; exact this
  · intro j hj h0
    rw [List.length_set] at hj
    have hw := h.waits j hj h0
    by_cases e : i = j
    · subst e
      rw [List.getElem_set_self, ofP_app, ofP_one_self hby, List.append_assoc, ← hw, he]; rfl
    · rw [List.getElem_set_ne e, ofP_app, ofP_one_other (by rw [hby]; omega), List.append_nil]; exact hw
  · intro x hx
    rcases List.mem_append.1 hx with hx | hx
    · exact h.told x hx
    · simp at hx; subst hx
      exact ⟨i, by rw [← h.len]; exact hi, hby⟩
def cnt (j : Nat) (out : List Ord) : Nat := (ofP j out).length
theorem cnt_self {j : Nat} {o : Ord} {out : List Ord} (h : o.by_ = (j : Int)) : cnt j (out ++ [o]) = cnt j out + 1 := by unfold cnt; rw [ofP_app, ofP_one_self h, List.length_append]; rfl
theorem cnt_other {j : Nat} {o : Ord} {out : List Ord} (h : ¬ o.by_ = (j : Int)) : cnt j (out ++ [o]) = cnt j out := by unfold cnt; rw [ofP_app, ofP_one_other h, List.append_nil]
def Fair (l : List Seat) (out : List Ord) (r : Nat) : Prop := ∀ j (h : j < l.length), cnt j out ≤ r + 1 ∧ (l[j].waits ≠ [] → r ≤ cnt j out)
def Going (l : List Seat) (out : List Ord) (r i : Nat) : Prop := ∀ j (h : j < l.length), if j < i then cnt j out ≤ r + 1 ∧ (l[j].waits ≠ [] → r + 1 ≤ cnt j out) else cnt j out ≤ r ∧ (l[j].waits ≠ [] → r ≤ cnt j out)
/-- In a round, at player i. -/
def Turn0 (most : Nat) (l : List Seat) (out : List Ord) (i : Nat) : Prop :=
  (out.length = most ∧ ∃ r, Fair l out r) ∨ (out.length < most ∧ ∃ r, Going l out r i)
theorem Turn0.start {most : Nat} {l : List Seat} (h : 1 ≤ most) : Turn0 most l [] 0 := .inr ⟨h, 0, fun j hj => by rw [if_neg (by omega)]; exact ⟨Nat.zero_le _, fun _ => Nat.zero_le _⟩⟩
theorem Turn0.again {most : Nat} {l : List Seat} {out : List Ord} {i : Nat} (h : Turn0 most l out i) (hi : l.length ≤ i) : Turn0 most l out 0 := by
  rcases h with h | ⟨h, r, hr⟩
  · exact .inl h
  · refine .inr ⟨h, r + 1, fun j hj => ?_⟩
    have := hr j hj
    rw [if_pos (by omega)] at this
    rw [if_neg (by omega)]
    exact this
theorem Turn0.skip {most : Nat} {l : List Seat} {out : List Ord} {i : Nat} (h : Turn0 most l out i) (hi : i < l.length) (hw : l[i].waits = [] ∨ most ≤ out.length) : Turn0 most l out (i + 1) := by
  rcases h with h | ⟨h, r, hr⟩
  · exact .inl h
  · refine .inr ⟨h, r, fun j hj => ?_⟩
    have hj2 := hr j hj
    by_cases e : j = i
    · subst e
      rw [if_neg (by omega)] at hj2
      rw [if_pos (by omega)]
      rcases hw with hw | hw
      · exact ⟨by omega, fun h => absurd hw h⟩
      · omega
    · by_cases hlt : j < i
      · rw [if_pos hlt] at hj2; rw [if_pos (by omega)]; exact hj2
      · rw [if_neg hlt] at hj2; rw [if_neg (by omega)]; exact hj2
theorem Turn0.tell {most : Nat} {l : List Seat} {out : List Ord} {i : Nat} (h : Turn0 most l out i) (hi : i < l.length) {o : Ord} {r : List Ord} (he : l[i].waits = o :: r) (hby : o.by_ = (i : Int)) (hlt : out.length < most) :
    Turn0 most (l.set i { l[i] with waits := r }) (out ++ [o]) (i + 1) := by
  rcases h with ⟨h, _⟩ | ⟨h, k, hr⟩
  · omega
  · have key : Going (l.set i { l[i] with waits := r }) (out ++ [o]) k (i + 1) := by
      intro j hj
      rw [List.length_set] at hj
      have hj2 := hr j hj
      by_cases e : j = i
      · subst e
        rw [if_neg (by omega)] at hj2
        have := hj2.2 (by rw [he]; simp)
        rw [if_pos (by omega), cnt_self hby]
        exact ⟨by omega, fun _ => by omega⟩
      · rw [cnt_other (by rw [hby]; omega), List.getElem_set_ne (by omega)]
        by_cases hji : j < i
        · rw [if_pos hji] at hj2; rw [if_pos (by omega)]; exact hj2
        · rw [if_neg hji] at hj2; rw [if_neg (by omega)]; exact hj2
    by_cases hfull : (out ++ [o]).length = most
    · refine .inl ⟨hfull, k, fun j hj => ?_⟩
      have := key j hj
      split at this
      · exact ⟨this.1, fun h => by have := this.2 h; omega⟩
      · exact ⟨by omega, this.2⟩
    · exact .inr ⟨by simp at hfull ⊢; omega, k, key⟩
theorem Turn0.le {most : Nat} {l : List Seat} {out : List Ord} {i : Nat} (h : Turn0 most l out i) : out.length ≤ most := by
  rcases h with ⟨h, _⟩ | ⟨h, _⟩ <;> omega
/-- What Close tells. -/
structure Closed (most : Nat) (l0 l : List Seat) (out : List Ord) : Prop where
  kept : Kept l0 l out
  le : out.length ≤ most
  fair : ∃ r, Fair l out r
  full : ∀ j (h : j < l.length), l[j].waits ≠ [] → out.length = most
  first : ∀ x, out.head? = some x → ∃ j, ∃ h : j < l0.length, (∀ k (hk : k < j), (l0[k]'(by omega)).waits = []) ∧ l0[j].waits.head? = some x
theorem Turn0.closed {most : Nat} {l0 l : List Seat} {out : List Ord} {i : Nat} (h : Turn0 most l out i) (hi : l.length ≤ i) (hk : Kept l0 l out) (hq : ∀ j (hj : j < l.length), l[j].waits = [] ∨ most ≤ out.length)
    (hf : ∀ x, out.head? = some x → ∃ j, ∃ h : j < l0.length, (∀ k (hk : k < j), (l0[k]'(by omega)).waits = []) ∧ l0[j].waits.head? = some x) : Closed most l0 l out := by
  refine ⟨hk, h.le, ?_, (fun j hj hw => ?_), hf⟩
  · rcases h with ⟨_, h⟩ | ⟨_, r, h⟩
    · exact h
    · refine ⟨r, fun j hj => ?_⟩
      have := h j hj
      split at this
      · exact ⟨this.1, fun h => by have := this.2 h; omega⟩
      · exact ⟨by omega, this.2⟩
  · rcases hq j hj with h1 | h1
    · exact absurd h1 hw
    · have := h.le; omega
/-- Who is told first. -/
structure First (l0 : List Seat) (out : List Ord) (i : Nat) : Prop where
  none : out = [] → ∀ k (hk : k < l0.length), k < i → l0[k].waits = []
  some : ∀ x, out.head? = some x → ∃ j, ∃ h : j < l0.length, (∀ k (hk : k < j), (l0[k]'(by omega)).waits = []) ∧ l0[j].waits.head? = some x
def Turn (l0 : List Seat) (most : Nat) (l : List Seat) (out : List Ord) (i : Nat) : Prop := Turn0 most l out i ∧ First l0 out i
theorem Turn.start {l0 : List Seat} {most : Nat} {l : List Seat} (h : 1 ≤ most) : Turn l0 most l [] 0 := ⟨Turn0.start h, (fun _ k _ hk => by omega), (fun x hx => by cases hx)⟩
theorem Turn.le {l0 : List Seat} {most : Nat} {l : List Seat} {out : List Ord} {i : Nat} (h : Turn l0 most l out i) : out.length ≤ most := h.1.le
theorem Turn.again {l0 : List Seat} {most : Nat} {l : List Seat} {out : List Ord} {i : Nat} (h : Turn l0 most l out i) (hi : l.length ≤ i) : Turn l0 most l out 0 := ⟨h.1.again hi, (fun _ k _ hk => by omega), h.2.some⟩
theorem Turn.skip {l0 : List Seat} {most : Nat} {l : List Seat} {out : List Ord} {i : Nat} (h : Turn l0 most l out i) (hi : i < l.length) (hw : l[i].waits = [] ∨ most ≤ out.length) (hk : Kept l0 l out) (h1 : 1 ≤ most) : Turn l0 most l out (i + 1) := by
  refine ⟨h.1.skip hi hw, fun ho k hk2 hlt => ?_, h.2.some⟩
  by_cases e : k = i
  · subst e
    subst ho
    rcases hw with hw | hw
    · have := hk.waits k hi hk2
      rw [hw] at this
      rw [← this]; rfl
    · simp at hw; omega
  · exact h.2.none ho k hk2 (by omega)
theorem Turn.tell {l0 : List Seat} {most : Nat} {l : List Seat} {out : List Ord} {i : Nat} (h : Turn l0 most l out i) (hi : i < l.length) {o : Ord} {r : List Ord} (he : l[i].waits = o :: r) (hby : o.by_ = (i : Int)) (hlt : out.length < most) (hk : Kept l0 l out) :
    Turn l0 most (l.set i { l[i] with waits := r }) (out ++ [o]) (i + 1) := by
  refine ⟨h.1.tell hi he hby hlt, (fun ho => by simp at ho), fun x hx => ?_⟩
  cases out with
  | nil =>
    simp at hx
    subst hx
    have h0 : i < l0.length := by rw [← hk.len]; exact hi
    refine ⟨i, h0, fun k hki => h.2.none rfl k (by omega) hki, ?_⟩
    have := hk.waits i hi h0
    rw [he] at this
    rw [← this]; rfl
  | cons a t => exact h.2.some x (by simpa using hx)
end Seat
end Go.Proofs.Ytmooknaljkeaaaa
