/-
  SeatLate as plain mathematics.
-/
import Derived.Test.YtmooknaljkeaaaaSeatW
import Derived.Test.YtmooknaljkeaaaaSeatU
set_option linter.unusedVariables false
namespace Go.Proofs.Ytmooknaljkeaaaa
open Go.RowKit

/-- Behind t turns in which nobody said anything. -/
structure Idle (l0 l : List Seat) (t : Nat) : Prop where
  len : l.length = l0.length
  chk : Seat.chk l = 0
  waits : ∀ j (hj : j < l.length), l[j].waits = []
  late : ∀ j (hj : j < l.length) (h0 : j < l0.length), l[j].gone = l0[j].gone ∧ l[j].late = if l0[j].gone then l0[j].late else min (l0[j].late + (t : Int)) 1000000
theorem idle_out {most : Nat} {l l' : List Seat} {out : List Ord} (hw : ∀ j (hj : j < l.length), l[j].waits = []) (h : Seat.Closed most l l' out) : out = [] ∧ ∀ j (hj : j < l'.length), l'[j].waits = [] := by
  have hl := h.kept.len
  have key : ∀ j (hj : j < l'.length), ofP j out = [] ∧ l'[j].waits = [] := by
    intro j hj
    have := h.kept.waits j hj (by omega)
    rw [hw j (by omega)] at this
    exact List.append_eq_nil_iff.1 this
  refine ⟨?_, fun j hj => (key j hj).2⟩
  cases out with
  | nil => rfl
  | cons x r =>
    obtain ⟨j, hj, hby⟩ := h.kept.told x (by simp)
    have := (key j (by omega)).1
    unfold ofP at this
    rw [List.filter_cons_of_pos (by simpa using hby)] at this
    cases this
theorem Idle.start {l0 : List Seat} (h : Seat.chk l0 = 0) : Idle l0 (l0.map fun s => ⟨[], s.late, s.gone⟩) 0 := by
  obtain ⟨g1, g8, _, glate, _, _⟩ := Seat.good h
  have hr := Seat.rights h
  refine ⟨by simp, ?_, fun j hj => by simp, fun j hj h0 => ?_⟩
  · refine Seat.chk_of (by simpa using g1) (by simpa using g8) (fun j hj => by simp) fun j hj => ?_
    have hj0 : j < l0.length := by simpa using hj
    have := hr j hj0
    unfold Seat.right at this ⊢
    simp only [List.getElem_map, Bool.and_eq_true, List.all_nil, and_true] at this ⊢
    refine ⟨this.1.1, ?_⟩
    cases hg : l0[j].gone with
    | false => rfl
    | true =>
      have h2 := this.1.2
      rw [hg] at h2
      simp only [Bool.not_true, Bool.false_or, Bool.and_eq_true] at h2
      simp [h2.1]
  · have := glate _ (List.getElem_mem h0)
    refine ⟨by simp, ?_⟩
    simp only [List.getElem_map]
    split
    · rfl
    · omega
theorem Idle.step {l0 l l' : List Seat} {t most : Nat} {out : List Ord} (h : Idle l0 l t) (hc : Seat.Closed most l l' out) : Idle l0 l' (t + 1) ∧ out = [] := by
  obtain ⟨ho, hw⟩ := idle_out h.waits hc
  have hl := hc.kept.len
  refine ⟨⟨by rw [hl]; exact h.len, closed_chk h.chk hc, hw, fun j hj h0 => ?_⟩, ho⟩
  obtain ⟨k1, k2⟩ := hc.kept.late j hj (by omega)
  obtain ⟨m1, m2⟩ := h.late j (by omega) h0
  refine ⟨k2.trans m1, ?_⟩
  rw [k1]
  unfold Seat.lateF
  rw [h.waits j (by omega)]
  simp only [List.isEmpty_nil, if_true]
  rw [m1]
  cases hg : l0[j].gone with
  | true => rw [hg] at m2; simpa using m2
  | false =>
    rw [hg] at m2
    simp only [Bool.false_eq_true, if_false] at m2 ⊢
    rw [m2]
    omega
end Go.Proofs.Ytmooknaljkeaaaa
