/-
  What comes of a play from a new link: in plain Lean.
-/
import Derived.Test.YtfabhinehfhndaaLnG
import Derived.Test.YtfabhinehfhndaaLnP
set_option linter.unusedVariables false
set_option linter.unusedSimpArgs false
namespace Go.Proofs.Ytfabhinehfhndaa
open Go.RowKit

/-- What has been given, behind an event. -/
def giveE (g : List ByteArray) (x : Evt) : List ByteArray := if x.kind = 1 ∧ g.length < 200 then g ++ [x.text] else g
theorem send_same (L : Lnk) : L.send.1.window = L.window ∧ L.send.1.sent = L.sent := by
  unfold Lnk.send; split <;> exact ⟨rfl, rfl⟩
theorem step_same {L : Lnk} {x : Evt} (h : GL L) (h2 : (L.step x).2 = 0) : (L.step x).1.window = L.window ∧ (L.step x).1.sent = giveE L.sent x := by
  have hs := h.s
  have ng : ¬ x.kind = 1 → giveE L.sent x = L.sent := fun e => by unfold giveE; rw [if_neg fun hh => e hh.1]
  unfold Lnk.step at h2 ⊢
  split
  · rename_i e; rw [if_pos e] at h2
    split
    · rename_i e2; rw [if_pos e2] at h2; simp at h2
    · rename_i e2
      refine ⟨rfl, ?_⟩
      unfold giveE; rw [if_pos ⟨e, by omega⟩]
  · rename_i e; rw [if_neg e] at h2
    rw [ng e]
    split
    · exact send_same L
    · rename_i e2; rw [if_neg e2] at h2
      split
      · rename_i e3; rw [if_pos e3] at h2
        split
        · rename_i e4; rw [if_pos e4] at h2; simp at h2
        · rename_i e4; rw [if_neg e4] at h2
          split
          · rename_i e5; rw [if_pos e5] at h2; simp at h2
          · rename_i e5
            have e4 : tkOk L.way x.at_ = true := by simpa using e4
            have hb := h.wa _ (tk_mem e4)
            have hkl := h.kl
            obtain ⟨g, g1, g2, g3, g4, g5, g6, g7⟩ := (h.way_ x.at_ x.keep).come (n := tkN L.way x.at_) hb.1 hb.2 (by dsimp only; omega)
            exact ⟨g5, g1⟩
      · rename_i e3; rw [if_neg e3] at h2
        repeat' split
        all_goals exact ⟨rfl, rfl⟩
theorem step_give {L : Lnk} {x : Evt} (h : GL L) (h2 : ¬ (L.step x).2 = 0) : giveE L.sent x = L.sent := by
  unfold giveE
  split
  · rename_i hh
    exfalso
    apply h2
    unfold Lnk.step
    rw [if_pos hh.1, if_neg (by omega)]
  · rfl
theorem doR_GL {L : Lnk} {x : Evt} (h : GL L) : GL (L.doR x).1 ∧ (L.doR x).1.window = L.window ∧ (L.doR x).1.sent = giveE L.sent x := by
  have hc := h.chk
  by_cases hs : (L.step x).2 = 0
  · rw [doR_ok hc hs]
    obtain ⟨a, b⟩ := step_same h hs
    exact ⟨(step_grows hc hs).1, a, b⟩
  · rw [doR_no hc hs]
    exact ⟨h, rfl, (step_give h hs).symm⟩
theorem GL.new {window : Int} (h : ¬ (window < 1 ∨ 16 < window)) : GL (Lnk.new window) := by
  refine ⟨by dsimp only [Lnk.new]; omega, by dsimp only [Lnk.new]; omega, by simp [Lnk.new], by simp [Lnk.new], by simp [Lnk.new], by simp [Lnk.new], by simp [Lnk.new], by simp [Lnk.new], by simp [Lnk.new], by simp [Lnk.new], by dsimp only [Lnk.new]; omega, by simp [Lnk.new], by simp [Lnk.new], by simp [Lnk.new], by simp [Lnk.new], by simp [Lnk.new]⟩
theorem play_GL (l : List Evt) : ∀ (L : Lnk) (E : List Int), GL L → GL (playF L E l).1 ∧ (playF L E l).1.window = L.window ∧ (playF L E l).1.sent = l.foldl giveE L.sent := by
  induction l with
  | nil => intro L E h; exact ⟨h, rfl, rfl⟩
  | cons x r ih =>
    intro L E h
    obtain ⟨a, b, c⟩ := doR_GL (x := x) h
    obtain ⟨d, e, f⟩ := ih (L.doR x).1 (E ++ [(L.doR x).2]) a
    exact ⟨d, by rw [playF, e, b], by rw [playF, f, c]; rfl⟩
end Go.Proofs.Ytfabhinehfhndaa
