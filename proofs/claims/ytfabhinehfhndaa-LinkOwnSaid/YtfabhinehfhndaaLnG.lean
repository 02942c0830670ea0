/-
  What a right link is, and that one event leaves it so: in plain Lean.
-/
import Derived.Test.YtfabhinehfhndaaLnO
set_option linter.unusedVariables false
set_option linter.unusedSimpArgs false
namespace Go.Proofs.Ytfabhinehfhndaa
open Go.RowKit

/-- A right link. -/
structure GL (L : Lnk) : Prop where
  w1 : 1 ≤ L.window
  w2 : L.window ≤ 16
  s : L.sent.length ≤ 200
  wl : L.way.length ≤ 1000
  kl : L.acks.length ≤ 1000
  gs : L.got.length ≤ L.sent.length
  ge : L.got = L.sent.take L.got.length
  b0 : 0 ≤ L.base
  bg : L.base ≤ (L.got.length : Int)
  hn : (L.got.length : Int) + (L.held.length : Int) ≤ L.next
  nb : L.next ≤ L.base + L.window
  ns : L.next ≤ (L.sent.length : Int)
  wa : ∀ y ∈ L.way, 0 ≤ y ∧ y ≤ L.next - 1
  ka : ∀ y ∈ L.acks, 0 ≤ y ∧ y ≤ (L.got.length : Int)
  ha : ∀ y ∈ L.held, (L.got.length : Int) + 1 ≤ y ∧ y ≤ L.next - 1
  inc : L.held.Pairwise (· < ·)
theorem pw_inc {l : List Int} : incB l = true ↔ l.Pairwise (· < ·) := by
  constructor
  · intro h
    have h := of_decide_eq_true h
    rw [List.pairwise_iff_getElem]
    intro i j hi hj hij
    have mono : ∀ d, i + 1 + d < l.length → l.getD i 0 < l.getD (i + 1 + d) 0 := by
      intro d
      induction d with
      | zero => intro hd; exact h i (by omega)
      | succ d ih => intro hd; have := h (i + 1 + d) (by omega); have := ih (by omega); rw [show i + 1 + (d + 1) = i + 1 + d + 1 by omega]; omega
    have := mono (j - (i + 1)) (by omega)
    rw [show i + 1 + (j - (i + 1)) = j by omega, getD_dd hi, getD_dd hj] at this
    exact this
  · intro h
    rw [List.pairwise_iff_getElem] at h
    refine decide_eq_true fun i hi => ?_
    rw [getD_dd (by omega), getD_dd (by omega)]
    exact h i (i + 1) (by omega) (by omega) (by omega)
theorem all_in {l : List Int} {lo hi : Int} : l.all (fun n => inB n lo hi) = true ↔ ∀ y ∈ l, lo ≤ y ∧ y ≤ hi := by
  rw [List.all_eq_true]
  exact ⟨fun h y hy => inB_true (h y hy), fun h y hy => inB_mk (h y hy).1 (h y hy).2⟩
theorem GL.of {L : Lnk} (h : L.chk = 0) : GL L := by
  obtain ⟨n1, n2, n3, n4, n5, n6, n7, n8, n9, n10, n11⟩ := Lnk.num h
  obtain ⟨_, _, h3⟩ := Lnk.chk_zero h
  obtain ⟨g1, g2, g3, g4, g5, g6, g7, g8, g9⟩ := Lnk.good_parts h3
  exact ⟨n1, n2, n6, n7, n8, n5, g2, n3, n4, n9, n10, n11, all_in.1 g6, all_in.1 g7, all_in.1 g8, pw_inc.1 g9⟩
section
variable {L : Lnk} {x : Evt} {n : Int}
end
section
variable {L : Lnk} {x : Evt} {n : Int}
end
end Go.Proofs.Ytfabhinehfhndaa
