/-
  order.Split as it is used. (Printed by bin/parts.py.)
-/
import Derived.Test.YtfabhinehfhndaaSpw
set_option linter.unusedVariables false
set_option linter.unusedSimpArgs false
namespace Go.Proofs.Ytfabhinehfhndaa
open Go.RowKit


def splE (W : Wd) (l : List Odr) : Int := if ordsE l ≠ 0 then ordsE l else W.chk
theorem splE_zero {W : Wd} {l : List Odr} (h : splE W l = 0) : ordsE l = 0 ∧ W.chk = 0 := by
  unfold splE at h; split at h
  · rename_i h1; exact absurd h h1
  · rename_i h1; exact ⟨by simpa using h1, h⟩
theorem splE_len {W : Wd} {l : List Odr} (h : splE W l = 0) : l.length ≤ 100 := (ordsE_zero (splE_zero h).1).1
theorem ordsE_mk {l : List Odr} (h : l.length ≤ 100) (hg : ∀ o ∈ l, o.chk = 0) : ordsE l = 0 := ordsE_ok h fun i hi => hg _ (mem_dd hi)
theorem spl_both {W : Wd} {l m : List Odr} (h1 : splE W l = 0) (h2 : splE W m = 0) (h : l.length + m.length ≤ 100) : splE W (l ++ m) = 0 := by
  obtain ⟨a1, a2⟩ := splE_zero h1
  obtain ⟨b1, b2⟩ := splE_zero h2
  have : ordsE (l ++ m) = 0 := ordsE_mk (by rw [List.length_append]; exact h) fun o ho => by
    rcases List.mem_append.1 ho with ho | ho
    · exact (ordsE_zero a1).2 o ho
    · exact (ordsE_zero b1).2 o ho
  unfold splE; rw [if_neg (by simpa using this)]; exact a2
theorem splB_app (W : Wd) (l m : List Odr) : splB W (l ++ m) (l ++ m).length = splB W l l.length ++ splB W m m.length := by
  unfold splB; rw [List.take_length, List.take_length, List.take_length, List.flatMap_append]
theorem splG_app (W : Wd) (l m : List Odr) : splG W (l ++ m) (l ++ m).length = splG W l l.length ++ splG W m m.length := by
  unfold splG; rw [List.take_length, List.take_length, List.take_length, List.flatMap_append]
theorem splD_app (W : Wd) (l m : List Odr) : splD W (l ++ m) (l ++ m).length = splD W l l.length ++ splD W m m.length := by
  unfold splD; rw [List.take_length, List.take_length, List.take_length, List.flatMap_append]
theorem split_bad (A : Option Addr) (c : Nat) (l : List Odr) (aw : Wd.At) (W : Wd) (w : World) (hl : Odr.rep.SHas 48 w A c l) (hW : Wd.Has w aw W) (h : splE W l ≠ 0) : Calls Try.prog 37 #[.slice A l.length c, .agg (Wd.cells aw W).toArray] w (fun e w' => e = .returned (.tuple #[.slice none 0 0, .slice none 0 0, .slice none 0 0, .int .i64 (splE W l)]) ∧ Ext w w') := by
  refine (split_any A c l aw W w hl hW).mono fun e w' he => ?_
  obtain ⟨A0, c0, A1, c1, A2, c2, (⟨h1, h2⟩ | ⟨h1, h2, h3⟩ | ⟨h1, h2, _⟩), hx⟩ := he
  · exact ⟨by rw [h2]; unfold splE; rw [if_pos h1], hx⟩
  · exact ⟨by rw [h3]; unfold splE; rw [if_neg (by simpa using h1)], hx⟩
  · exact absurd (by unfold splE; rw [if_neg (by simpa using h1)]; exact h2) h
theorem split_ok (A : Option Addr) (c : Nat) (l : List Odr) (aw : Wd.At) (W : Wd) (w : World) (hl : Odr.rep.SHas 48 w A c l) (hW : Wd.Has w aw W) (h : splE W l = 0) : Calls Try.prog 37 #[.slice A l.length c, .agg (Wd.cells aw W).toArray] w (fun e w' => ∃ A0 c0 A1 c1 A2 c2, e = .returned (.tuple #[.slice A0 (splB W l l.length).length c0, .slice A1 (splG W l l.length).length c1, .slice A2 (splD W l l.length).length c2, .int .i64 0]) ∧ Blw.rep.SOwn 95 16 w' w.heap.size (Rep.blkOf A0) A0 c0 (splB W l l.length) ∧ Gox.rep.SOwn 99 24 w' w.heap.size (Rep.blkOf A1) A1 c1 (splG W l l.length) ∧ Ded.rep.SOwn 103 40 w' w.heap.size (Rep.blkOf A2) A2 c2 (splD W l l.length) ∧ Ext w w') := by
  obtain ⟨a1, a2⟩ := splE_zero h
  refine (split_any A c l aw W w hl hW).mono fun e w' he => ?_
  obtain ⟨A0, c0, A1, c1, A2, c2, (⟨h1, h2⟩ | ⟨h1, h2, h3⟩ | ⟨h1, h2, h3, h4, h5, h6⟩), hx⟩ := he
  · exact absurd a1 h1
  · exact absurd a2 h2
  · exact ⟨A0, c0, A1, c1, A2, c2, h3, h4, h5, h6, hx⟩
end Go.Proofs.Ytfabhinehfhndaa
