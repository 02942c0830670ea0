/-
  The walks of seat.Leave and of slices.Clone of seats.
-/
import Derived.Test.YtmooknaljkeaaaaSeatS
import Derived.Test.YtmooknaljkeaaaaSeatKeeps
set_option linter.unusedVariables false
namespace Go.Proofs.Ytmooknaljkeaaaa
open Go.RowKit

def goneSeat : Seat := ⟨[], 0, true⟩
def LeavePost (w : World) (n : Nat) (l : List Seat) (i : Nat) (e : Ending) (w' : World) : Prop :=
  ∃ A c hs, e = .returned (.tuple #[.slice A n c, .int .i64 0]) ∧ Mine w' w.heap.size (.slice A n c) n hs (l.set i goneSeat) ∧ Below w.heap.size w w'
/-- A whole seat is written. -/
theorem Mine.whole {w : World} {B g c n : Nat} {hs : List Seat.At} {l : List Seat} (h : Mine w B (.slice (some ⟨g, 0, none⟩) n c) n hs l) (i : Nat) (hi : i < l.length) (hih : i < hs.length) :
    Mine (((w.setCell ⟨g, i * 3, none⟩ (.slice none 0 0)).setCell ⟨g, i * 3 + 1, none⟩ (.int .i64 0)).setCell ⟨g, i * 3 + 2, none⟩ (.bool true)) B (.slice (some ⟨g, 0, none⟩) n c) n (hs.set i ⟨none, 0⟩) (l.set i goneSeat) := by
  have h1 := h.put i 0 hi hih (by decide) ⟨none, 0⟩ ⟨[], l[i].late, l[i].gone⟩ (.slice none 0 0) rfl ⟨rfl, Nat.le_refl _, by show 0 ≤ _; omega, by show 0 ≤ _; omega, (fun _ => ⟨rfl, rfl⟩), Rd.zero _ _ _⟩ (.inl rfl) (fun a ha => by cases ha)
  have h2 := h1.put i 1 (by rw [List.length_set]; exact hi) (by rw [List.length_set]; exact hih) (by decide) ⟨none, 0⟩ ⟨[], 0, l[i].gone⟩ (.int .i64 0) (by rw [List.getElem_set_self, List.getElem_set_self]; rfl) ⟨rfl, Nat.le_refl _, by show 0 ≤ _; omega, by show 0 ≤ _; omega, (fun _ => ⟨rfl, rfl⟩), Rd.zero _ _ _⟩ (.inl rfl) (fun a ha => by cases ha)
  have h3 := h2.put i 2 (by rw [List.length_set, List.length_set]; exact hi) (by rw [List.length_set, List.length_set]; exact hih) (by decide) ⟨none, 0⟩ goneSeat (.bool true) (by rw [List.getElem_set_self, List.getElem_set_self]; rfl) ⟨rfl, Nat.le_refl _, by show 0 ≤ _; omega, by show 0 ≤ _; omega, (fun _ => ⟨rfl, rfl⟩), Rd.zero _ _ _⟩ (.inl rfl) (fun a ha => by cases ha)
  rw [List.set_set, List.set_set, List.set_set, List.set_set] at h3
  exact h3
set_option maxRecDepth 100000 in
set_option maxHeartbeats 2000000 in
theorem leave_ok (A : Option Addr) (n c : Nat) (hs : List Seat.At) (l : List Seat) (w : World) (hl : Seats w A n c hs l) (h1 : Seat.chk l = 0) (i : Nat) (s : Seat) (hs0 : l[i]? = some s) (hg : s.gone = false) (hn8 : n ≤ 8) :
    Calls Try.prog 32 #[.slice A n c, .int .i64 (i : Int)] w (LeavePost w n l i) := by
  have hc := scheck_any A n c hs l w hl
  rw [h1] at hc
  have hown := fun W (hW : Seats W A n c hs l) => own_any A n c hs l W hW
  unfold OwnPost at hown
  have hin : i < n := by have := (List.getElem?_eq_some_iff.1 hs0).1; rw [← hl.len]; exact this
  obtain ⟨b, o, k, rfl, hk0, hor, q0, q1, q2⟩ := hl.get hs0
  rw [hg] at q2
  have hin1 : ¬ (i : Int) < 0 := by omega
  have hin' : ¬ (n : Int) ≤ (i : Int) := by omega
  have hin2 : (i : Int) < (n : Int) := by omega
  have hi0 : (0 : Int) ≤ (i : Int) := by omega
  have HL := Lib.hid hl
  have HS := Lib.hid hs0
  have hil : i < l.length := (List.getElem?_eq_some_iff.1 hs0).1
  clear hl h1 hs0 hk0 hor
  go_enter Try.func32, Try.ntmps32
  go_wp2_with fail
  refine hc.mono ?_
  rintro e w2 ⟨rfl, hb2⟩
  have q2 := cell_later hb2 q2
  clear hc q0 q1
  go_wp2_with fail
  refine (hown w2 (HL.out.later hb2)).mono ?_
  rintro e w4 ⟨A4, c4, hs4, rfl, hfresh, hb4⟩
  have hmine := hfresh.mine.down hb2.size
  have hbb := hb2.trans (hb4.mono hb2.size)
  obtain ⟨g, c4', e, hgc, hgm⟩ := hmine.row.addr (by omega)
  injection e with e1 _ e2
  subst e1; subst e2
  have hgl := hmine.row.row.lt g rfl
  have hih : i < hs4.length := by rw [hmine.hlen]; exact hin
  obtain ⟨r0, r1, r2, f0, f1⟩ := hmine.cells i hil hih
  have f2 := hmine.row.free (i * 3 + 2)
  have hw := Lib.hid (hmine.whole i hil hih)
  have hb5 := ((hbb.setCell (p := ⟨g, i * 3, none⟩) hgl.1 (.slice none 0 0)).setCell (p := ⟨g, i * 3 + 1, none⟩) hgl.1 (.int .i64 0)).setCell (p := ⟨g, i * 3 + 2, none⟩) hgl.1 (.bool true)
  clear hfresh hmine hown
  go_wp2_with fail
  go_ret2
  exact ⟨_, _, _, rfl, hw.out, hb5⟩
/-- slices.Clone of seats: the seats are new, their orders lie where they lay. -/
def CloneT (w : World) (n : Nat) (hs : List Seat.At) (l : List Seat) (e : Ending) (w' : World) : Prop :=
  ∃ A' c', e = .returned (.slice A' n c') ∧ Own w' w.heap.size 49 3 GS3 (.slice A' n c') n (Seat.row hs l) ∧ Below w.heap.size w w'
theorem row_one : ∀ (hs : List Seat.At) (l : List Seat), ∀ u ∈ Seat.row hs l, u.oneCell' = true
  | [], [], u, hu => by simp [Seat.row] at hu
  | [], _ :: _, u, hu => by simp [Seat.row] at hu
  | _ :: _, [], u, hu => by simp [Seat.row] at hu
  | h :: hs, s :: l, u, hu => by
    rw [Seat.row] at hu
    rcases List.mem_append.1 hu with hu | hu
    · exact cells_one h s u hu
    · exact row_one hs l u hu
set_option maxRecDepth 100000 in
theorem clone_t {w : World} {A : Option Addr} {n c : Nat} {hs : List Seat.At} {l : List Seat} (h : Seats w A n c hs l) (hn : 1 ≤ n) : Calls Try.prog 30 #[.slice A n c] w (CloneT w n hs l) := by
  obtain ⟨i0, hi, hz0, hz1, hz2⟩ := info_parts infoSeat
  have qnil : ∀ (w : World) (a : Option Addr) (n c n' c' : Nat), (binOp .eql 44 (.slice a n c) (.slice none n' c')).run Try.prog w = .ok (.bool a.isNone) w := fun w a n c n' c' => Lib.run_eql_slice_nil w _ _ a n c n' c' Try.underlying44
  obtain ⟨b, o, rfl, _⟩ := h.rd.2 (by omega)
  have hcap := h.cap
  have hb0 : Below w.heap.size w (w.alloc (.cells #[] 49)) := (Below.refl _ w).alloc (Nat.le_refl _) _
  have HR := Lib.hid (h.rd.later hb0)
  have HE := Lib.hid (Own.empty (e := 49) (size := 3) (G := GS3) w (Nat.le_refl w.heap.size))
  clear h
  go_enter Try.func30, Try.ntmps30
  go_wp2_with (at_builtin; refine wpList_append_all _ rfl _ _ 44 rfl w.heap.size 49 i0 seatZero 3 40 Try.underlying44 hi hz0 hz1 hz2 rfl (by decide) GS3 (fun _ _ _ => trivial) _ _ _ rfl HE.out (some ⟨b, o, none⟩) n c (Seat.row hs l) rfl HR.out (row_one hs l) (fun _ _ _ => trivial) ?qc4 ?qc5 ?qc6 ?_)
  case qc4 => unfold maxLen; omega
  case qc5 => omega
  case qc6 => simp
  intro v' w1 hown hgrow hnil hat
  have hb1 := hb0.grown hgrow (by simp) (by intro k hk; simp [Value.ownBlock] at hk; omega)
  obtain ⟨A1, c1, rfl, _⟩ := hown.shape
  have HO := Lib.hid hown
  clear hgrow hnil hat hown
  go_wp2_with fail
  go_ret
  exact ⟨A1, c1, rfl, HO.out, hb1⟩
end Go.Proofs.Ytmooknaljkeaaaa
