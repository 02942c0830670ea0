/-
  Seats, as plain mathematics, and in memory.
-/
import Derived.Test.YtmooknaljkeaaaaOrdC
set_option linter.unusedVariables false
namespace Go.Proofs.Ytmooknaljkeaaaa
open Go.RowKit

/-- A seat: what waits, how often late in a row, gone? -/
structure Seat where
  waits : List Ord
  late : Int
  gone : Bool
namespace Seat
/-- A right seat of player i. -/
def right (i : Int) (s : Seat) : Bool := inB s.late 0 1000000 && (!s.gone || (s.late == 0 && s.waits.isEmpty)) && s.waits.all fun o => o.by_ == i && o.ok
def rightAll : Int → List Seat → Bool
  | _, [] => true
  | i, s :: r => s.right i && rightAll (i + 1) r
/-- What Check answers. -/
def chk (l : List Seat) : Int := if l.length < 1 ∨ 8 < l.length then 1 else if l.any (fun s => decide (50 < s.waits.length)) then 2 else if rightAll 0 l then 0 else 4
/-- Where a seat's orders lie. -/
structure At where
  A : Option Addr
  c : Nat
def cells (h : At) (s : Seat) : List Value := [.slice h.A s.waits.length h.c, .int .i64 s.late, .bool s.gone]
def row : List At → List Seat → List Value
  | h :: hs, s :: l => cells h s ++ row hs l
  | _, _ => []
theorem row_len : ∀ (hs : List At) (l : List Seat), hs.length = l.length → (row hs l).length = l.length * 3
  | [], [], _ => rfl
  | h :: hs, s :: l, e => by
    rw [row, List.length_append, row_len hs l (by simpa using e), List.length_cons]
    show 3 + _ = _
    omega
  | [], _ :: _, e => by simp at e
  | _ :: _, [], e => by simp at e
theorem row_get : ∀ (hs : List At) (l : List Seat) (e : hs.length = l.length) (i j : Nat) (hi : i < l.length) (hj : j < 3), (row hs l)[i * 3 + j]? = (cells (hs[i]'(by omega)) l[i])[j]?
  | [], [], _, i, j, hi, _ => by simp at hi
  | h :: hs, s :: l, e, 0, j, hi, hj => by
    rw [row, Nat.zero_mul, Nat.zero_add, List.getElem?_append_left (by show j < 3; exact hj)]; rfl
  | h :: hs, s :: l, e, i + 1, j, hi, hj => by
    rw [row, List.getElem?_append_right (by show 3 ≤ _; omega)]
    have := row_get hs l (by simpa using e) i j (by simpa using hi) hj
    have e2 : (i + 1) * 3 + j - (cells h s).length = i * 3 + j := by show (i + 1) * 3 + j - 3 = _; omega
    rw [e2, this]; rfl
  | [], _ :: _, e, _, _, _, _ => by simp at e
  | _ :: _, [], e, _, _, _, _ => by simp at e
end Seat
/-- A slice that reads as seats. -/
structure Seats (w : World) (A : Option Addr) (n c : Nat) (hs : List Seat.At) (l : List Seat) : Prop where
  len : l.length = n
  hlen : hs.length = n
  cap : n ≤ c ∧ n ≤ 3518437208780 ∧ c ≤ 9223372036854775807
  nil : A = none → n = 0 ∧ c = 0
  rd : Rd w 3 A n (Seat.row hs l)
  ords : ∀ i (h1 : i < hs.length) (h2 : i < l.length), Ords w hs[i].A l[i].waits.length hs[i].c l[i].waits
theorem Seats.later {w w' : World} {A : Option Addr} {n c : Nat} {hs : List Seat.At} {l : List Seat} (h : Seats w A n c hs l) (hb : Below w.heap.size w w') : Seats w' A n c hs l :=
  ⟨h.len, h.hlen, h.cap, h.nil, h.rd.later hb, fun i h1 h2 => (h.ords i h1 h2).later hb⟩
theorem Seats.drewN {w : World} {A : Option Addr} {n c : Nat} {hs : List Seat.At} {l : List Seat} (h : Seats w A n c hs l) (q : Nat) : Seats (w.drewN q) A n c hs l :=
  ⟨h.len, h.hlen, h.cap, h.nil, h.rd.drewN q, fun i h1 h2 => (h.ords i h1 h2).drewN q⟩
/-- A seat's three cells. -/
theorem Seats.three {w : World} {A : Option Addr} {n c : Nat} {hs : List Seat.At} {l : List Seat} (h : Seats w A n c hs l) (h0 : 0 < n) :
    ∃ b o, A = some ⟨b, o, none⟩ ∧ ∀ i (h1 : i < hs.length) (h2 : i < l.length), w.cell? ⟨b, o + i * 3, none⟩ = some (.slice hs[i].A l[i].waits.length hs[i].c) ∧ w.cell? ⟨b, o + i * 3 + 1, none⟩ = some (.int .i64 l[i].late) ∧ w.cell? ⟨b, o + i * 3 + 2, none⟩ = some (.bool l[i].gone) := by
  obtain ⟨b, o, rfl, hc⟩ := h.rd.2 h0
  refine ⟨b, o, rfl, fun i h1 h2 => ?_⟩
  have g := fun j (hj : j < 3) => Seat.row_get hs l (h.hlen.trans h.len.symm) i j h2 hj
  refine ⟨?_, ?_, ?_⟩
  · exact hc (i * 3 + 0) _ (g 0 (by decide))
  · exact hc (i * 3 + 1) _ (g 1 (by decide))
  · exact hc (i * 3 + 2) _ (g 2 (by decide))
end Go.Proofs.Ytmooknaljkeaaaa
