/-
  Arguments of orders and of seats, opened.
-/
import Derived.Test.YtmooknaljkeaaaaSeatM
import Derived.Test.YtmooknaljkeaaaaOpen
set_option linter.unusedVariables false
namespace Go.Proofs.Ytmooknaljkeaaaa
open Go.RowKit

theorem ord_of {w : World} {es : List Value} (h : (.cons (.int .i64) (.cons (.int .i64) (.cons (.int .i64) (.cons (.cons (.int .i64) (.cons (.int .i64) .nil)) (.cons (.int .i64) .nil)))) : Sh).Ok w es) : ∃ o : Ord, es = o.cells := by
  obtain ⟨x1, y1, rfl, _, _, ⟨n1, rfl, _⟩, x2, y2, rfl, _, _, ⟨n2, rfl, _⟩, x3, y3, rfl, _, _, ⟨n3, rfl, _⟩, x4, y4, rfl, _, _, ⟨x5, y5, rfl, _, _, ⟨n4, rfl, _⟩, x6, y6, rfl, _, _, ⟨n5, rfl, _⟩, rfl⟩, x7, y7, rfl, _, _, ⟨n6, rfl, _⟩, rfl⟩ := h
  exact ⟨⟨n1, n2, n3, n4, n5, n6⟩, rfl⟩
theorem spot_none {w : World} {a : Addr} {v : Value} (h : w.cell? a = some v) : a.spot = none := World.cell?_spot h
theorem ords_open {w : World} {A : Option Addr} {n c : Nat} (h : (.slice (.cons (.int .i64) (.cons (.int .i64) (.cons (.int .i64) (.cons (.cons (.int .i64) (.cons (.int .i64) .nil)) (.cons (.int .i64) .nil))))) 48 : Sh).Ok w [.slice A n c]) :
    ∃ l : List Ord, Ords w A n c l := by
  rcases h with h | ⟨a, len, cap, h, hl, hm, hr, hi⟩
  · simp at h
    obtain ⟨rfl, rfl, rfl⟩ := h
    exact ⟨[], ⟨rfl, Nat.le_refl _, by omega, by omega, (fun _ => ⟨rfl, rfl⟩), Rd.zero _ _ _⟩⟩
  · simp at h
    obtain ⟨rfl, rfl, rfl⟩ := h
    unfold maxLen at hm
    have hi2 : ∀ i, i < n → ∃ o : Ord, ∀ j v, o.cells[j]? = some v → w.cell? (a.add (i * 6 + j)) = some v := by
      intro i hic
      obtain ⟨es, hes, hc, hok⟩ := hi i (by omega)
      obtain ⟨o, rfl⟩ := ord_of hok
      exact ⟨o, hc⟩
    obtain ⟨l, hll, hlx⟩ := list_of n _ hi2
    refine ⟨l, ⟨hll, hl, by omega, by omega, (fun h => by cases h), by rw [ordCells_len, hll], fun h0 => ?_⟩⟩
    obtain ⟨b, off, spot⟩ := a
    have hc := hlx 0 (by omega) 0 _ rfl
    have hspot : spot = none := by simpa [Addr.add] using World.cell?_spot hc
    subst hspot
    refine ⟨b, off, rfl, fun j u hu => ?_⟩
    have hj : j < l.length * 6 := by have := (List.getElem?_eq_some_iff.1 hu).1; rwa [ordCells_len] at this
    have hg := ordCells_get l (j / 6) (j % 6) (by omega) (Nat.mod_lt _ (by decide))
    rw [show j / 6 * 6 + j % 6 = j from by omega, hu] at hg
    have := hlx (j / 6) (by omega) (j % 6) u hg.symm
    rw [addAt, show j / 6 * 6 + j % 6 = j from by omega] at this
    exact this
/-- What stands at a seat that came in. -/
def SeatIs (w : World) (a : Addr) (i : Nat) (p : Seat.At × Seat) : Prop :=
  (∀ j v, (Seat.cells p.1 p.2)[j]? = some v → w.cell? (a.add (i * 3 + j)) = some v) ∧ Ords w p.1.A p.2.waits.length p.1.c p.2.waits
theorem row_zip : ∀ (l : List (Seat.At × Seat)), (Seat.row (l.map (·.1)) (l.map (·.2))).length = l.length * 3 := fun l => by rw [Seat.row_len _ _ (by simp)]; simp
theorem seats_open {w : World} {A : Option Addr} {n c : Nat} (h : (.slice (.cons (.slice (.cons (.int .i64) (.cons (.int .i64) (.cons (.int .i64) (.cons (.cons (.int .i64) (.cons (.int .i64) .nil)) (.cons (.int .i64) .nil))))) 48) (.cons (.int .i64) (.cons .bool .nil))) 40 : Sh).Ok w [.slice A n c]) :
    ∃ hs l, Seats w A n c hs l := by
  rcases h with h | ⟨a, len, cap, h, hl, hm, hr, hi⟩
  · simp at h
    obtain ⟨rfl, rfl, rfl⟩ := h
    exact ⟨[], [], ⟨rfl, rfl, ⟨Nat.le_refl _, by omega, by omega⟩, (fun _ => ⟨rfl, rfl⟩), Rd.zero _ _ _, (fun i h => by simp at h)⟩⟩
  · simp at h
    obtain ⟨rfl, rfl, rfl⟩ := h
    unfold maxLen at hm
    have hi2 : ∀ i, i < n → ∃ p : Seat.At × Seat, SeatIs w a i p := by
      intro i hic
      obtain ⟨es, hes, hc, x1, y1, rfl, hx1, _, hsl, x2, y2, rfl, _, _, ⟨late, rfl, _⟩, x3, y3, rfl, _, _, ⟨gn, rfl⟩, rfl⟩ := hi i (by omega)
      obtain ⟨B, m, d, rfl⟩ : ∃ B m d, x1 = [.slice B m d] := by
        rcases hsl with h | ⟨a', len', cap', h, _⟩
        · exact ⟨none, 0, 0, h⟩
        · exact ⟨some a', len', cap', h⟩
      obtain ⟨ws, ho⟩ := ords_open hsl
      refine ⟨(⟨B, d⟩, ⟨ws, late, gn⟩), ?_, ?_⟩
      · intro j v hv
        refine hc j v ?_
        rw [← hv]
        unfold Seat.cells
        simp only [ho.len]
        rfl
      · simp only [ho.len]
        exact ho
    obtain ⟨l, hll, hlx⟩ := list_of n _ hi2
    refine ⟨l.map (·.1), l.map (·.2), ⟨by simpa using hll, by simpa using hll, ⟨hl, by omega, by omega⟩, (fun h => by cases h), ⟨by rw [row_zip, hll], fun h0 => ?_⟩, fun i h1 h2 => ?_⟩⟩
    · obtain ⟨b, off, spot⟩ := a
      have hc := (hlx 0 (by omega)).1 0 _ rfl
      have hspot : spot = none := by simpa [Addr.add] using World.cell?_spot hc
      subst hspot
      refine ⟨b, off, rfl, fun j u hu => ?_⟩
      have hj : j < l.length * 3 := by have := (List.getElem?_eq_some_iff.1 hu).1; rwa [row_zip] at this
      have hg := Seat.row_get (l.map (·.1)) (l.map (·.2)) (by simp) (j / 3) (j % 3) (by simp; omega) (Nat.mod_lt _ (by decide))
      rw [show j / 3 * 3 + j % 3 = j from by omega, hu] at hg
      simp only [List.getElem_map] at hg
      have := (hlx (j / 3) (by omega)).1 (j % 3) u hg.symm
      rw [addAt, show j / 3 * 3 + j % 3 = j from by omega] at this
      exact this
    · simp only [List.getElem_map]
      exact (hlx i (by simpa using h1)).2
end Go.Proofs.Ytmooknaljkeaaaa
