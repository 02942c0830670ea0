/-
  slices.Sort of a slice of numbers of one's own.
-/
import Derived.Test.YtkijhejjnlmbmaaGolC
import Derived.Test.YtkijhejjnlmbmaaShelf
import Derived.Sort.OwnSortedInts
set_option linter.unusedVariables false
set_option linter.unusedSimpArgs false
namespace Go.Proofs.Ytkijhejjnlmbmaa
open Go.RowKit

theorem ess_ints {w : World} : ∀ {ess : List (List Value)} {l : List Int}, All2 (fun es a => repI.has w es a) ess l → ess.flatten = l.map (Value.int .i64)
  | [], [], _ => rfl
  | es :: ess, a :: l, h => by
    obtain ⟨h1, h2⟩ := h
    rw [List.flatten_cons, hcI h1, ess_ints h2]; rfl
  | [], _ :: _, h => h.elim
  | _ :: _, [], h => h.elim
theorem own_ints {w : World} {B : Nat} : ∀ {ps : List (List Nat × List Value)} {l : List Int}, All2 (fun x a => repI.own w B x.1 x.2 a) ps l → (ps.map (·.2)).flatten = l.map (Value.int .i64)
  | [], [], _ => rfl
  | y :: ps, a :: l, h => by
    obtain ⟨h1, h2⟩ := h
    rw [List.map_cons, List.flatten_cons, hcI (repI.ohas h1), own_ints h2]; rfl
  | [], _ :: _, h => h.elim
  | _ :: _, [], h => h.elim
theorem all_ints {w : World} : ∀ {l : List Int}, (∀ a ∈ l, okI a) → All2 (fun es a => repI.has w es a) (l.map fun a => [Value.int .i64 a]) l
  | [], _ => trivial
  | a :: l, h => ⟨⟨rfl, h a List.mem_cons_self⟩, all_ints fun b hb => h b (List.mem_cons_of_mem _ hb)⟩
theorem own_sorted {e B c g n : Nat} {l ts : List Int} {w : World} {os : Array Obj} (h : repI.SOwn e 8 w B (Rep.blkOf (some ⟨g, 0, none⟩)) (some ⟨g, 0, none⟩) c l) (hp : ts.Perm l) :
    repI.SOwn e 8 (Sort.grow (Sort.putRow (Value.int .i64) (Sort.ahead w n) g 0 ts.toArray) os) B (Rep.blkOf (some ⟨g, 0, none⟩)) (some ⟨g, 0, none⟩) c ts := by
  have hall := repI_ok h.has
  have hlen := hp.length_eq
  obtain ⟨hb, ps, hf, hn, ⟨hx1, hx2⟩, h5⟩ := h
  rcases hx2 with ⟨hx2, _⟩ | ⟨g2, cap, cur, hv, hB, hh, hnc, hcm2, hcs, ht2, hG⟩
  · exact nomatch hx2
  injection hv with e1 e2 e3
  injection e1 with e1
  injection e1 with e1
  subst e1 e3
  have hcs : cur.size = c * 1 := hcs
  refine Rep.SOwn.of_plain (ess := ts.map fun a => [Value.int .i64 a]) repI_plain (all_ints fun a ha => hall a (hp.mem_iff.1 ha)) (by rw [hlen]; exact hb) ?_
  have hfl : (ts.map fun a => [Value.int .i64 a]).flatten = ts.map (Value.int .i64) := ess_ints (w := w) (all_ints fun a ha => hall a (hp.mem_iff.1 ha))
  rw [hfl]
  refine ⟨by rw [List.length_map]; exact (Nat.mul_one _).symm, .inr ⟨g, c, _, by rw [hlen], hB, heap_sortedI _ hh, by rw [hlen]; exact hnc, hcm2, by simp only [Sort.putCells, Array.size_mapIdx, hcs]; rfl, ?_, ?_⟩⟩
  · show List.take (ts.length * 1) _ = _
    rw [Nat.mul_one]; exact take_putCellsI cur ts (by omega)
  · intro j u hu
    have hjs : j < cur.size := by
      obtain ⟨hj, _⟩ := Array.getElem?_eq_some_iff.1 hu
      simpa [Sort.putCells] using hj
    by_cases hj : j < ts.length
    · have h1 : (Sort.putCells (Value.int .i64) 0 ts.toArray cur).toList[j]? = some u := by rw [Array.getElem?_toList]; exact hu
      have h2 := take_putCellsI cur ts (by omega)
      have h3 : ((Sort.putCells (Value.int .i64) 0 ts.toArray cur).toList.take ts.length)[j]? = some u := by rw [List.getElem?_take_of_lt hj]; exact h1
      rw [h2, List.getElem?_map, List.getElem?_eq_getElem hj] at h3
      obtain rfl := Option.some.inj h3
      exact ⟨_, rfl⟩
    · have : cur[j]? = some u := by
        rw [← hu]; simp [Sort.putCells, hj, hjs]
      exact hG j u this
theorem mod_sorted {g n : Nat} {w : World} {os : Array Obj} (d : Array Int) : Mod [g] w (Sort.grow (Sort.putRow (Value.int .i64) (Sort.ahead w n) g 0 d) os) := Mod.grown (grownBy_sortedI (os := os) d)
def sorted (l : List Int) : List Int := l.mergeSort fun x y => decide (x ≤ y)
theorem sorted_perm (l : List Int) : (sorted l).Perm l := List.mergeSort_perm _ _
theorem sortI_any {e B c : Nat} {A : Option Addr} {l : List Int} (w : World) (h : repI.SOwn e 8 w B (Rep.blkOf A) A c l) :
    Calls Try.prog 23 #[.slice A l.length c] w (fun e' w' => e' = .returned (.tuple #[]) ∧ repI.SOwn e 8 w' B (Rep.blkOf A) A c (sorted l) ∧ Mod (Rep.blkOf A) w w') := by
  cases A with
  | none =>
    obtain ⟨hb, ps, hf, hn, ⟨hx1, hx2⟩, h5⟩ := id h
    have hl : l = [] ∧ c = 0 := by
      rcases hx2 with ⟨hx2, _⟩ | ⟨g2, cap, cur, hv, _⟩
      · injection hx2 with _ e2 e3; exact ⟨List.eq_nil_of_length_eq_zero e2, e3⟩
      · injection hv with e1 _ _; cases e1
    obtain ⟨rfl, rfl⟩ := hl
    refine (Try.slices_Sort_int_none none 0 w).mono fun e' w' he => ?_
    obtain ⟨rfl, rfl⟩ := he
    exact ⟨rfl, by rw [show sorted [] = [] from by unfold sorted; simp]; exact h, Mod.rf _ _⟩
  | some a =>
    have hg : ∃ g, a = ⟨g, 0, none⟩ := by
      obtain ⟨hb, ps, hf, hn, ⟨hx1, hx2⟩, h5⟩ := id h
      rcases hx2 with ⟨hx2, _⟩ | ⟨g2, cap, cur, hv, _⟩
      · exact nomatch hx2
      · injection hv with e1 _ _; injection e1 with e1; exact ⟨g2, e1⟩
    obtain ⟨g, rfl⟩ := hg
    have hll := h.1
    have hH : Sort.Holds (Value.int .i64) w g 0 l.toArray ∧ g < w.heap.size := by
      obtain ⟨hb, ps, hf, hn, ⟨hx1, hx2⟩, h5⟩ := id h
      rcases hx2 with ⟨hx2, _⟩ | ⟨g2, cap, cur, hv, hB, hh, hnc, hcm2, hcs, ht2, hG⟩
      · exact nomatch hx2
      injection hv with e1 e2 e3
      injection e1 with e1
      injection e1 with e1
      subst e1 e3
      have hfl := own_ints h5
      refine ⟨holds_of_blockI hh ?_, (Array.getElem?_eq_some_iff.1 hh).1⟩
      rw [← hfl, ← ht2]; congr 1; exact (Nat.mul_one _).symm
    refine (Try.slices_Sort_int g 0 c l w hH.1 hH.2 (by omega)).mono fun e' w' he => ?_
    obtain ⟨rfl, n, os, rfl⟩ := he
    exact ⟨rfl, own_sorted h (sorted_perm l), mod_sorted _⟩
end Go.Proofs.Ytkijhejjnlmbmaa
