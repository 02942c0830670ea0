/-
  Seats of the call's own, written in place.
-/
import Derived.Test.YtmooknaljkeaaaaSeatK
import Derived.Test.YtmooknaljkeaaaaSeatP
set_option linter.unusedVariables false
namespace Go.Proofs.Ytmooknaljkeaaaa
open Go.RowKit

theorem Seat.row_set : ∀ (hs : List Seat.At) (l : List Seat) (e : hs.length = l.length) (i j : Nat) (hi : i < l.length) (hj : j < 3) (h : Seat.At) (s : Seat) (u : Value),
    (Seat.cells (hs[i]'(by omega)) l[i]).set j u = Seat.cells h s → (Seat.row hs l).set (i * 3 + j) u = Seat.row (hs.set i h) (l.set i s)
  | [], [], _, i, j, hi, _, _, _, _, _ => by simp at hi
  | a :: hs, b :: l, e, 0, j, hi, hj, h, s, u, hc => by
    rw [List.set_cons_zero, List.set_cons_zero, Seat.row, Seat.row, Nat.zero_mul, Nat.zero_add, List.set_append_left _ _ (by show j < 3; exact hj)]
    rw [show (Seat.cells a b).set j u = Seat.cells h s from hc]
  | a :: hs, b :: l, e, i + 1, j, hi, hj, h, s, u, hc => by
    rw [List.set_cons_succ, List.set_cons_succ, Seat.row, Seat.row, List.set_append_right _ _ (by show 3 ≤ _; omega)]
    have e2 : (i + 1) * 3 + j - (Seat.cells a b).length = i * 3 + j := by show (i + 1) * 3 + j - 3 = _; omega
    rw [e2, Seat.row_set hs l (by simpa using e) i j (by simpa using hi) hj h s u hc]
  | [], _ :: _, e, _, _, _, _, _, _, _, _ => by simp at e
  | _ :: _, [], e, _, _, _, _, _, _, _, _ => by simp at e
/-- A seat is written. -/
theorem Mine.put {w : World} {B g c n : Nat} {hs : List Seat.At} {l : List Seat} (h : Mine w B (.slice (some ⟨g, 0, none⟩) n c) n hs l) (i j : Nat) (hi : i < l.length) (hih : i < hs.length) (hj : j < 3) (k : Seat.At) (s : Seat) (u : Value)
    (hc : (Seat.cells hs[i] l[i]).set j u = Seat.cells k s) (ho : Ords w k.A s.waits.length k.c s.waits) (hf : Free w B k.A k.c) (hne : ∀ a, k.A = some a → a.block ≠ g) :
    Mine (w.setCell ⟨g, i * 3 + j, none⟩ u) B (.slice (some ⟨g, 0, none⟩) n c) n (hs.set i k) (l.set i s) := by
  have hlh := h.hlen.trans h.len.symm
  have hap : ∀ x (h1 : x < hs.length) a, hs[x].A = some a → a.block ≠ g := fun x h1 a ha e => h.apart x h1 a ha (by rw [e]; rfl)
  have hk : ∀ a : Addr, a.block ≠ g → (w.setCell ⟨g, i * 3 + j, none⟩ u).heap[a.block]? = w.heap[a.block]? := fun a ha => heap_setCell_other _ _ _ _ ha
  have key : ∀ x (h1 : x < (hs.set i k).length) a, (hs.set i k)[x].A = some a → a.block ≠ g := by
    intro x h1 a ha
    rw [List.length_set] at h1
    by_cases e : i = x
    · subst e; rw [List.getElem_set_self] at ha; exact hne a ha
    · rw [List.getElem_set_ne e] at ha; exact hap x h1 a ha
  refine ⟨by rw [List.length_set]; exact h.len, by rw [List.length_set]; exact h.hlen, ?_, ?_, ?_, ?_⟩
  · rw [← Seat.row_set hs l hlh i j hi hj k s u hc]
    exact h.row.stored (i * 3 + j) u trivial
  · intro x h1 h2
    have hkx := key x h1
    rw [List.length_set] at h1 h2
    by_cases e : i = x
    · subst e
      simp only [List.getElem_set_self] at hkx ⊢
      exact ho.of_block fun a ha => hk a (hkx a ha)
    · simp only [List.getElem_set_ne e] at hkx ⊢
      exact (h.ords x h1 h2).of_block fun a ha => hk a (hkx a ha)
  · intro x h1
    have hkx := key x h1
    rw [List.length_set] at h1
    by_cases e : i = x
    · subst e
      simp only [List.getElem_set_self] at hkx ⊢
      exact hf.of_block fun a ha => hk a (hkx a ha)
    · simp only [List.getElem_set_ne e] at hkx ⊢
      exact (h.free x h1).of_block fun a ha => hk a (hkx a ha)
  · intro x h1 a ha e
    injection e with e
    exact key x h1 a ha e.symm
theorem Mine.late {w : World} {B g c n : Nat} {hs : List Seat.At} {l : List Seat} (h : Mine w B (.slice (some ⟨g, 0, none⟩) n c) n hs l) (i : Nat) (hi : i < l.length) (s : Seat) (hs' : l[i] = s) (x : Int) :
    Mine (w.setCell ⟨g, i * 3 + 1, none⟩ (.int .i64 x)) B (.slice (some ⟨g, 0, none⟩) n c) n hs (l.set i ⟨s.waits, x, s.gone⟩) := by
  subst hs'
  have hih : i < hs.length := by rw [h.hlen, ← h.len]; exact hi
  have := h.put i 1 hi hih (by decide) hs[i] ⟨l[i].waits, x, l[i].gone⟩ (.int .i64 x) rfl (h.ords i hih hi) (h.free i hih) (fun a ha e => h.apart i hih a ha (by rw [e]; rfl))
  rw [List.set_getElem_self] at this
  exact this
theorem Mine.cells {w : World} {B g c n : Nat} {hs : List Seat.At} {l : List Seat} (h : Mine w B (.slice (some ⟨g, 0, none⟩) n c) n hs l) (i : Nat) (hi : i < l.length) (hih : i < hs.length) :
    w.cell? ⟨g, i * 3, none⟩ = some (.slice hs[i].A l[i].waits.length hs[i].c) ∧ w.cell? ⟨g, i * 3 + 1, none⟩ = some (.int .i64 l[i].late) ∧ w.cell? ⟨g, i * 3 + 2, none⟩ = some (.bool l[i].gone) ∧
    w.frozen? ⟨g, i * 3, none⟩ = false ∧ w.frozen? ⟨g, i * 3 + 1, none⟩ = false := by
  have hlh := h.hlen.trans h.len.symm
  have hln := h.len
  have g1 := fun j (hj : j < 3) => Seat.row_get hs l hlh i j hi hj
  refine ⟨?_, ?_, ?_, h.row.free _, h.row.free _⟩
  · have := h.row.cell (i * 3 + 0) (by omega); rw [g1 0 (by decide)] at this; exact this
  · have := h.row.cell (i * 3 + 1) (by omega); rw [g1 1 (by decide)] at this; exact this
  · have := h.row.cell (i * 3 + 2) (by omega); rw [g1 2 (by decide)] at this; exact this
/-- All of it lies below block B2. -/
def Low (B2 : Nat) (v : Value) (hs : List Seat.At) : Prop := (∀ g, v.ownBlock = some g → g < B2) ∧ ∀ i (h1 : i < hs.length) a, hs[i].A = some a → a.block < B2
theorem Mine.low {w : World} {B n : Nat} {v : Value} {hs : List Seat.At} {l : List Seat} (h : Mine w B v n hs l) : Low w.heap.size v hs := ⟨fun g hg => (h.row.row.lt g hg).2, fun i h1 a ha => ((h.free i h1).lt ha).2⟩
theorem Low.set {B2 : Nat} {v : Value} {hs : List Seat.At} (h : Low B2 v hs) (i : Nat) (k : Seat.At) (hk : ∀ a, k.A = some a → a.block < B2) : Low B2 v (hs.set i k) := by
  refine ⟨h.1, fun x h1 a ha => ?_⟩
  rw [List.length_set] at h1
  by_cases e : i = x
  · subst e; rw [List.getElem_set_self] at ha; exact hk a ha
  · rw [List.getElem_set_ne e] at ha; exact h.2 x h1 a ha
theorem Mine.grown {w w' : World} {B B2 n : Nat} {v u : Value} {hs : List Seat.At} {l : List Seat} (h : Mine w B v n hs l) (hl : Low B2 v hs) (hg : w.grownBy w' u.ownBlock) (hu : ∀ k, u.ownBlock = some k → B2 ≤ k) : Mine w' B v n hs l := by
  have key : ∀ g, g < w.heap.size → g < B2 → w'.heap[g]? = w.heap[g]? := fun g h1 h2 => hg.block g h1 fun e => by have := hu g e.symm; omega
  exact ⟨h.len, h.hlen, h.row.of_block (B := 0) fun g hg => key g (h.row.row.lt g hg).2 (hl.1 g hg), fun i h1 h2 => (h.ords i h1 h2).of_block fun a ha => key _ ((h.free i h1).lt ha).2 (hl.2 i h1 a ha), fun i h1 => (h.free i h1).of_block fun a ha => key _ ((h.free i h1).lt ha).2 (hl.2 i h1 a ha), h.apart⟩
theorem Own.addr {w : World} {base e size n : Nat} {G : Nat → Value → Prop} {v : Value} {xs : List Value} (h : Own w base e size G v n xs) (h0 : 0 < n) : ∃ g c, v = .slice (some ⟨g, 0, none⟩) n c ∧ n ≤ c ∧ c ≤ 9223372036854775807 := by
  obtain ⟨_, h2⟩ := h
  rcases h2 with ⟨_, h2⟩ | ⟨g, cap, cur, hv, b, hh, d, hm, _⟩
  · omega
  · exact ⟨g, cap, hv, d, by unfold maxLen at hm; omega⟩
/-- The orders behind the first. -/
theorem Ords.tail {w : World} {b o n c : Nat} {x : Ord} {r : List Ord} (h : Ords w (some ⟨b, o, none⟩) (n + 1) c (x :: r)) (hc : ¬ c = 1) : Ords w (some ⟨b, o + 6, none⟩) n (c - 1) r := by
  have hl := h.len
  have hcap := h.cap
  have hbig := h.big
  have htop := h.top
  refine ⟨by simpa using hl, by omega, by omega, by omega, (fun h => by cases h), ?_⟩
  refine ⟨by rw [ordCells_len]; have : r.length = n := by simpa using hl
             omega, fun h0 => ⟨b, o + 6, rfl, fun j u hu => ?_⟩⟩
  obtain ⟨b', o', e, hcell⟩ := h.rd.2 (by omega)
  injection e with e
  injection e with e1 e2
  subst e1; subst e2
  have := hcell (6 + j) u (by rw [ordCells_cons, List.getElem?_append_right (by rw [Ord.cells_len]; omega), Ord.cells_len, show 6 + j - 6 = j from by omega]; exact hu)
  rw [← Nat.add_assoc] at this
  exact this
theorem Ords.tail1 {w : World} {b o n : Nat} {x : Ord} {r : List Ord} (h : Ords w (some ⟨b, o, none⟩) (n + 1) 1 (x :: r)) : Ords w (some ⟨b, o, none⟩) n 0 r ∧ n = 0 ∧ r = [] := by
  have hl := h.len
  have hcap := h.cap
  have hn : n = 0 := by omega
  subst hn
  have hr : r = [] := List.eq_nil_of_length_eq_zero (by simpa using hl)
  subst hr
  exact ⟨⟨rfl, Nat.le_refl _, by omega, by omega, (fun h => by cases h), Rd.zero _ _ _⟩, rfl, rfl⟩
theorem Free.tail {w : World} {B b o c : Nat} (h : Free w B (some ⟨b, o, none⟩) c) (hc : 1 ≤ c) : Free w B (some ⟨b, o + 6, none⟩) (c - 1) := by
  rcases h with h | ⟨b', o', cur, e, h1, h2, h3, h4⟩
  · cases h
  · injection e with e
    injection e with e1 e2
    subst e1; subst e2
    exact .inr ⟨b, o + 6, cur, rfl, h1, h2, by omega, h4⟩
theorem Free.tail1 {w : World} {B b o : Nat} (h : Free w B (some ⟨b, o, none⟩) 1) : Free w B (some ⟨b, o, none⟩) 0 := by
  rcases h with h | ⟨b', o', cur, e, h1, h2, h3, h4⟩
  · cases h
  · exact .inr ⟨b', o', cur, e, h1, h2, by omega, h4⟩
/-- The first of a seat's orders is taken away. -/
theorem Mine.pop {w : World} {B g c n : Nat} {hs : List Seat.At} {l : List Seat} (h : Mine w B (.slice (some ⟨g, 0, none⟩) n c) n hs l) (i : Nat) (hi : i < l.length) (hih : i < hs.length) (s : Seat) (hls : l[i] = s) (k : Seat.At) (hhk : hs[i] = k) {x : Ord} {r : List Ord} (he : s.waits = x :: r)
    {b o : Nat} (hA : k.A = some ⟨b, o, none⟩) (hc : ¬ k.c = 1) {m : Nat} (hm : r.length = m) :
    Mine (w.setCell ⟨g, i * 3, none⟩ (.slice (some ⟨b, o + 6, none⟩) m (k.c - 1))) B (.slice (some ⟨g, 0, none⟩) n c) n (hs.set i ⟨some ⟨b, o + 6, none⟩, k.c - 1⟩) (l.set i ⟨r, s.late, s.gone⟩) := by
  subst hm; subst hls; subst hhk
  have ho := h.ords i hih hi
  have hf := h.free i hih
  have hap : b ≠ g := fun e => h.apart i hih _ hA (by rw [← e]; rfl)
  have hcap := ho.cap
  have hl : l[i].waits.length = r.length + 1 := by rw [he]; rfl
  rw [hA] at ho hf
  rw [hl, he] at ho
  exact h.put i 0 hi hih (by decide) ⟨some ⟨b, o + 6, none⟩, hs[i].c - 1⟩ ⟨r, l[i].late, l[i].gone⟩ _ rfl (ho.tail hc) (hf.tail (by omega)) (fun a ha => by obtain rfl := Option.some.inj ha; exact hap)
theorem Mine.pop1 {w : World} {B g c n : Nat} {hs : List Seat.At} {l : List Seat} (h : Mine w B (.slice (some ⟨g, 0, none⟩) n c) n hs l) (i : Nat) (hi : i < l.length) (hih : i < hs.length) (s : Seat) (hls : l[i] = s) (k : Seat.At) (hhk : hs[i] = k) {x : Ord} {r : List Ord} (he : s.waits = x :: r)
    {b o : Nat} (hA : k.A = some ⟨b, o, none⟩) (hc : k.c = 1) {m : Nat} (hm : r.length = m) :
    Mine (w.setCell ⟨g, i * 3, none⟩ (.slice (some ⟨b, o, none⟩) m 0)) B (.slice (some ⟨g, 0, none⟩) n c) n (hs.set i ⟨some ⟨b, o, none⟩, 0⟩) (l.set i ⟨r, s.late, s.gone⟩) := by
  subst hm; subst hls; subst hhk
  have ho := h.ords i hih hi
  have hf := h.free i hih
  have hap : b ≠ g := fun e => h.apart i hih _ hA (by rw [← e]; rfl)
  have hl : l[i].waits.length = r.length + 1 := by rw [he]; rfl
  rw [hA, hc] at ho hf
  rw [hl, he] at ho
  exact h.put i 0 hi hih (by decide) ⟨some ⟨b, o, none⟩, 0⟩ ⟨r, l[i].late, l[i].gone⟩ _ rfl ho.tail1.1 hf.tail1 (fun a ha => by obtain rfl := Option.some.inj ha; exact hap)
def lenOf : Value → Nat
  | .slice _ n _ => n
  | _ => 0
/-- How many rounds there may be. -/
def rounds (most : Nat) (v b : Value) : Nat := match b with | .bool true => most + 1 - lenOf v | _ => 0
/-- Amid what Close tells. -/
structure Amid (w wx : World) (B2 g c n : Nat) (l0 : List Seat) (hs : List Seat.At) (l : List Seat) (out : List Ord) (v : Value) : Prop where
  mine : Mine wx w.heap.size (.slice (some ⟨g, 0, none⟩) n c) n hs l
  low : Low B2 (.slice (some ⟨g, 0, none⟩) n c) hs
  outs : Own wx B2 59 6 GO v out.length (ordCells out)
  kept : Seat.Kept l0 l out
  below : Below w.heap.size w wx
  size : B2 ≤ wx.heap.size
  base : w.heap.size ≤ B2
theorem rd_ord (W : World) (o : Ord) : Rd (W.alloc (.cells #[.int .i64 o.by_, .int .i64 o.kind, .int .i64 o.who, .int .i64 o.x, .int .i64 o.y, .int .i64 o.what] 59)) 6 (some ⟨W.heap.size, 0, none⟩) 1 o.cells := by
  have hB := Blk.new W o.cells 59 (0, 0)
  refine ⟨rfl, fun _ => ⟨W.heap.size, 0, rfl, fun j u hu => ?_⟩⟩
  rw [Nat.zero_add]
  exact (hB.cell j).trans hu
theorem ord_go (o : Ord) : ∀ j u, o.cells[j]? = some u → GO (j % 6) u := fun j u hu => ord_int o u (List.mem_of_getElem? hu)
theorem ord_one (o : Ord) : ∀ u ∈ o.cells, u.oneCell' = true := by
  intro u hu
  obtain ⟨n, rfl⟩ := ord_int o u hu
  rfl
/-- One order more is told: behind the append, ahead of the store. -/
theorem Amid.told {w wx w5 : World} {B2 g c n : Nat} {l0 : List Seat} {hs : List Seat.At} {l : List Seat} {out : List Ord} {v : Value} (h : Amid w wx B2 g c n l0 hs l out v) (o : Ord)
    (hg : ((wx.alloc (.cells #[.int .i64 o.by_, .int .i64 o.kind, .int .i64 o.who, .int .i64 o.x, .int .i64 o.y, .int .i64 o.what] 59)).drew).grownBy w5 v.ownBlock) :
    Mine w5 w.heap.size (.slice (some ⟨g, 0, none⟩) n c) n hs l ∧ Below w.heap.size w w5 ∧ B2 ≤ w5.heap.size := by
  have h1 := h.mine.later ((below_alloc0 wx (.cells #[.int .i64 o.by_, .int .i64 o.kind, .int .i64 o.who, .int .i64 o.x, .int .i64 o.y, .int .i64 o.what] 59)).drew)
  have hb := (h.below.alloc h.below.size (.cells #[.int .i64 o.by_, .int .i64 o.kind, .int .i64 o.who, .int .i64 o.x, .int .i64 o.y, .int .i64 o.what] 59)).drew
  have hrow := fun k hk => (h.outs.row.lt k hk).1
  refine ⟨h1.grown h.low hg hrow, hb.grown hg hb.size (fun k hk => Nat.le_trans h.base (hrow k hk)), Nat.le_trans h.size (Nat.le_trans ?_ hg.size)⟩
  show wx.heap.size ≤ (wx.alloc _).heap.size
  simp
end Go.Proofs.Ytmooknaljkeaaaa
