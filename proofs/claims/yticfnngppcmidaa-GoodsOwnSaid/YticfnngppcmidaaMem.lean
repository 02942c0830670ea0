/-
  Words for memory: a slice that reads as a list of cells; a row of the call's own of which every cell is known to be of some make; append, make and Clone by these words.
-/
import Derived.Test.YticfnngppcmidaaBase
import Derived.Deep.AppendLies
import Derived.Maps.AppendAt
import Derived.OwnWalk
import Derived.Shelf.SlicesE.Clone
set_option linter.unusedVariables false
namespace Go.Proofs.Yticfnngppcmidaa
open Go.RowKit

/-- A slice that reads as cells; nil is let in where nothing is read. -/
def Rd (w : World) (size : Nat) (A : Option Addr) (n : Nat) (xs : List Value) : Prop :=
  xs.length = n * size ∧ (0 < n → ∃ b o, A = some ⟨b, o, none⟩ ∧ ∀ j u, xs[j]? = some u → w.cell? ⟨b, o + j, none⟩ = some u)
theorem Rd.zero (w : World) (size : Nat) (A : Option Addr) : Rd w size A 0 [] := ⟨by simp, fun h => absurd h (by decide)⟩
theorem Rd.later {w w' : World} {size n : Nat} {A : Option Addr} {xs : List Value} (h : Rd w size A n xs) (hb : Below w.heap.size w w') : Rd w' size A n xs :=
  ⟨h.1, fun h0 => by
    obtain ⟨b, o, e, hc⟩ := h.2 h0
    exact ⟨b, o, e, fun j u hu => cell_later hb (hc j u hu)⟩⟩
theorem Rd.drewN {w : World} {size n : Nat} {A : Option Addr} {xs : List Value} (h : Rd w size A n xs) (k : Nat) : Rd (w.drewN k) size A n xs := h
theorem Rd.below {w w' : World} {size n : Nat} {A : Option Addr} {xs : List Value} {B : Nat} (h : Rd w size A n xs) (hb : Below B w w') (hB : ∀ a, A = some a → a.block < B) : Rd w' size A n xs :=
  ⟨h.1, fun h0 => by
    obtain ⟨b, o, e, hc⟩ := h.2 h0
    exact ⟨b, o, e, fun j u hu => cell_below hb (hc j u hu) (hB ⟨b, o, none⟩ e)⟩⟩

/-- A row of the call's own: its first cells are xs, every one of its cells (the spare ones too) is as G says at its place in an element. -/
def Own (w : World) (base : Nat) (e : TypeId) (size : Nat) (G : Nat → Value → Prop) (v : Value) (n : Nat) (xs : List Value) : Prop :=
  xs.length = n * size ∧
  ((v = .slice none 0 0 ∧ n = 0) ∨
   ∃ g cap cur, v = .slice (some ⟨g, 0, none⟩) n cap ∧ base ≤ g ∧ w.heap[g]? = some (.cells cur e (0, 0)) ∧ n ≤ cap ∧ cap ≤ maxLen ∧ cur.size = cap * size ∧ cur.toList.take (n * size) = xs ∧ ∀ j u, cur[j]? = some u → G (j % size) u)
section
variable {w w' : World} {base e size : Nat} {G : Nat → Value → Prop} {v : Value} {n : Nat} {xs : List Value}
theorem Own.row (h : Own w base e size G v n xs) : w.ownsRow base e size v n xs := by
  obtain ⟨h1, h2⟩ := h
  refine ⟨h1, ?_⟩
  rcases h2 with h2 | ⟨g, cap, cur, a, b, c, d, e, f, i, _⟩
  · exact .inl h2
  · exact .inr ⟨g, cap, cur, a, b, c, d, e, f, i⟩
theorem Own.nil (w : World) (base e size : Nat) (G : Nat → Value → Prop) : Own w base e size G (.slice none 0 0) 0 [] := ⟨by simp, .inl ⟨rfl, rfl⟩⟩
theorem Own.of_block {B : Nat} (h : Own w base e size G v n xs) (hb : ∀ g, v.ownBlock = some g → w'.heap[g]? = w.heap[g]?) : Own w' base e size G v n xs := by
  obtain ⟨h1, h2⟩ := h
  refine ⟨h1, ?_⟩
  rcases h2 with h2 | ⟨g, cap, cur, rfl, b, c, d⟩
  · exact .inl h2
  · exact .inr ⟨g, cap, cur, rfl, b, (hb g rfl).trans c, d⟩
theorem Own.later (h : Own w base e size G v n xs) (hb : Below w.heap.size w w') : Own w' base e size G v n xs :=
  h.of_block (B := 0) fun g hg => hb.block g (h.row.lt g hg).2
theorem Own.drewN (h : Own w base e size G v n xs) (k : Nat) : Own (w.drewN k) base e size G v n xs := h
theorem Own.drew (h : Own w base e size G v n xs) : Own w.drew base e size G v n xs := h
theorem Own.other (h : Own w base e size G v n xs) {a : Addr} (ha : v.ownBlock ≠ some a.block) (u : Value) : Own (w.setCell a u) base e size G v n xs :=
  h.of_block (B := 0) fun g hg => heap_setCell_other _ _ _ _ (fun e => ha (by rw [hg, e]))
theorem Own.mono (h : Own w base e size G v n xs) {base' : Nat} (hb : base' ≤ base) : Own w base' e size G v n xs := by
  obtain ⟨h1, h2⟩ := h
  refine ⟨h1, ?_⟩
  rcases h2 with h2 | ⟨g, cap, cur, a, b, r⟩
  · exact .inl h2
  · exact .inr ⟨g, cap, cur, a, Nat.le_trans hb b, r⟩
theorem Own.rd (h : Own w base e size G v n xs) {A : Option Addr} {c : Nat} (hv : v = .slice A n c) : Rd w size A n xs := by
  obtain ⟨h1, h2⟩ := h
  refine ⟨h1, fun h0 => ?_⟩
  rcases h2 with ⟨_, h2⟩ | ⟨g, cap, cur, rfl, b, c, d, e, f, i, _⟩
  · omega
  · injection hv with hv _ _
    refine ⟨g, 0, hv.symm, fun j u hu => ?_⟩
    rw [Nat.zero_add, cell_of_row w g j cur _ (0, 0) c, ← Array.getElem?_toList]
    rw [← i, List.getElem?_take] at hu
    split at hu
    · exact hu
    · cases hu
theorem Own.shape (h : Own w base e size G v n xs) : ∃ A c, v = .slice A n c ∧ n ≤ c ∧ c ≤ maxLen ∧ Rd w size A n xs ∧ (∀ a, A = some a → base ≤ a.block ∧ a.block < w.heap.size) ∧ (A = none → v = .slice none 0 0) := by
  have h' := h
  obtain ⟨h1, h2⟩ := h
  rcases h2 with ⟨rfl, rfl⟩ | ⟨g, cap, cur, rfl, b, c, d, e, f, i, _⟩
  · exact ⟨none, 0, rfl, Nat.le_refl _, Nat.zero_le _, h'.rd rfl, (fun a ha => by cases ha), fun _ => rfl⟩
  · refine ⟨_, cap, rfl, d, e, h'.rd rfl, fun a ha => ?_, fun h => by cases h⟩
    injection ha with ha
    subst ha
    exact ⟨b, (Array.getElem?_eq_some_iff.1 c).1⟩
theorem zeroCells_good {z : Array Value} (hz : z.size = size) (hs : 0 < size) (hG : ∀ j u, z[j]? = some u → G j u) (k : Nat) : ∀ j u, (Builtin.zeroCells z k)[j]? = some u → G (j % size) u := by
  intro j u hu
  unfold Builtin.zeroCells at hu
  subst hz
  have hj := (Array.getElem?_eq_some_iff.1 hu).1
  simp at hj
  have hlt : j % z.size < z.size := Nat.mod_lt _ hs
  rw [Array.getElem?_map, Array.getElem?_range, if_pos hj] at hu
  simp only [Option.map_some, Option.some.injEq] at hu
  refine hG _ u ?_
  rw [← hu]
  simp [hlt]
theorem madeCells_good {z : Array Value} (hz : z.size = size) (hs : 0 < size) (hG : ∀ j u, z[j]? = some u → G j u) (k : Nat) : ∀ j u, (madeCells z k)[j]? = some u → G (j % size) u := by
  intro j u hu
  unfold madeCells at hu
  subst hz
  have hj := (Array.getElem?_eq_some_iff.1 hu).1
  simp at hj
  have hlt : j % z.size < z.size := Nat.mod_lt _ hs
  rw [Array.getElem?_map, Array.getElem?_range, if_pos hj] at hu
  simp only [Option.map_some, Option.some.injEq] at hu
  refine hG _ u ?_
  rw [← hu]
  simp [hlt]
/-- A store into a row of one's own: any of its cells, the spare ones too. -/
theorem Own.stored {g c : Nat} (h : Own w base e size G (.slice (some ⟨g, 0, none⟩) n c) n xs) (j : Nat) (u : Value) (hu : G (j % size) u) :
    Own (w.setCell ⟨g, j, none⟩ u) base e size G (.slice (some ⟨g, 0, none⟩) n c) n (xs.set j u) := by
  obtain ⟨h1, h2⟩ := h
  refine ⟨by rw [List.length_set]; exact h1, ?_⟩
  rcases h2 with ⟨h2, _⟩ | ⟨g', cap, cur, hv, b, hh, d, hm, hs, ht, hG⟩
  · cases h2
  · injection hv with hv _ hc
    injection hv with hv
    injection hv with hv
    subst hv; subst hc
    refine .inr ⟨g, c, cur.setIfInBounds j u, rfl, b, ?_, d, hm, by simp [hs], ?_, ?_⟩
    · simp only [World.setCell, Array.getElem?_modify, hh]
      simp
    · rw [← ht]
      simp only [Array.toList_setIfInBounds]
      rw [List.take_set]
    · intro i v hv
      by_cases hij : j = i
      · subst hij
        have hlt : j < cur.size := by
          have := (Array.getElem?_eq_some_iff.1 hv).1
          simpa using this
        rw [Array.getElem?_setIfInBounds_self_of_lt hlt] at hv
        obtain rfl := Option.some.inj hv
        exact hu
      · rw [Array.getElem?_setIfInBounds_ne hij] at hv
        exact hG i v hv
theorem Own.cell {g c : Nat} (h : Own w base e size G (.slice (some ⟨g, 0, none⟩) n c) n xs) (j : Nat) (hj : j < n * size) : w.cell? ⟨g, j, none⟩ = xs[j]? := h.row.cellAt j hj
theorem Own.free {g c : Nat} (h : Own w base e size G (.slice (some ⟨g, 0, none⟩) n c) n xs) (j : Nat) : w.frozen? ⟨g, j, none⟩ = false := h.row.frozenAt j
/-- Every cell, the spare ones too, is of its make. -/
theorem Own.some_ {g c : Nat} (h : Own w base e size G (.slice (some ⟨g, 0, none⟩) n c) n xs) (j : Nat) (hj : j < c * size) : ∃ u, w.cell? ⟨g, j, none⟩ = some u ∧ G (j % size) u := by
  obtain ⟨h1, h2⟩ := h
  rcases h2 with ⟨h2, _⟩ | ⟨g', cap, cur, hv, b, hh, d, hm, hs, ht, hG⟩
  · cases h2
  · injection hv with hv _ hc
    injection hv with hv
    injection hv with hv
    subst hv; subst hc
    have hlt : j < cur.size := by rw [hs]; exact hj
    rw [cell_of_row w g j cur _ (0, 0) hh]
    exact ⟨cur[j], Array.getElem?_eq_getElem hlt, hG j _ (Array.getElem?_eq_getElem hlt)⟩
/-- What a slice literal lays. -/
theorem Own.lit (w : World) (cs : Array Value) (n : Nat) (hb : base ≤ w.heap.size) (hm : n ≤ maxLen) (hs : cs.size = n * size) (hG : ∀ j u, cs[j]? = some u → G (j % size) u) :
    Own (w.alloc (.cells cs e)) base e size G (.slice (some ⟨w.heap.size, 0, none⟩) n n) n cs.toList :=
  ⟨by simpa using hs, .inr ⟨w.heap.size, n, cs, rfl, hb, heap_alloc_new w _, Nat.le_refl _, hm, hs, List.take_of_length_le (by simp [hs]), hG⟩⟩
theorem Own.empty (w : World) (hb : base ≤ w.heap.size) : Own (w.alloc (.cells #[] e)) base e size G (.slice (some ⟨w.heap.size, 0, none⟩) 0 0) 0 [] :=
  Own.lit w #[] 0 hb (Nat.zero_le _) (by simp) (fun j u h => by simp at h)
end
section
variable {P : Program} (w : World)
theorem run_append_all (base : Nat) (t ty e : TypeId) (i : TypeInfo) (z : Value) (size bytes : Nat) (ht : P.underlying t = some (.slice e)) (hi : P.info? e = some i) (hz : i.zero = some z)
    (hsize : i.size = size) (hby : i.bytes = bytes) (hzs : z.cells.size = size) (hsz : 0 < size) (G : Nat → Value → Prop) (hzG : ∀ j u, z.cells[j]? = some u → G j u)
    (v : Value) (n : Nat) (xs : List Value) (hown : Own w base e size G v n xs)
    (A : Option Addr) (m c : Nat) (news : List Value) (hr : Rd w size A m news) (h1 : ∀ u ∈ news, u.oneCell' = true) (hnG : ∀ j u, news[j]? = some u → G (j % size) u)
    (h63 : n + m ≤ maxLen) (hbytes : (n + m) * bytes ≤ 140737488355328) (hbase : base ≤ w.heap.size) :
    ∃ v' w', (Builtin.append_ #[t, t] ty #[v, .slice A m c]).run P w = .ok v' w' ∧ Own w' base e size G v' (n + m) (xs ++ news) ∧ w.grownBy w' v.ownBlock ∧
      (v' = .slice none 0 0 ↔ v = .slice none 0 0 ∧ m = 0) ∧ (v'.ownBlock = v.ownBlock ∨ v'.ownBlock = some w.heap.size) := by
  subst hsize
  subst hby
  have hsmall : n + m ≤ 9223372036854775807 := by simp only [maxLen] at h63; omega
  have hl : news.length = m * i.size := hr.1
  have hxl : xs.length = n * i.size := hown.1
  have hlen : (xs ++ news).length = (n + m) * i.size := by rw [List.length_append, hxl, hl, Nat.add_mul]
  have hboth : (∀ j u, xs[j]? = some u → G (j % i.size) u) → ∀ j u, (xs ++ news)[j]? = some u → G (j % i.size) u := by
    intro hx j u hu
    by_cases hj : j < xs.length
    · rw [List.getElem?_append_left hj] at hu; exact hx j u hu
    · rw [List.getElem?_append_right (by omega)] at hu
      have := hnG _ u hu
      rw [hxl] at this hj
      have e : j % i.size = (j - n * i.size) % i.size := by
        conv => lhs; rw [show j = n * i.size + (j - n * i.size) from by omega]
        rw [Nat.mul_comm n, Nat.mul_add_mod]
      rw [e]; exact this
  -- what the growing arm leaves, whatever was there before
  have grown : (∀ j u, xs[j]? = some u → G (j % i.size) u) → ∀ (old : Nat), old < n + m → ∀ (row : Option Nat),
      Own (w.drew.alloc (.cells (xs.toArray ++ news.toArray ++ Builtin.zeroCells z.cells (grownCap w (n + m) old e - (n + m))) e)) base e i.size G
        (.slice (some ⟨w.heap.size, 0, none⟩) (n + m) (grownCap w (n + m) old e)) (n + m) (xs ++ news) ∧
      w.grownBy (w.drew.alloc (.cells (xs.toArray ++ news.toArray ++ Builtin.zeroCells z.cells (grownCap w (n + m) old e - (n + m))) e)) row := by
    intro hxG old ho row
    have hge := grownCap_ge w (n + m) old e
    have hcm : grownCap w (n + m) old e ≤ maxLen := grownCap_le_maxLen w (n + m) old e h63
    refine ⟨⟨hlen, .inr ⟨w.heap.size, _, _, rfl, hbase, heap_alloc_new w.drew _, hge, hcm, ?_, ?_, ?_⟩⟩, ⟨rfl, rfl, rfl, by simp, fun k hk _ => heap_alloc_old w.drew _ hk⟩⟩
    · simp only [Array.size_append, List.size_toArray, size_zeroCells, hzs, hxl, hl, ← Nat.add_mul]
      congr 1
      omega
    · simp only [Array.toList_append, List.append_assoc]
      rw [← List.append_assoc, ← hlen]
      exact List.take_left
    · intro j u hu
      rw [← Array.getElem?_toList] at hu
      simp only [Array.toList_append] at hu
      by_cases hj : j < (xs ++ news).length
      · rw [List.getElem?_append_left hj] at hu; exact hboth hxG j u hu
      · rw [List.getElem?_append_right (by simpa using hj)] at hu
        rw [Array.getElem?_toList] at hu
        have := zeroCells_good hzs hsz hzG _ _ u hu
        have hl2 : (xs.toArray.toList ++ news.toArray.toList).length = (n + m) * i.size := hlen
        rw [hl2] at this
        rw [hlen] at hj
        have e : j % i.size = (j - (n + m) * i.size) % i.size := by
          conv => lhs; rw [show j = (n + m) * i.size + (j - (n + m) * i.size) from by omega]
          rw [Nat.mul_comm (n + m), Nat.mul_add_mod]
        rw [e]; exact this
  have hsrc : A = none ∨ ∃ a, A = some a := by cases A with | none => exact .inl rfl | some a => exact .inr ⟨a, rfl⟩
  rcases hsrc with rfl | ⟨ad, rfl⟩
  · have hm : m = 0 := by
      rcases Nat.eq_zero_or_pos m with h0 | h0
      · exact h0
      · obtain ⟨b, o, h, _⟩ := hr.2 h0
        cases h
    subst hm
    have hn : news = [] := List.eq_nil_of_length_eq_zero (by simpa using hl)
    subst hn
    refine ⟨v, w, ?_, by simpa using hown, World.grownBy.refl w _, by simp, .inl rfl⟩
    rcases hown.2 with ⟨rfl, rfl⟩ | ⟨g, cap, cur, rfl, _, _, hnc, _⟩
    · simp [Builtin.append_, run_underlying ht, sizeOf, typeInfo, hi, Builtin.lenOf, Builtin.firstCells]
    · simp [Builtin.append_, run_underlying ht, sizeOf, typeInfo, hi, Builtin.lenOf, Builtin.firstCells, hnc, storeCells]
  have hnews : ∀ j u, news[j]? = some u → w.cell? (ad.add j) = some u := by
    intro j u hu
    rcases Nat.eq_zero_or_pos m with h0 | h0
    · subst h0
      have hn : news = [] := List.eq_nil_of_length_eq_zero (by simpa using hl)
      subst hn
      simp at hu
    · obtain ⟨b, o, h, hc⟩ := hr.2 h0
      injection h with h
      subst h
      rw [addAt]
      exact hc j u hu
  rcases hown.2 with ⟨rfl, rfl⟩ | ⟨g, cap, cur, rfl, hbg, hg, hnc, hcm, hcs, htake, hG⟩
  · have hx : xs = [] := List.eq_nil_of_length_eq_zero (by simpa using hxl)
    subst hx
    by_cases hm : m = 0
    · subst hm
      have hn : news = [] := List.eq_nil_of_length_eq_zero (by simpa using hl)
      subst hn
      refine ⟨.slice none 0 0, w, ?_, Own.nil w base e i.size G, ⟨rfl, rfl, rfl, Nat.le_refl _, fun _ _ _ => rfl⟩, by simp, Or.inl rfl⟩
      simp [Builtin.append_, run_underlying ht, sizeOf, typeInfo, hi, Builtin.lenOf, Builtin.firstCells, loadCells, loadCellsFrom]
    · have hr := run_append_nil (P := P) w t ty e i z ht hi hz ad m c news hl hnews (by omega) (by omega) (by have hb := hbytes; simp only [Nat.zero_add] at hb; omega)
      have hgr := grown (fun j u hu => by simp at hu) 0 (by omega) (Value.ownBlock (.slice none 0 0))
      simp only [Nat.zero_add, List.nil_append, Array.empty_append] at hgr ⊢
      exact ⟨_, _, hr, hgr.1, hgr.2, by simp [hm], Or.inr rfl⟩
  · have hxG : ∀ j u, xs[j]? = some u → G (j % i.size) u := by
      intro j u hu
      rw [← htake, List.getElem?_take] at hu
      split at hu
      · exact hG j u (by rw [← Array.getElem?_toList]; exact hu)
      · cases hu
    by_cases hroom : n + m ≤ cap
    · have hfit : n * i.size + news.length ≤ cur.size := by rw [hl, hcs, ← Nat.add_mul]; exact Nat.mul_le_mul_right _ hroom
      have hr := run_append_room (P := P) w t ty e i ht hi g n cap cur hg ad m c news hl hnews h1 hroom hfit
      refine ⟨_, _, hr, ⟨hlen, .inr ⟨g, cap, _, rfl, hbg, setRow_heap w g cur _ e _ hg, hroom, hcm, ?_, ?_, ?_⟩⟩, ⟨rfl, rfl, rfl, by simp, fun k _ hk => setRow_other w g k _ (fun e => hk (by simp [Value.ownBlock, e]))⟩, by simp, Or.inl rfl⟩
      · simp only [List.size_toArray, List.length_append, List.length_take, List.length_drop, Array.length_toList]
        omega
      · rw [htake, ← hlen]
        exact List.take_left
      · intro j u hu
        rw [htake] at hu
        have hu : ((xs ++ news) ++ cur.toList.drop (n * i.size + news.length))[j]? = some u := by simpa using hu
        by_cases hj : j < (xs ++ news).length
        · rw [List.getElem?_append_left hj] at hu; exact hboth hxG j u hu
        · rw [List.getElem?_append_right (by omega), List.getElem?_drop] at hu
          rw [hlen] at hu hj
          rw [hl, ← Nat.add_mul, show (n + m) * i.size + (j - (n + m) * i.size) = j from by omega] at hu
          exact hG j u (by rw [← Array.getElem?_toList]; exact hu)
    · have holds : ∀ j u, xs[j]? = some u → w.cell? ((⟨g, 0, none⟩ : Addr).add j) = some u := hown.row.cells (g := g) rfl
      have hr := run_append_grow (P := P) w t ty e i z ht hi hz ⟨g, 0, none⟩ n cap xs hxl holds ad m c news hl hnews (by omega) (by omega) (growslice_fits (by omega) hbytes)
      have hgr := grown hxG cap (by omega) (Value.ownBlock (.slice (some ⟨g, 0, none⟩) n cap))
      exact ⟨_, _, hr, hgr.1, hgr.2, by simp, Or.inr rfl⟩

theorem wp_append_all {o : Oper} {a : Act} {K : Act → World → Prop} {Q : Exit → Act → World → Prop} (s x : Operand) (t : TypeId)
    (ho : o.op = .call { callee := .builtin .append, args := #[s, x], argTypes := #[t, t] })
    (base : Nat) (e : TypeId) (i : TypeInfo) (z : Value) (size bytes : Nat) (ht : P.underlying t = some (.slice e)) (hi : P.info? e = some i) (hz : i.zero = some z)
    (hsize : i.size = size) (hby : i.bytes = bytes) (hzs : z.cells.size = size) (hsz : 0 < size) (G : Nat → Value → Prop) (hzG : ∀ j u, z.cells[j]? = some u → G j u)
    (v : Value) (n : Nat) (xs : List Value) (hs : a.eval s = v) (hown : Own w base e size G v n xs)
    (A : Option Addr) (m c : Nat) (news : List Value) (hx : a.eval x = .slice A m c) (hr : Rd w size A m news) (h1 : ∀ u ∈ news, u.oneCell' = true) (hnG : ∀ j u, news[j]? = some u → G (j % size) u)
    (h63 : n + m ≤ maxLen) (hbytes : (n + m) * bytes ≤ 140737488355328) (hbase : base ≤ w.heap.size)
    (h : ∀ v' w', Own w' base e size G v' (n + m) (xs ++ news) → w.grownBy w' v.ownBlock → (v' = .slice none 0 0 ↔ v = .slice none 0 0 ∧ m = 0) → (v'.ownBlock = v.ownBlock ∨ v'.ownBlock = some w.heap.size) → K (a.put o.dst v') w') : o.wp P a w K Q := by
  obtain ⟨v', w', hrun, h2, h3, h4, h5⟩ := run_append_all (P := P) w base t o.type e i z size bytes ht hi hz hsize hby hzs hsz G hzG v n xs hown A m c news hr h1 hnG h63 hbytes hbase
  unfold Oper.wp execOp
  simp only [ho, resolve, invoke, builtin, Sem.run_bind, Sem.run_pure, Result.andThen_ok, List.map_toArray, List.map_cons, List.map_nil, hs, hx, hrun]
  exact h v' w' h2 h3 h4 h5
theorem wpList_append_all {ops : Array Oper} {rest : List Oper} {o : Oper} {a : Act} {Q : Exit → Act → World → Prop} (hgd : o.guard = none) (s x : Operand) (t : TypeId)
    (ho : o.op = .call { callee := .builtin .append, args := #[s, x], argTypes := #[t, t] })
    (base : Nat) (e : TypeId) (i : TypeInfo) (z : Value) (size bytes : Nat) (ht : P.underlying t = some (.slice e)) (hi : P.info? e = some i) (hz : i.zero = some z)
    (hsize : i.size = size) (hby : i.bytes = bytes) (hzs : z.cells.size = size) (hsz : 0 < size) (G : Nat → Value → Prop) (hzG : ∀ j u, z.cells[j]? = some u → G j u)
    (v : Value) (n : Nat) (xs : List Value) (hs : a.eval s = v) (hown : Own w base e size G v n xs)
    (A : Option Addr) (m c : Nat) (news : List Value) (hx : a.eval x = .slice A m c) (hr : Rd w size A m news) (h1 : ∀ u ∈ news, u.oneCell' = true) (hnG : ∀ j u, news[j]? = some u → G (j % size) u)
    (h63 : n + m ≤ maxLen) (hbytes : (n + m) * bytes ≤ 140737488355328) (hbase : base ≤ w.heap.size)
    (h : ∀ v' w', Own w' base e size G v' (n + m) (xs ++ news) → w.grownBy w' v.ownBlock → (v' = .slice none 0 0 ↔ v = .slice none 0 0 ∧ m = 0) → (v'.ownBlock = v.ownBlock ∨ v'.ownBlock = some w.heap.size) → wpList P ops Q rest (a.put o.dst v') w') : wpList P ops Q (o :: rest) a w :=
  wpList_plain hgd fun _ hK => wp_append_all w s x t ho base e i z size bytes ht hi hz hsize hby hzs hsz G hzG v n xs hs hown A m c news hx hr h1 hnG h63 hbytes hbase fun v' w' h2 h3 h4 h5 => hK _ _ (h v' w' h2 h3 h4 h5)
theorem step_append_all {ops : Array Oper} {o : Oper} {a : Act} {K : Act → World → Prop} {Q : Exit → Act → World → Prop} {E : Prop} (hgd : o.guard = none) (s x : Operand) (t : TypeId)
    (ho : o.op = .call { callee := .builtin .append, args := #[s, x], argTypes := #[t, t] })
    (base : Nat) (e : TypeId) (i : TypeInfo) (z : Value) (size bytes : Nat) (ht : P.underlying t = some (.slice e)) (hi : P.info? e = some i) (hz : i.zero = some z)
    (hsize : i.size = size) (hby : i.bytes = bytes) (hzs : z.cells.size = size) (hsz : 0 < size) (G : Nat → Value → Prop) (hzG : ∀ j u, z.cells[j]? = some u → G j u)
    (v : Value) (n : Nat) (xs : List Value) (hs : a.eval s = v) (hown : Own w base e size G v n xs)
    (A : Option Addr) (m c : Nat) (news : List Value) (hx : a.eval x = .slice A m c) (hr : Rd w size A m news) (h1 : ∀ u ∈ news, u.oneCell' = true) (hnG : ∀ j u, news[j]? = some u → G (j % size) u)
    (h63 : n + m ≤ maxLen) (hbytes : (n + m) * bytes ≤ 140737488355328) (hbase : base ≤ w.heap.size)
    (h : ∀ v' w', Own w' base e size G v' (n + m) (xs ++ news) → w.grownBy w' v.ownBlock → (v' = .slice none 0 0 ↔ v = .slice none 0 0 ∧ m = 0) → (v'.ownBlock = v.ownBlock ∨ v'.ownBlock = some w.heap.size) → K (a.put o.dst v') w') :
    if Region.wanted o (yielded ops a.tmps) = true then Oper.wp P o a w K Q else E := by
  have hw : Region.wanted o (yielded ops a.tmps) = true := by simp [Region.wanted, hgd]
  rw [if_pos hw]
  exact wp_append_all w s x t ho base e i z size bytes ht hi hz hsize hby hzs hsz G hzG v n xs hs hown A m c news hx hr h1 hnG h63 hbytes hbase h
end
open Go.Shelf in
/-- slices.Clone, the spare cells told. -/
theorem clone_all {P : Program} {ρ : Go.Shelf.Ren} (L : Go.Proofs.SlLaysE0.n41 P ρ) (i0 : TypeInfo) (z : Value) (size bytes : Nat) (hi : P.info? (ρ.t 23) = some i0) (hz0 : i0.zero = some z) (hz1 : i0.size = size) (hz2 : i0.bytes = bytes) (hzs : z.cells.size = size) (hsz : 0 < size)
    (z23 : ∀ w, (Go.sizeOf (ρ.t 23)).run P w = .ok size w) (G : Nat → Value → Prop) (hzG : ∀ j u, z.cells[j]? = some u → G j u)
    (A : Addr) (n c : Nat) (news : List Value) (w : World) (hn : n ≤ maxLen) (hbig : n * bytes ≤ 140737488355328)
    (hr : Rd w size (some A) n news) (h1 : ∀ u ∈ news, u.oneCell' = true) (hnG : ∀ j u, news[j]? = some u → G (j % size) u) :
    Calls P (ρ.f 41) #[.slice (some A) n c] w fun e w' => ∃ v', e = .returned v' ∧ Own w' w.heap.size (ρ.t 23) size G v' n news ∧ v' ≠ .slice none 0 0 ∧ Below w.heap.size w w' := by
  have mixed := L.mixed; have t4 := L.t4; have a4 := L.a4; have z4 := L.z4; have v4 := L.v4; have t22 := L.t22; have a22 := L.a22; have z22 := L.z22; have v22 := L.v22
  have q22 : ∀ (w : World) (a : Option Addr) (n c n' c' : Nat), (binOp .eql (ρ.t 22) (.slice a n c) (.slice none n' c')).run P w = .ok (.bool a.isNone) w := fun w a n c n' c' => Lib.run_eql_slice_nil w _ _ a n c n' c' L.t22
  have u22 : ∀ w, Sem.run P (underlying (ρ.t 22)) w = .ok (TypeDesc.slice (ρ.t 23)) w := run_underlying t22
  have hb0 : Below w.heap.size w (w.alloc (.cells #[] (ρ.t 23))) := (Below.refl _ w).alloc (Nat.le_refl _) _
  have HR := Lib.hid (hr.later hb0)
  have HE := Lib.hid (Own.empty (e := ρ.t 23) (size := size) (G := G) w (Nat.le_refl w.heap.size))
  clear hr
  obtain ⟨_, _, FG⟩ := L.f41
  go_enter FG, SlBodyN.n41_ntmps ρ
  go_wp2_with (at_builtin; refine wpList_append_all _ rfl _ _ (ρ.t 22) rfl w.heap.size (ρ.t 23) i0 z size bytes t22 hi hz0 hz1 hz2 hzs hsz G hzG _ _ _ rfl HE.out (some A) n c news rfl HR.out h1 hnG ?qc4 ?qc5 ?qc6 ?_)
  case qc4 => rw [Nat.zero_add]; exact hn
  case qc5 => rw [Nat.zero_add]; exact hbig
  case qc6 => simp
  intro v' w1 hown hgrow hnil hat
  go_wp2
  go_ret
  refine ⟨v', rfl, by simpa using hown, ?_, ?_⟩
  · exact hnil
  · exact hb0.grown hgrow (by simp) (by intro k hk; simp [Value.ownBlock] at hk; omega)
end Go.Proofs.Yticfnngppcmidaa
