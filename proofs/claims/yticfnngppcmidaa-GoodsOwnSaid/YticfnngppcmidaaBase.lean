/-
  What all walks of this claim share: what a slice of integers that came in is; small lemmas on worlds and callees.
-/
import Derived.Test.YticfnngppcmidaaBv
import Derived.WalkKit
import Derived.Lib.Hide
import Derived.WalkSpells
import Derived.WalkLawsBesides
import Derived.Deep.QuietTactic
import Derived.Deep.DeepFit
import Derived.BigQuiet
import Derived.BigRegion
import Derived.Deep.RegionHeld3
import Derived.Laws.CopyOwn
import Derived.LoopN
import Derived.Laws.IdiomStrings
import Derived.Lib.Strings
open Go.RowKit
namespace Go.Proofs.Yticfnngppcmidaa
/-- A slice of integers that came in: nil, or a row of cells that hold the numbers, up to the capacity. -/
def IsRow (k : IntKind) (w : World) (a : Option Addr) (len cap : Nat) (zs : List Int) : Prop :=
  (a = none ∧ len = 0 ∧ cap = 0 ∧ zs = []) ∨
  ∃ x, a = some x ∧ len ≤ cap ∧ cap ≤ maxLen ∧ zs.length = cap ∧ (∀ i, i < zs.length → w.cell? (x.add i) = some (.int k (zs.getD i 0))) ∧ ∀ n ∈ zs, (Lit.int k n).wf = true
theorem add0 (b j : Nat) : (⟨b, 0, none⟩ : Addr).add j = ⟨b, j, none⟩ := by
  unfold Addr.add
  split <;> simp_all
theorem bytes_ext {a b : ByteArray} (h : a.data.toList = b.data.toList) : a = b := ByteArray.ext (Array.toList_inj.1 h)
theorem bytes_eq (a b : ByteArray) : (a.toList == b.toList) = decide (a = b) := by
  rw [ByteArray.toList_eq, ByteArray.toList_eq]
  by_cases h : a = b
  · subst h; simp
  · have h1 : ¬ a.data = b.data := fun e => h (ByteArray.ext e)
    simp [h, h1]
theorem bytes_true {a b : ByteArray} (h : a = b) : (a.toList == b.toList) = true := by rw [bytes_eq]; simp [h]
theorem bytes_false {a b : ByteArray} (h : ¬ a = b) : (a.toList == b.toList) = false := by rw [bytes_eq]; simp [h]
theorem ret_true {a : Bool} (h : a = true) : Ending.returned (.bool a) = .returned (.bool true) := by rw [h]
theorem addAt (b off j : Nat) : (⟨b, off, none⟩ : Addr).add j = ⟨b, off + j, none⟩ := by
  unfold Addr.add
  split <;> simp_all
theorem ownsRow_mono {w : World} {base base' : Nat} {e : TypeId} {size : Nat} {v : Value} {n : Nat} {xs : List Value} (h : w.ownsRow base e size v n xs) (hb : base' ≤ base) : w.ownsRow base' e size v n xs := by
  obtain ⟨h1, h2⟩ := h
  refine ⟨h1, ?_⟩
  rcases h2 with h2 | ⟨g, cap, cur, hv, hg, r⟩
  · exact .inl h2
  · exact .inr ⟨g, cap, cur, hv, Nat.le_trans hb hg, r⟩
/-- What is owned stays owned while nothing below the heap's size is turned. -/
theorem ownsRow_later {w w' : World} {base : Nat} {e : TypeId} {size : Nat} {v : Value} {n : Nat} {xs : List Value} (h : w.ownsRow base e size v n xs) (hb : Below w.heap.size w w') : w'.ownsRow base e size v n xs := by
  obtain ⟨h1, h2⟩ := h
  refine ⟨h1, ?_⟩
  rcases h2 with h2 | ⟨g, cap, cur, hv, hg, hh, r⟩
  · exact .inl h2
  · exact .inr ⟨g, cap, cur, hv, hg, by rw [hb.block g (Array.getElem?_eq_some_iff.1 hh).1]; exact hh, r⟩
theorem cell_later {w w' : World} (hb : Below w.heap.size w w') {a : Addr} {v : Value} (h : w.cell? a = some v) : w'.cell? a = some v := by
  rw [hb.cell (World.block_lt_of_cell? w a h)]; exact h
theorem cell_below {B : Nat} {w w' : World} (hb : Below B w w') {a : Addr} {v : Value} (h : w.cell? a = some v) (ha : a.block < B) : w'.cell? a = some v := by
  rw [hb.cell ha]; exact h
/-- A block that is known whole. -/
def Blk (w : World) (g : Nat) (cur : List Value) (e : TypeId) (fr : Nat × Nat) : Prop := w.heap[g]? = some (.cells cur.toArray e fr)
theorem Blk.lt {w : World} {g : Nat} {cur : List Value} {e : TypeId} {fr : Nat × Nat} (h : Blk w g cur e fr) : g < w.heap.size := (Array.getElem?_eq_some_iff.1 h).1
theorem Blk.cell {w : World} {g : Nat} {cur : List Value} {e : TypeId} {fr : Nat × Nat} (h : Blk w g cur e fr) (j : Nat) : w.cell? ⟨g, j, none⟩ = cur[j]? := by
  rw [cell_of_row w g j _ e fr h]; simp
theorem Blk.free {w : World} {g : Nat} {cur : List Value} {e : TypeId} {fr : Nat × Nat} (h : Blk w g cur e fr) (j : Nat) (hj : j < fr.1 ∨ fr.2 ≤ j) : w.frozen? ⟨g, j, none⟩ = false := by
  unfold Blk at h
  obtain ⟨lo, hi⟩ := fr
  simp only [World.frozen?, h]
  simp only at hj
  simp
  omega
theorem Blk.set {w : World} {g : Nat} {cur : List Value} {e : TypeId} {fr : Nat × Nat} (h : Blk w g cur e fr) (j : Nat) (v : Value) : Blk (w.setCell ⟨g, j, none⟩ v) g (cur.set j v) e fr := by
  unfold Blk at *
  simp only [World.setCell, Array.getElem?_modify, h]
  simp
theorem Blk.later {w w' : World} {g : Nat} {cur : List Value} {e : TypeId} {fr : Nat × Nat} (h : Blk w g cur e fr) (hb : Below w.heap.size w w') : Blk w' g cur e fr := by
  have hl := h.lt
  unfold Blk at *
  rw [hb.block g hl]; exact h
theorem Blk.drew {w : World} {g : Nat} {cur : List Value} {e : TypeId} {fr : Nat × Nat} (h : Blk w g cur e fr) : Blk w.drew g cur e fr := h
theorem Blk.drewN {w : World} {g : Nat} {cur : List Value} {e : TypeId} {fr : Nat × Nat} (h : Blk w g cur e fr) (n : Nat) : Blk (w.drewN n) g cur e fr := h
theorem Blk.new (w : World) (cur : List Value) (e : TypeId) (fr : Nat × Nat) : Blk (w.alloc (.cells cur.toArray e fr)) w.heap.size cur e fr := heap_alloc_new w _
theorem Blk.setRow {w : World} {g : Nat} {cur : List Value} {e : TypeId} {fr : Nat × Nat} (h : Blk w g cur e fr) (new : List Value) : Blk (w.setRow g new.toArray) g new e fr := setRow_heap w g _ _ e fr h
theorem below_setRow {B : Nat} {a w : World} (h : Below B a w) {g : Nat} (hg : B ≤ g) (cs : Array Value) : Below B a (w.setRow g cs) :=
  h.trans ⟨rfl, rfl, rfl, by simp, fun k hk => by
    unfold World.setRow
    simp only [Array.getElem?_modify]
    rw [if_neg (by omega)]⟩
theorem Blk.other {w : World} {g g' : Nat} {cur : List Value} {e : TypeId} {fr : Nat × Nat} (h : Blk w g cur e fr) (hg : g ≠ g') (j : Nat) (v : Value) : Blk (w.setCell ⟨g', j, none⟩ v) g cur e fr := by
  unfold Blk at *
  rw [heap_setCell_other _ _ _ _ hg]; exact h
theorem row_at {k : IntKind} {w : World} {a : Option Addr} {n c : Nat} {z : List Int} (h : IsRow k w a n c z) (h0 : 0 < n) :
    ∃ b off, a = some ⟨b, off, none⟩ ∧ ∀ i, i < n → w.cell? ⟨b, off + i, none⟩ = some (.int k (z.getD i 0)) ∧ (Lit.int k (z.getD i 0)).wf = true := by
  rcases h with ⟨rfl, rfl, rfl, rfl⟩ | ⟨x, rfl, hl, hm, hz, hcell, hwf⟩
  · exact absurd h0 (by omega)
  · obtain ⟨b, off, spot⟩ := x
    have hc := hcell 0 (by omega)
    have hspot : spot = none := by simpa [Addr.add] using World.cell?_spot hc
    subst hspot
    refine ⟨b, off, rfl, fun i hi => ?_⟩
    have h1 := hcell i (by omega)
    rw [addAt] at h1
    have hiz : i < z.length := by omega
    exact ⟨h1, hwf _ (by simp [hiz])⟩
theorem row_len {k : IntKind} {w : World} {a : Option Addr} {n c : Nat} {z : List Int} (h : IsRow k w a n c z) : n ≤ c ∧ z.length = c ∧ n ≤ 9223372036854775807 := by
  rcases h with ⟨rfl, rfl, rfl, rfl⟩ | ⟨x, rfl, hl, hm, hz, _⟩
  · exact ⟨Nat.le_refl _, rfl, by decide⟩
  · exact ⟨hl, hz, by unfold maxLen at hm; omega⟩
/-- A callee that only computes, met in a region that draws its order. -/
theorem quiet_of {P : Program} {f : FuncId} {args : Array Value} {w : World} {n : Nat} {v : Value}
    (h : Calls P f args (w.drewN n) fun e w' => e = .returned v ∧ w.drewN n = w') : Calls P f args (w.drewN n) fun e w'' => e = .returned v ∧ ∃ m, w'' = w.drewN m :=
  h.mono fun _ _ ⟨he, hm⟩ => ⟨he, n, hm.symm⟩
theorem below_drewN {B : Nat} {a w : World} (h : Below B a w) (n : Nat) : Below B a (w.drewN n) := ⟨h.os, h.tape, h.output, h.size, h.block⟩
end Go.Proofs.Yticfnngppcmidaa
