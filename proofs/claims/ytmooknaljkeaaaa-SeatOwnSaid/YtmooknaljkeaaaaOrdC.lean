/-
  Orders in memory; the walk of slices.Clone of orders.
-/
import Derived.Test.YtmooknaljkeaaaaOrdW
set_option linter.unusedVariables false
namespace Go.Proofs.Ytmooknaljkeaaaa
open Go.RowKit

def GO (_ : Nat) (u : Value) : Prop := ∃ n : Int, u = .int .i64 n
def ordZero : Value := .agg #[.int .i64 0, .int .i64 0, .int .i64 0, .int .i64 0, .int .i64 0, .int .i64 0]
theorem infoOrd : (Try.prog.info? 59).map (fun i => (i.zero, i.size, i.bytes)) = some (some ordZero, 6, 48) := by kernel_rfl
theorem ordZero_go : ∀ j u, ordZero.cells[j]? = some u → GO j u := by
  intro j u hu
  unfold ordZero at hu
  have hu : (#[Value.int .i64 0, .int .i64 0, .int .i64 0, .int .i64 0, .int .i64 0, .int .i64 0] : Array Value)[j]? = some u := hu
  match j, hu with
  | 0, hu => exact ⟨0, (Option.some.inj hu).symm⟩
  | 1, hu => exact ⟨0, (Option.some.inj hu).symm⟩
  | 2, hu => exact ⟨0, (Option.some.inj hu).symm⟩
  | 3, hu => exact ⟨0, (Option.some.inj hu).symm⟩
  | 4, hu => exact ⟨0, (Option.some.inj hu).symm⟩
  | 5, hu => exact ⟨0, (Option.some.inj hu).symm⟩
  | j + 6, hu => cases hu
theorem Ord.cells_len (o : Ord) : o.cells.length = 6 := rfl
theorem ordCells_len (l : List Ord) : (ordCells l).length = l.length * 6 := by
  unfold ordCells
  induction l with
  | nil => rfl
  | cons o r ih => rw [List.flatMap_cons, List.length_append, ih, Ord.cells_len, List.length_cons]; omega
theorem ordCells_cons (o : Ord) (l : List Ord) : ordCells (o :: l) = o.cells ++ ordCells l := rfl
theorem ordCells_app (a b : List Ord) : ordCells (a ++ b) = ordCells a ++ ordCells b := by unfold ordCells; rw [List.flatMap_append]
theorem ordCells_one (o : Ord) : ordCells [o] = o.cells := by unfold ordCells; simp
theorem ordCells_get (l : List Ord) (i j : Nat) (hi : i < l.length) (hj : j < 6) : (ordCells l)[i * 6 + j]? = l[i].cells[j]? := by
  induction l generalizing i with
  | nil => simp at hi
  | cons o r ih =>
    rw [ordCells_cons]
    cases i with
    | zero => rw [Nat.zero_mul, Nat.zero_add, List.getElem?_append_left (by rw [Ord.cells_len]; exact hj)]; rfl
    | succ i =>
      rw [List.getElem?_append_right (by rw [Ord.cells_len]; omega), Ord.cells_len, show (i + 1) * 6 + j - 6 = i * 6 + j from by omega, ih i (by simpa using hi)]
      rfl
theorem ord_int (o : Ord) : ∀ u ∈ o.cells, ∃ n : Int, u = .int .i64 n := by
  intro u hu
  unfold Ord.cells at hu
  simp only [List.mem_cons, List.not_mem_nil, or_false] at hu
  rcases hu with rfl | rfl | rfl | rfl | rfl | rfl <;> exact ⟨_, rfl⟩
theorem ordCells_int (l : List Ord) : ∀ u ∈ ordCells l, ∃ n : Int, u = .int .i64 n := by
  intro u hu
  unfold ordCells at hu
  obtain ⟨o, _, h⟩ := List.mem_flatMap.1 hu
  exact ord_int o u h
theorem ordCells_one' (l : List Ord) : ∀ u ∈ ordCells l, u.oneCell' = true := by
  intro u hu
  obtain ⟨n, rfl⟩ := ordCells_int l u hu
  rfl
theorem ordCells_go (l : List Ord) : ∀ j u, (ordCells l)[j]? = some u → GO (j % 6) u := fun j u hu => ordCells_int l u (List.mem_of_getElem? hu)
theorem ordCells_take (l : List Ord) (k : Nat) : (ordCells l).take (k * 6) = ordCells (l.take k) := by
  induction l generalizing k with
  | nil => simp [ordCells]
  | cons o r ih =>
    cases k with
    | zero => simp [ordCells]
    | succ k =>
      rw [List.take_succ_cons, ordCells_cons, ordCells_cons, List.take_append, Ord.cells_len, List.take_of_length_le (by rw [Ord.cells_len]; omega), show (k + 1) * 6 - 6 = k * 6 from by omega, ih]
theorem ordCells_drop (l : List Ord) (k : Nat) : (ordCells l).drop (k * 6) = ordCells (l.drop k) := by
  induction l generalizing k with
  | nil => simp [ordCells]
  | cons o r ih =>
    cases k with
    | zero => simp
    | succ k =>
      rw [List.drop_succ_cons, ordCells_cons, List.drop_append, Ord.cells_len, List.drop_of_length_le (by rw [Ord.cells_len]; omega), show (k + 1) * 6 - 6 = k * 6 from by omega, ih, List.nil_append]
/-- A slice that reads as orders. -/
structure Ords (w : World) (A : Option Addr) (n c : Nat) (l : List Ord) : Prop where
  len : l.length = n
  cap : n ≤ c
  big : n ≤ 2932031007317
  top : c ≤ 9223372036854775807
  nil : A = none → n = 0 ∧ c = 0
  rd : Rd w 6 A n (ordCells l)
theorem Ords.later {w w' : World} {A : Option Addr} {n c : Nat} {l : List Ord} (h : Ords w A n c l) (hb : Below w.heap.size w w') : Ords w' A n c l := ⟨h.1, h.2, h.3, h.4, h.5, h.rd.later hb⟩
theorem Ords.drewN {w : World} {A : Option Addr} {n c : Nat} {l : List Ord} (h : Ords w A n c l) (q : Nat) : Ords (w.drewN q) A n c l := ⟨h.1, h.2, h.3, h.4, h.5, h.rd⟩
theorem Rd.of_block {w w' : World} {size n : Nat} {A : Option Addr} {xs : List Value} (h : Rd w size A n xs) (hb : ∀ a, A = some a → w'.heap[a.block]? = w.heap[a.block]?) : Rd w' size A n xs :=
  ⟨h.1, fun h0 => by
    obtain ⟨b, o, e, hc⟩ := h.2 h0
    refine ⟨b, o, e, fun j u hu => ?_⟩
    have h1 := hc j u hu
    have h2 := hb _ e
    simp only [World.cell?] at h1 ⊢
    rw [h2]
    exact h1⟩
theorem Ords.of_block {w w' : World} {A : Option Addr} {n c : Nat} {l : List Ord} (h : Ords w A n c l) (hb : ∀ a, A = some a → w'.heap[a.block]? = w.heap[a.block]?) : Ords w' A n c l := ⟨h.1, h.2, h.3, h.4, h.5, h.rd.of_block hb⟩
theorem Ords.at {w : World} {A : Option Addr} {n c : Nat} {l : List Ord} (h : Ords w A n c l) (h0 : 0 < n) : ∃ b o, A = some ⟨b, o, none⟩ ∧ ∀ i (hi : i < l.length), ∀ j, j < 6 → w.cell? ⟨b, o + (i * 6 + j), none⟩ = l[i].cells[j]? := by
  obtain ⟨b, o, rfl, hc⟩ := h.rd.2 h0
  refine ⟨b, o, rfl, fun i hi j hj => ?_⟩
  have hg := ordCells_get l i j hi hj
  have hsome : ∃ u, l[i].cells[j]? = some u := ⟨_, List.getElem?_eq_getElem (by rw [Ord.cells_len]; exact hj)⟩
  obtain ⟨u, hu⟩ := hsome
  rw [hu] at hg ⊢
  exact hc _ _ hg
theorem Ords.six {w : World} {b o n c : Nat} {l : List Ord} (h : ∀ i (hi : i < l.length), ∀ j, j < 6 → w.cell? ⟨b, o + (i * 6 + j), none⟩ = l[i].cells[j]?) (i : Nat) (hi : i < l.length) :
    w.cell? ⟨b, o + i * 6, none⟩ = some (.int .i64 l[i].by_) ∧ w.cell? ⟨b, o + i * 6 + 1, none⟩ = some (.int .i64 l[i].kind) ∧ w.cell? ⟨b, o + i * 6 + 2, none⟩ = some (.int .i64 l[i].who) ∧
    w.cell? ⟨b, o + i * 6 + 3, none⟩ = some (.int .i64 l[i].x) ∧ w.cell? ⟨b, o + i * 6 + 4, none⟩ = some (.int .i64 l[i].y) ∧ w.cell? ⟨b, o + i * 6 + 5, none⟩ = some (.int .i64 l[i].what) :=
  ⟨h i hi 0 (by decide), h i hi 1 (by decide), h i hi 2 (by decide), h i hi 3 (by decide), h i hi 4 (by decide), h i hi 5 (by decide)⟩
def CloneO (w : World) (A : Option Addr) (n : Nat) (l : List Ord) (e : Ending) (w' : World) : Prop :=
  ∃ A' c', e = .returned (.slice A' n c') ∧ Own w' w.heap.size 59 6 GO (.slice A' n c') n (ordCells l) ∧ n ≤ c' ∧ (A' = none ↔ A = none) ∧ Below w.heap.size w w'
set_option maxRecDepth 100000 in
theorem clone_o {w : World} {A : Option Addr} {n c : Nat} {l : List Ord} (h : Ords w A n c l) : Calls Try.prog 36 #[.slice A n c] w (CloneO w A n l) := by
  obtain ⟨hl, hnc, hbig, hc, hz, hr⟩ := h
  obtain ⟨i0, hi, hz0, hz1, hz2⟩ := info_parts infoOrd
  have qnil : ∀ (w : World) (a : Option Addr) (n c n' c' : Nat), (binOp .eql 45 (.slice a n c) (.slice none n' c')).run Try.prog w = .ok (.bool a.isNone) w := fun w a n c n' c' => Lib.run_eql_slice_nil w _ _ a n c n' c' Try.underlying45
  cases A with
  | none =>
    obtain ⟨rfl, rfl⟩ := hz rfl
    obtain rfl : l = [] := List.eq_nil_of_length_eq_zero hl
    go_enter Try.func36, Try.ntmps36
    go_wp2_with fail
    go_ret
    exact ⟨none, 0, rfl, Own.nil _ _ _ _ _, Nat.le_refl _, Iff.rfl, Below.refl _ _⟩
  | some a =>
    have hb0 : Below w.heap.size w (w.alloc (.cells #[] 59)) := (Below.refl _ w).alloc (Nat.le_refl _) _
    have HR := Lib.hid (hr.later hb0)
    have HE := Lib.hid (Own.empty (e := 59) (size := 6) (G := GO) w (Nat.le_refl w.heap.size))
    clear hr hz hl
    go_enter Try.func36, Try.ntmps36
    go_wp2_with (at_builtin; refine wpList_append_all _ rfl _ _ 45 rfl w.heap.size 59 i0 ordZero 6 48 Try.underlying45 hi hz0 hz1 hz2 rfl (by decide) GO ordZero_go _ _ _ rfl HE.out (some a) n c (ordCells l) rfl HR.out (ordCells_one' l) (ordCells_go l) ?qc4 ?qc5 ?qc6 ?_)
    case qc4 => unfold maxLen; omega
    case qc5 => omega
    case qc6 => simp
    intro v' w1 hown hgrow hnil hat
    have hb1 := hb0.grown hgrow (by simp) (by intro k hk; simp [Value.ownBlock] at hk; omega)
    obtain ⟨A1, c1, rfl, hle, _, _, _, hnn⟩ := hown.shape
    have HO := Lib.hid hown
    have hA1 : A1 ≠ none := by
      intro h
      subst h
      exact hnil (hnn rfl)
    have HA1 := Lib.hid hA1
    clear hgrow hnil hat hown hA1 hnn
    go_wp2_with fail
    go_ret
    exact ⟨A1, c1, rfl, HO.out, hle, ⟨fun h => absurd h HA1.out, fun h => by cases h⟩, hb1⟩
end Go.Proofs.Ytmooknaljkeaaaa
