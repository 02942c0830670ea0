/-
  A field turned: plain law.
-/
import Derived.Test.YtkijhejjnlmbmaaFldT
import Derived.Test.YtkijhejjnlmbmaaFnc
set_option linter.unusedVariables false
set_option linter.unusedSimpArgs false
namespace Go.Proofs.Ytkijhejjnlmbmaa
open Go.RowKit

def grid {α : Type} (g : Nat → Nat → α) (k n : Nat) : List α := (List.range k).flatMap fun y => (List.range n).map (g y)
theorem grid_succ {α : Type} (g : Nat → Nat → α) (k n : Nat) : grid g (k + 1) n = grid g k n ++ (List.range n).map (g k) := by unfold grid; rw [List.range_succ, List.flatMap_append]; simp
theorem grid_len {α : Type} (g : Nat → Nat → α) (n : Nat) : ∀ k, (grid g k n).length = k * n
  | 0 => by simp [grid]
  | k + 1 => by rw [grid_succ, List.length_append, grid_len g n k, List.length_map, List.length_range, Nat.succ_mul]
theorem grid_get {α : Type} (g : Nat → Nat → α) (n : Nat) : ∀ k y x, y < k → x < n → (grid g k n)[y * n + x]? = some (g y x)
  | 0, _, _, h, _ => absurd h (Nat.not_lt_zero _)
  | k + 1, y, x, hy, hx => by
    rw [grid_succ]
    by_cases e : y < k
    · have h1 : y * n + x < k * n := by
        have := Nat.mul_le_mul_right n (show y + 1 ≤ k by omega)
        rw [Nat.succ_mul] at this; omega
      rw [List.getElem?_append_left (by rw [grid_len]; exact h1)]
      exact grid_get g n k y x e hx
    · have : y = k := by omega
      subst this
      rw [List.getElem?_append_right (by rw [grid_len]; omega), grid_len, show y * n + x - y * n = x by omega]
      simp [hx]
theorem grid_ext {α : Type} {l : List α} {g : Nat → Nat → α} {k n : Nat} (hl : l.length = k * n) (h : ∀ y x, y < k → x < n → l[y * n + x]? = some (g y x)) : l = grid g k n := by
  refine List.ext_getElem? fun i => ?_
  by_cases hi : i < k * n
  · have hn : 0 < n := by
      rcases Nat.eq_zero_or_pos n with h0 | h0
      · subst h0; simp at hi
      · exact h0
    have e : i = i / n * n + i % n := by rw [Nat.mul_comm]; exact (Nat.div_add_mod i n).symm
    have h1 : i / n < k := by rw [Nat.div_lt_iff_lt_mul hn]; exact hi
    have h2 : i % n < n := Nat.mod_lt _ hn
    rw [e, h _ _ h1 h2, grid_get g n k _ _ h1 h2]
  · rw [List.getElem?_eq_none (by omega), List.getElem?_eq_none (by rw [grid_len]; omega)]
theorem flat_cons {α β : Type} (h : β → α) (k : β → List α) : ∀ l : List β, (l.flatMap fun b => h b :: k b).Perm (l.map h ++ l.flatMap k)
  | [] => List.Perm.refl _
  | b :: l => by
    rw [List.flatMap_cons, List.map_cons, List.flatMap_cons, List.cons_append, List.cons_append]
    refine List.Perm.cons _ ?_
    refine ((flat_cons h k l).append_left (k b)).trans ?_
    rw [← List.append_assoc, ← List.append_assoc]
    exact List.perm_append_comm.append_right _
theorem flat_swap {α β γ : Type} (g : α → β → γ) : ∀ (l : List α) (m : List β), (l.flatMap fun a => m.map (g a)).Perm (m.flatMap fun b => l.map fun a => g a b)
  | [], m => by
    rw [List.flatMap_nil]
    have : (m.flatMap fun b => ([] : List α).map fun a => g a b) = [] := by induction m <;> simp_all
    rw [this]
  | a :: l, m => by
    rw [List.flatMap_cons]
    refine ((flat_swap g l m).append_left _).trans ?_
    exact (flat_cons (g a) (fun b => l.map fun a => g a b) m).symm
theorem range_rev (n : Nat) : ((List.range n).map fun x => n - 1 - x).Perm (List.range n) := by
  have : ((List.range n).map fun x => n - 1 - x) = (List.range n).reverse := by
    refine List.ext_getElem (by simp) fun i h1 h2 => ?_
    simp
  rw [this]; exact List.reverse_perm _
theorem grid_rev {α : Type} (g : Nat → Nat → α) (k n : Nat) : (grid (fun y x => g (n - 1 - x) y) k n).Perm (grid g n k) := by
  unfold grid
  refine (flat_swap (fun y x => g (n - 1 - x) y) (List.range k) (List.range n)).trans ?_
  have e : ((List.range n).flatMap fun x => (List.range k).map fun y => g (n - 1 - x) y) = (((List.range n).map fun x => n - 1 - x).flatMap fun r => (List.range k).map (g r)) := by rw [List.flatMap_map]
  rw [e]
  exact (range_rev n).flatMap_right _
/-! A field as a grid. -/
def Fld.pt (f : Fld) (y x : Nat) : Int := f.places.getD (y * f.wide.toNat + x) 0
theorem fld_grid {f : Fld} (h : f.chk = 0) : f.places = grid f.pt f.high.toNat f.wide.toNat := by
  have hl := Fld.mul_len h
  refine grid_ext hl fun y x hy hx => ?_
  have : y * f.wide.toNat + x < f.places.length := by
    have := Nat.mul_le_mul_right f.wide.toNat (show y + 1 ≤ f.high.toNat by omega)
    rw [Nat.succ_mul] at this; omega
  unfold Fld.pt
  rw [List.getElem?_eq_getElem this, getD_dd this]
theorem turn_grid {f : Fld} (h : f.chk = 0) : (turnF f).places = grid (fun y x => f.pt (f.high.toNat - 1 - x) y) f.wide.toNat f.high.toNat := by
  obtain ⟨y1, y2, y3, y4, y5, y6⟩ := Fld.good h
  rw [turn_ok h]
  refine grid_ext (turnTo_len f _) fun y x hy hx => ?_
  have e := grid_get (turnAt f) f.high.toNat f.wide.toNat y x hy hx
  have e2 : turnAt f y x = f.pt (f.high.toNat - 1 - x) y := by
    unfold turnAt Fld.pt
    congr 1
    have h1 : f.high - 1 - (x : Int) = ((f.high.toNat - 1 - x : Nat) : Int) := by omega
    have h2 : f.wide = ((f.wide.toNat : Nat) : Int) := by omega
    rw [h1]
    conv => lhs; rw [h2]
    rw [← Int.natCast_mul, ← Int.natCast_add, Int.toNat_natCast]
  rw [← e2]; exact e
theorem turn_perm {f : Fld} (h : f.chk = 0) : (turnF f).places.Perm f.places := by
  rw [turn_grid h]
  refine (grid_rev f.pt f.wide.toNat f.high.toNat).trans ?_
  rw [← fld_grid h]
theorem turn_dims {f : Fld} (h : f.chk = 0) : (turnF f).wide = f.high ∧ (turnF f).high = f.wide := by rw [turn_ok h]; exact ⟨rfl, rfl⟩
theorem turn_chk {f : Fld} (h : f.chk = 0) : (turnF f).chk = 0 := by
  obtain ⟨y1, y2, y3, y4, y5, y6⟩ := Fld.good h
  obtain ⟨d1, d2⟩ := turn_dims h
  have hp := turn_perm h
  unfold Fld.chk
  rw [d1, d2, inB_mk y3 y4, inB_mk y1 y2, hp.length_eq, y5, Int.mul_comm f.high f.wide]
  have : (turnF f).places.all Fld.placeOk = true := List.all_eq_true.2 fun p hp' => by
    have := y6 p (hp.mem_iff.1 hp')
    exact inB_mk this.1 this.2
  rw [this]; simp
theorem turn_pt {f : Fld} (h : f.chk = 0) {y x : Nat} (hy : y < f.wide.toNat) (hx : x < f.high.toNat) : (turnF f).pt y x = f.pt (f.high.toNat - 1 - x) y := by
  have e := grid_get (fun y x => f.pt (f.high.toNat - 1 - x) y) f.high.toNat f.wide.toNat y x hy hx
  unfold Fld.pt
  rw [(turn_dims h).1, turn_grid h, List.getD_eq_getElem?_getD, e]; rfl
theorem turn2_pt {f : Fld} (h : f.chk = 0) {y x : Nat} (hy : y < f.high.toNat) (hx : x < f.wide.toNat) : (turnF (turnF f)).pt y x = f.pt (f.high.toNat - 1 - y) (f.wide.toNat - 1 - x) := by
  have h2 := turn_chk h
  obtain ⟨d1, d2⟩ := turn_dims h
  rw [turn_pt h2 (by rw [d1]; exact hy) (by rw [d2]; exact hx), turn_pt h (by rw [d2]; omega) hy, d2]
theorem turn4 {f : Fld} (h : f.chk = 0) : turnF (turnF (turnF (turnF f))) = f := by
  have h1 := turn_chk h
  have h2 := turn_chk h1
  have h3 := turn_chk h2
  have h4 := turn_chk h3
  obtain ⟨a1, b1⟩ := turn_dims h
  obtain ⟨a2, b2⟩ := turn_dims h1
  obtain ⟨a3, b3⟩ := turn_dims h2
  obtain ⟨a4, b4⟩ := turn_dims h3
  have hw : (turnF (turnF (turnF (turnF f)))).wide = f.wide := by rw [a4, b3, a2, b1]
  have hh : (turnF (turnF (turnF (turnF f)))).high = f.high := by rw [b4, a3, b2, a1]
  have hp : (turnF (turnF (turnF (turnF f)))).places = f.places := by
    rw [fld_grid h4, fld_grid h, hw, hh]
    refine (grid_ext (by rw [grid_len]) fun y x hy hx => ?_)
    rw [grid_get _ _ _ _ _ hy hx]
    have e1 : (turnF (turnF f)).high = f.high := by rw [b2, a1]
    have e2 : (turnF (turnF f)).wide = f.wide := by rw [a2, b1]
    rw [turn2_pt h2 (by rw [e1]; exact hy) (by rw [e2]; exact hx), e1, e2, turn2_pt h (by omega) (by omega)]
    congr 2 <;> omega
  have e (a b : Fld) (h1 : a.wide = b.wide) (h2 : a.high = b.high) (h3 : a.places = b.places) : a = b := by cases a; cases b; simp_all
  exact e _ _ hw hh hp
theorem place_pt {f : Fld} (h : f.chk = 0) {c : Cel} (h1 : 0 ≤ c.x) (h2 : 0 ≤ c.y) : f.place c = f.pt c.y.toNat c.x.toNat := by
  obtain ⟨y1, y2, y3, y4, y5, y6⟩ := Fld.good h
  unfold Fld.place Fld.pt
  congr 1
  have e1 : c.y = ((c.y.toNat : Nat) : Int) := by omega
  have e2 : c.x = ((c.x.toNat : Nat) : Int) := by omega
  have e3 : f.wide = ((f.wide.toNat : Nat) : Int) := by omega
  conv => lhs; rw [e1, e2, e3]
  rw [← Int.natCast_mul, ← Int.natCast_add, Int.toNat_natCast]
theorem turn_corner {f : Fld} (h : f.chk = 0) : f.atE ⟨0, 0⟩ = 0 ∧ (turnF f).atE ⟨(turnF f).wide - 1, 0⟩ = 0 ∧ f.atV ⟨0, 0⟩ = (turnF f).atV ⟨(turnF f).wide - 1, 0⟩ := by
  obtain ⟨y1, y2, y3, y4, y5, y6⟩ := Fld.good h
  have h1 := turn_chk h
  obtain ⟨d1, d2⟩ := turn_dims h
  have i1 : f.isIn ⟨0, 0⟩ = true := Fld.isIn_mk (by show (0 : Int) ≤ 0; omega) (by show (0 : Int) < f.wide; omega) (by show (0 : Int) ≤ 0; omega) (by show (0 : Int) < f.high; omega)
  have i2 : (turnF f).isIn ⟨(turnF f).wide - 1, 0⟩ = true := Fld.isIn_mk (by show 0 ≤ (turnF f).wide - 1; omega) (by show (turnF f).wide - 1 < (turnF f).wide; omega) (by show (0 : Int) ≤ 0; omega) (by show (0 : Int) < (turnF f).high; omega)
  obtain ⟨a1, a2⟩ := Fld.at_in h i1
  obtain ⟨b1, b2⟩ := Fld.at_in h1 i2
  refine ⟨a1, b1, ?_⟩
  rw [a2, b2, place_pt h (by show (0 : Int) ≤ 0; omega) (by show (0 : Int) ≤ 0; omega), place_pt h1 (by show 0 ≤ (turnF f).wide - 1; omega) (by show (0 : Int) ≤ 0; omega)]
  show f.pt 0 0 = (turnF f).pt 0 ((turnF f).wide - 1).toNat
  rw [d1, turn_pt h (by omega) (by omega)]
  congr 1; omega
end Go.Proofs.Ytkijhejjnlmbmaa
