/-
  What is seen: plain law.
-/
import Derived.Test.YtkijhejjnlmbmaaSigL
set_option linter.unusedVariables false
set_option linter.unusedSimpArgs false
namespace Go.Proofs.Ytkijhejjnlmbmaa
open Go.RowKit

theorem Fld.opens (w : World) (cs : List Value) (h : Wd.fsh.Ok w cs) : ∃ (f : Fld) (A : Option Addr) (c : Nat), cs = [.int .i64 f.wide, .int .i64 f.high, .slice A f.places.length c] ∧ repI.SHas 8 w A c f.places ∧ okI f.wide ∧ okI f.high := by
  obtain ⟨_, _, rfl, _, _, ⟨x0, rfl, k0⟩, _, _, rfl, _, _, ⟨x1, rfl, k1⟩, _, _, rfl, _, _, hP, rfl⟩ := h
  obtain ⟨aP, cP, lP, rfl, HP⟩ := Rep.opens_slice (R := repI) repI_opens rfl (by decide) hP
  exact ⟨⟨x0, x1, lP⟩, aP, cP, rfl, HP, k0, k1⟩
theorem Cel.opens_v (w : World) (cs : List Value) (h : Cel.sh.Ok w cs) : ∃ a : Cel, cs = [.int .i64 a.x, .int .i64 a.y] := by
  obtain ⟨a, ha⟩ := Cel.opens w cs h
  exact ⟨a, And.left (show cs = a.cells ∧ a.ok from ha)⟩
theorem atE_two (f : Fld) (a b : Cel) (ha : f.atE a ≠ 0) (hb : f.atE b ≠ 0) : f.atE a = f.atE b := by
  unfold Fld.atE at *
  split at ha
  · rename_i h; rw [if_pos h, if_pos h]
  · rename_i h
    rw [if_neg h] at hb ⊢
    rw [if_neg h]
    split at ha
    · exact absurd rfl ha
    · split at hb
      · exact absurd rfl hb
      · rename_i h1 h2; rw [if_neg h1, if_neg h2]
theorem seesE_sym (f : Fld) (a b : Cel) : seesE f a b = seesE f b a := by
  unfold seesE
  split
  · split
    · exact atE_two f a b ‹_› ‹_›
    · rfl
  · split
    · rfl
    · rename_i h1 h2
      have h1 : f.atE a = 0 := by simpa using h1
      have h2 : f.atE b = 0 := by simpa using h2
      rw [h1, h2]
theorem seesV_sym (f : Fld) (a b : Cel) : seesV f a b = seesV f b a := by unfold seesV; rw [seesE_sym f a b, Bool.or_comm]
theorem seesV_no {f : Fld} {a b : Cel} (h : seesE f a b ≠ 0) : seesV f a b = false := by unfold seesV; rw [if_pos h]
theorem seesE_ok {f : Fld} {a b : Cel} (h : seesE f a b = 0) : f.atE a = 0 ∧ f.atE b = 0 := by
  unfold seesE at h
  split at h
  · contradiction
  · rename_i h1; exact ⟨by simpa using h1, h⟩
theorem seesE_mk {f : Fld} {a b : Cel} (h : f.atE a = 0) (h2 : f.atE b = 0) : seesE f a b = 0 := by unfold seesE; rw [if_neg (by simpa using h)]; exact h2
theorem seesV_ok {f : Fld} {a b : Cel} (h : seesE f a b = 0) : seesV f a b = seenB f a b := by unfold seesV; rw [if_neg (by simpa using h)]; rfl
theorem bare_near {f : Fld} {a b : Cel} (h : far a b ≤ 1) : bareC f a b = true := by
  refine bareC_few ?_
  unfold lineC; rw [pts_len]
  have := (far_bd a b)
  omega
theorem both_no {f : Fld} {a b : Cel} (h : (seesE f a b != 0 || seesE f b a != 0) = true) : (((seesE f a b == seesE f b a) && (!seesV f a b)) && (!seesV f b a)) = true := by
  have hne : seesE f a b ≠ 0 := by
    rw [← seesE_sym f a b, Bool.or_self] at h
    simpa using h
  rw [← seesE_sym f a b, seesV_no hne, seesV_no (by rw [← seesE_sym f a b]; exact hne)]
  simp
theorem both_yes {f : Fld} {a b : Cel} (h : seesE f a b = 0) : ((!decide (max (max (max (a.x - b.x) (b.x - a.x)) (a.y - b.y)) (b.y - a.y) ≤ 1)) || seesV f a b) = true := by
  rw [Bool.or_eq_true]
  by_cases hn : max (max (max (a.x - b.x) (b.x - a.x)) (a.y - b.y)) (b.y - a.y) ≤ 1
  · refine .inr ?_
    rw [seesV_ok h]
    unfold seenB
    rw [bare_near (f := f) (a := a) (b := b) (by
      have s1 := sz_bd (b.x - a.x)
      have s2 := sz_bd (b.y - a.y)
      unfold far
      omega)]
    rfl
  · exact .inl (by rw [decide_eq_false hn]; rfl)
/-! All that is near enough -/
theorem flatMap_const {α β : Type} (g : α → List β) (m : Nat) : ∀ l : List α, (∀ x ∈ l, (g x).length = m) → (l.flatMap g).length = l.length * m
  | [], _ => by simp
  | x :: l, h => by
    have ih := flatMap_const g m l fun y hy => h y (List.mem_cons_of_mem _ hy)
    rw [List.flatMap_cons, List.length_append, ih, h x List.mem_cons_self, List.length_cons, Nat.succ_mul]; omega
theorem seen_len_all {f : Fld} {c : Cel} {r : Int} (h : ∀ n, seenB f c n = true) (k : Nat) : (seenTo f c r k).length = k * seenW f c r := by
  unfold seenTo
  rw [flatMap_const _ (seenW f c r), List.length_range]
  intro i _
  unfold seenRow
  rw [List.filter_eq_self.2 fun n _ => h n, List.length_map, List.length_range]
theorem place_mem {f : Fld} {c : Cel} (hc : f.chk = 0) (hi : f.isIn c = true) : f.place c ∈ f.places := by
  obtain ⟨h1, h2, _⟩ := Fld.idx hc hi
  unfold Fld.place
  rw [List.getD_eq_getElem?_getD, List.getElem?_eq_getElem (by omega)]
  exact List.getElem_mem _
theorem clear_all {f : Fld} (hc : f.chk = 0) (h1 : (1 : Int) ∉ f.places) (h2 : (2 : Int) ∉ f.places) (c : Cel) : f.clear c = true := by
  have hv : f.atV c ≠ 1 ∧ f.atV c ≠ 2 := by
    unfold Fld.atV
    rw [if_neg (by simpa using hc)]
    split
    · rename_i hi
      have := place_mem hc hi
      exact ⟨fun e => h1 (e ▸ this), fun e => h2 (e ▸ this)⟩
    · exact ⟨by decide, by decide⟩
  unfold Fld.clear
  simp [hv.1, hv.2]
theorem bare_all {f : Fld} (h : ∀ c, f.clear c = true) (a b : Cel) : bareC f a b = true := bareC_yes fun i _ => h _
theorem seenE_ok {f : Fld} {c : Cel} {r : Int} (h : seenE f c r = 0) : f.atE c = 0 ∧ 0 ≤ r ∧ r ≤ 12 := by
  unfold seenE at h
  split at h
  · contradiction
  · rename_i h1
    split at h
    · exact nomatch h
    · exact ⟨by simpa using h1, by omega⟩
theorem open_yes {f : Fld} {c : Cel} {r : Int} (h : seenE f c r = 0) (hp : (f.places.any (fun y => 1 == y) || f.places.any (fun y => 2 == y)) = false) :
    (((seenL f c r).length : Nat) : Int) = (min (f.wide - 1) (c.x + r) - max 0 (c.x - r) + 1) * (min (f.high - 1) (c.y + r) - max 0 (c.y - r) + 1) := by
  obtain ⟨h0, hr⟩ := seenE_ok h
  obtain ⟨hc, hx1, hx2, hy1, hy2⟩ := atE_chk h0
  rw [Bool.or_eq_false_iff, List.any_eq_false, List.any_eq_false] at hp
  have hcl := clear_all hc (fun hm => hp.1 1 hm (by simp)) (fun hm => hp.2 2 hm (by simp))
  rw [(seen_ok h0 (by omega)).2, seen_len_all fun n => by unfold seenB; rw [bare_all hcl]; rfl]
  have e1 : min (f.wide - 1) (c.x + r) - max 0 (c.x - r) + 1 = ((seenW f c r : Nat) : Int) := by unfold seenW; omega
  have e2 : min (f.high - 1) (c.y + r) - max 0 (c.y - r) + 1 = ((seenH f c r : Nat) : Int) := by unfold seenH; omega
  rw [e1, e2, Int.natCast_mul, Int.mul_comm]
/-! Farther, and with a place taken away -/
theorem seen_mem {f : Fld} {c n : Cel} {r : Int} (h0 : f.atE c = 0) (hr : 0 ≤ r ∧ r ≤ 12) : n ∈ seenL f c r ↔ (max 0 (c.x - r) ≤ n.x ∧ n.x ≤ min (f.wide - 1) (c.x + r) ∧ max 0 (c.y - r) ≤ n.y ∧ n.y ≤ min (f.high - 1) (c.y + r)) ∧ seenB f c n = true := by
  rw [(seen_ok h0 hr).2]
  unfold seenTo seenRow
  simp only [List.mem_flatMap, List.mem_range, List.mem_filter, List.mem_map]
  constructor
  · rintro ⟨i, hi, ⟨j, hj, rfl⟩, hb⟩
    unfold seenH at hi
    unfold seenW at hj
    refine ⟨?_, hb⟩
    unfold seenAt
    simp only
    omega
  · rintro ⟨⟨a1, a2, a3, a4⟩, hb⟩
    refine ⟨(n.y - max 0 (c.y - r)).toNat, by unfold seenH; omega, ⟨(n.x - max 0 (c.x - r)).toNat, by unfold seenW; omega, ?_⟩, hb⟩
    obtain ⟨x, y⟩ := n
    unfold seenAt
    simp only at *
    congr 1 <;> omega
theorem atE_in {f : Fld} (hc : f.chk = 0) {n : Cel} (h : 0 ≤ n.x ∧ n.x ≤ f.wide - 1 ∧ 0 ≤ n.y ∧ n.y ≤ f.high - 1) : f.atE n = 0 := by
  refine (Fld.at_in hc ?_).1
  unfold Fld.isIn
  rw [inB_mk h.1 h.2.1, inB_mk h.2.2.1 h.2.2.2]; rfl
theorem seen_sees {f : Fld} {c n : Cel} {r : Int} (h : seenE f c r = 0) (hn : n ∈ seenL f c r) : seesE f c n = 0 ∧ seesV f c n = true := by
  obtain ⟨h0, hr⟩ := seenE_ok h
  obtain ⟨a, b⟩ := (seen_mem h0 hr).1 hn
  have e := seesE_mk h0 (atE_in (atE_chk h0).1 (n := n) (by omega))
  exact ⟨e, by rw [seesV_ok e]; exact b⟩
theorem seen_far {f : Fld} {c n : Cel} {r q : Int} (h : seenE f c r = 0) (h2 : seenE f c q = 0) (hrq : r ≤ q) (hn : n ∈ seenL f c r) : n ∈ seenL f c q := by
  obtain ⟨h0, hr⟩ := seenE_ok h
  obtain ⟨a, b⟩ := (seen_mem h0 hr).1 hn
  exact (seen_mem h0 (seenE_ok h2).2).2 ⟨by omega, b⟩
theorem seen_self {f : Fld} {c : Cel} {r : Int} (h : seenE f c r = 0) : c ∈ seenL f c r := by
  obtain ⟨h0, hr⟩ := seenE_ok h
  obtain ⟨hc, hx⟩ := atE_chk h0
  refine (seen_mem h0 hr).2 ⟨by omega, ?_⟩
  unfold seenB
  rw [bare_near (f := f) (a := c) (b := c) (by
    have s1 := sz_bd (c.x - c.x)
    have s2 := sz_bd (c.y - c.y)
    unfold far
    omega)]
  rfl
/-- A field with one place plain. -/
def Fld.plainAt (f : Fld) (i : Nat) : Fld := { f with places := f.places.set i 0 }
theorem plain_chk {f : Fld} (h : f.chk = 0) (i : Nat) : (f.plainAt i).chk = 0 := by
  unfold Fld.chk at h ⊢
  unfold Fld.plainAt
  split at h
  · rename_i hs
    rw [if_pos hs]
    split at h
    · rename_i hp
      rw [Bool.and_eq_true] at hp
      rw [List.length_set, if_pos]
      rw [Bool.and_eq_true]
      refine ⟨hp.1, ?_⟩
      rw [List.all_eq_true] at hp ⊢
      intro x hx
      rcases List.mem_or_eq_of_mem_set hx with h1 | rfl
      · exact hp.2 x h1
      · rfl
    · exact nomatch h
  · exact nomatch h
theorem plain_atE {f : Fld} (h : f.chk = 0) (i : Nat) (c : Cel) : (f.plainAt i).atE c = f.atE c := by
  unfold Fld.atE
  rw [plain_chk h, h]
  rfl
theorem plain_clear {f : Fld} (h : f.chk = 0) (i : Nat) {c : Cel} (hc : f.clear c = true) : (f.plainAt i).clear c = true := by
  have hv : (f.plainAt i).atV c = f.atV c ∨ (f.plainAt i).atV c = 0 := by
    have e1 : (f.plainAt i).atV c = if f.isIn c = true then (f.places.set i 0).getD (c.y * f.wide + c.x).toNat 0 else 0 := by unfold Fld.atV; rw [if_neg (by rw [plain_chk h]; decide)]; rfl
    have e2 : f.atV c = if f.isIn c = true then f.places.getD (c.y * f.wide + c.x).toNat 0 else 0 := by unfold Fld.atV; rw [if_neg (by rw [h]; decide)]; rfl
    rw [e1, e2]
    by_cases hi : f.isIn c = true
    · rw [if_pos hi, if_pos hi, List.getD_eq_getElem?_getD, List.getElem?_set, List.getD_eq_getElem?_getD]
      split
      · split
        · exact .inr rfl
        · exact .inr rfl
      · exact .inl rfl
    · rw [if_neg hi, if_neg hi]; exact .inl rfl
  unfold Fld.clear at *
  rcases hv with h1 | h1
  · rw [h1]; exact hc
  · rw [h1]; rfl
theorem plain_bare {f : Fld} (h : f.chk = 0) (i : Nat) {a b : Cel} (hb : bareC f a b = true) : bareC (f.plainAt i) a b = true := by
  unfold bareC at *
  rw [Bool.or_eq_true] at *
  rcases hb with h1 | h1
  · exact .inl h1
  · refine .inr ?_
    rw [List.all_eq_true] at *
    exact fun x hx => plain_clear h i (h1 x hx)
theorem plain_seenE {f : Fld} (h : f.chk = 0) (i : Nat) (c : Cel) (r : Int) : seenE (f.plainAt i) c r = seenE f c r := by unfold seenE; rw [plain_atE h]
theorem plain_seen {f : Fld} (i : Nat) {c n : Cel} {r : Int} (h : seenE f c r = 0) (hn : n ∈ seenL f c r) : n ∈ seenL (f.plainAt i) c r := by
  obtain ⟨h0, hr⟩ := seenE_ok h
  have hc := (atE_chk h0).1
  obtain ⟨a, b⟩ := (seen_mem h0 hr).1 hn
  refine (seen_mem (by rw [plain_atE hc]; exact h0) hr).2 ⟨a, ?_⟩
  unfold seenB at *
  rw [Bool.or_eq_true] at *
  exact b.imp (plain_bare hc i) (plain_bare hc i)
theorem any_mem {l : List Cel} {x : Cel} (h : x ∈ l) : l.any (fun y => decide (x = y)) = true := List.any_eq_true.2 ⟨x, h, by simp⟩
end Go.Proofs.Ytkijhejjnlmbmaa
