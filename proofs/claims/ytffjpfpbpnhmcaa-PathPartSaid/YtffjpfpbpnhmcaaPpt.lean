/-
  Parts of cheapest ways, in plain Lean.
-/
import Derived.Test.YtffjpfpbpnhmcaaPlw
set_option linter.unusedVariables false
set_option linter.unusedSimpArgs false
namespace Go.Proofs.Ytffjpfpbpnhmcaa
open Go.RowKit

section
variable {f : Fld} {a b c x y : Cel} {d D : Int}
theorem RchF.back (hf : f.chk = 0) (ha : f.ground a = true) (r : RchF f a x d) : ∃ e, RchF f x a e := by
  have key : ∀ x d, RchF f a x d → ∀ y, f.ground y = true → ∀ e, RchF f x y e → ∃ e', RchF f x y e' := fun _ _ _ _ _ e h => ⟨e, h⟩
  induction r with
  | start hs => exact ⟨0, .start hs.symm⟩
  | @step p x d hp hx ih =>
    obtain ⟨e, he⟩ := ih
    have hm := Fld.mem_adj.1 hx
    have hgp := RchF.ground ha hp
    have h1 : RchF f x p (0 + f.kost p) := .step (.start rfl) (Fld.mem_adj.2 ⟨Fld.sides_symm hm.1, hgp⟩)
    exact ⟨_, h1.tr he⟩
/-- Whoever can be come to from both ends is no shorter way. -/
theorem way_third (hf : f.chk = 0) (ha : f.ground a = true) (hb : 0 ≤ frF f a b b) (hc : findE f a c = 0) : findE f c b = 0 ∧ frF f a b b ≤ frF f a c c + frF f c b b := by
  obtain ⟨_, _, gc, h0, _⟩ := find_dat hc
  have hD := frF_dst hf ha hb
  have hC := frF_dst hf ha h0
  obtain ⟨e, he⟩ := RchF.back hf ha hC.1
  have r := RchF.tr he hD.1
  have gb := RchF.ground ha hD.1
  have h1 := frF_rch hf gc r
  refine ⟨find_ok hf gc gb h1.1, ?_⟩
  have hCB := frF_dst hf gc h1.1
  exact hD.2 _ (RchF.tr hC.1 hCB.1)
/-- Whence one comes does not hang on where one is bound for. -/
theorem prev_same (hf : f.chk = 0) (ha : f.ground a = true) (hc1 : 0 ≤ frF f a b c) (hc2 : 0 ≤ frF f a x c) : prevF f (frF f a b) c = prevF f (frF f a x) c := by
  have key : ∀ t n, n ∈ sidesC c → 0 ≤ frF f a t c → ((f.ground n && decide (0 ≤ frF f a t n) && decide (frF f a t n + f.kost c = frF f a t c)) = true ↔ ∃ e, DstF f a n e ∧ DstF f a c (e + f.kost c)) := by
    intro t n hn ht
    have hs := frF_spec (b := t) hf ha
    have hdc := frF_dst hf ha ht
    constructor
    · intro h
      simp only [Bool.and_eq_true, decide_eq_true_eq] at h
      exact ⟨_, frF_dst hf ha h.1.2, by rw [h.2]; exact hdc⟩
    · rintro ⟨e, h1, h2⟩
      have he := hdc.uniq h2
      have hn2 : frF f a t n = e := hs.known n e h1 fun D hD => by
        have := (hs.dist c ht).2 D hD
        have h3 := Fld.est_step t (Fld.sides_symm hn)
        have hk := f.kost_bd (c := c)
        omega
      rw [hn2, RchF.ground ha h1.1, decide_eq_true (RchF.nn h1.1), decide_eq_true he.symm]; rfl
  unfold prevF
  congr 1
  apply find_congr
  intro n hn
  rw [Bool.eq_iff_iff, key b n hn hc1, key x n hn hc2]
where
  find_congr {p q : Cel → Bool} : ∀ {l : List Cel}, (∀ n ∈ l, p n = q n) → l.find? p = l.find? q
    | [], _ => rfl
    | n :: l, h => by
      rw [List.find?_cons, List.find?_cons, h n List.mem_cons_self, find_congr fun m hm => h m (List.mem_cons_of_mem _ hm)]
/-- The way back is the same, wherever one was bound for. -/
theorem wayB_same (hf : f.chk = 0) (ha : f.ground a = true) (hb : 0 ≤ frF f a b b) (hx : 0 ≤ frF f a x x) : ∀ (n : Nat) (c : Cel), 0 ≤ frF f a b c → 0 ≤ frF f a x c → (frF f a b c).toNat = n → wayB f (frF f a b) a c = wayB f (frF f a x) a c := by
  have F1 := frF_frs hf ha hb
  have F2 := frF_frs hf ha hx
  intro n
  induction n using Nat.strongRecOn with
  | ind n ih =>
    intro c h1 h2 hn
    by_cases e : c = a
    · subst e; rw [wayB_self F1, wayB_self F2]
    · have hp := prev_same (b := b) (x := x) hf ha h1 h2
      obtain ⟨p1, p2, p3, p4⟩ := F1.prev h1 e
      obtain ⟨q1, q2, q3, q4⟩ := F2.prev h2 e
      have hk := f.kost_bd (c := c)
      rw [wayB_step F1 h1 e, wayB_step F2 h2 e, ← hp]
      congr 1
      exact ih _ (by omega) _ p3 (by rw [hp]; exact q3) rfl
/-- Behind a cell on the way back there is the way back from it. -/
theorem wayB_suffix {fr : Cel → Int} (h : Frs f a fr) : ∀ (n : Nat) (c : Cel), 0 ≤ fr c → (fr c).toNat = n → ∀ i, (hi : i < (wayB f fr a c).length) → (wayB f fr a c).drop i = wayB f fr a ((wayB f fr a c)[i]) ∧ RchF f ((wayB f fr a c)[i]) c (fr c - fr ((wayB f fr a c)[i])) := by
  intro n
  induction n using Nat.strongRecOn with
  | ind n ih =>
    intro c hc hn i hi
    by_cases e : c = a
    · subst e
      rw [wayB_self h] at hi
      have : i = 0 := by simpa using hi
      subst this
      simp only [wayB_self h, List.drop_zero, List.getElem_cons_zero]
      exact ⟨by first | trivial | rfl, by rw [Int.sub_self]; exact .start rfl⟩
    · have hst := wayB_step h hc e
      obtain ⟨p1, p2, p3, p4⟩ := h.prev hc e
      have hk := f.kost_bd (c := c)
      cases i with
      | zero =>
        have e0 : (wayB f fr a c)[0] = c := by simp only [hst, List.getElem_cons_zero]
        rw [e0, List.drop_zero, Int.sub_self]; exact ⟨rfl, .start rfl⟩
      | succ i =>
        have hi' : i < (wayB f fr a (prevF f fr c)).length := by rw [hst] at hi; simpa using hi
        obtain ⟨k1, k2⟩ := ih _ (by omega) _ p3 rfl i hi'
        have e1 : (wayB f fr a c)[i + 1] = (wayB f fr a (prevF f fr c))[i] := by simp only [hst, List.getElem_cons_succ]
        rw [e1]
        refine ⟨by rw [← k1, hst, List.drop_succ_cons], ?_⟩
        have r : RchF f _ c (fr (prevF f fr c) - fr ((wayB f fr a (prevF f fr c))[i]) + f.kost c) := .step k2 (Fld.mem_adj.2 ⟨Fld.sides_symm p1, h.gr c hc⟩)
        rw [show fr c - fr ((wayB f fr a (prevF f fr c))[i]) = fr (prevF f fr c) - fr ((wayB f fr a (prevF f fr c))[i]) + f.kost c by omega]
        exact r
/-- A part of a cheapest way. -/
theorem way_part (he : findE f a b = 0) {n : Nat} (hn : n < (findP f a b).length) {x : Cel} (hx : (findP f a b).getD n default = x) : findE f a x = 0 ∧ findE f x b = 0 ∧ findP f a x = (findP f a b).take (n + 1) ∧ findK f a x + findK f x b = findK f a b := by
  obtain ⟨hf, ha, hb, h0, hk, hp⟩ := find_dat he
  have F := frF_frs hf ha h0
  have hl : (findP f a b).length = (wayB f (frF f a b) a b).length := by rw [hp, List.length_reverse]
  have hi : (wayB f (frF f a b) a b).length - 1 - n < (wayB f (frF f a b) a b).length := by omega
  obtain ⟨s1, s2⟩ := wayB_suffix F _ b h0 rfl _ hi
  have ex : (wayB f (frF f a b) a b)[(wayB f (frF f a b) a b).length - 1 - n] = x := by
    rw [getD_dd hn] at hx
    rw [← hx]
    simp only [hp, List.getElem_reverse]
  rw [ex] at s1 s2
  have hxm : x ∈ wayB f (frF f a b) a b := by rw [← ex]; exact List.getElem_mem hi
  obtain ⟨x1, x2, x3⟩ := wayB_in F _ b h0 rfl x hxm
  have hdx := frF_dst hf ha x1
  have e1 := frF_end hf ha hdx
  have hx0 : 0 ≤ frF f a x x := by rw [e1]; exact x1
  have hax := find_ok hf ha x3 hx0
  have r2 := frF_rch hf x3 s2
  have hxb := find_ok hf x3 hb r2.1
  refine ⟨hax, hxb, ?_, ?_⟩
  · have hpx : findP f a x = (wayB f (frF f a x) a x).reverse := by unfold findP; rw [if_pos hax]
    rw [hpx, ← wayB_same hf ha h0 hx0 _ x x1 hx0 rfl, ← s1, hp, List.reverse_drop, hl.symm.trans hl]
    congr 1
    have : (wayB f (frF f a b) a b).reverse.length = (wayB f (frF f a b) a b).length := List.length_reverse
    omega
  · have k1 : findK f a x = frF f a x x := by unfold findK; rw [if_pos hax]
    have k2 : findK f x b = frF f x b b := by unfold findK; rw [if_pos hxb]
    rw [k1, k2, hk, e1]
    have h3 := (frF_dst hf ha h0).2 _ (RchF.tr hdx.1 (frF_dst hf x3 r2.1).1)
    omega
end
end Go.Proofs.Ytffjpfpbpnhmcaa
