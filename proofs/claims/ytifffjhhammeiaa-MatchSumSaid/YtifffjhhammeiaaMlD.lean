import Derived.Test.YtifffjhhammeiaaFcs
import Derived.Test.YtifffjhhammeiaaDed
import Derived.Test.YtifffjhhammeiaaBas
set_option linter.unusedVariables false
set_option linter.unusedSimpArgs false
set_option maxRecDepth 100000
set_option maxHeartbeats 4000000
namespace Go.Proofs.Ytifffjhhammeiaa
section
open Go.RowKit
def beside (a b : Cel) : Bool := inB b.x (a.x - 1) (a.x + 1) && inB b.y (a.y - 1) (a.y + 1)
namespace Wd
def place (W : Wd) (c : Cel) : Nat := (c.y * W.field.wide + c.x).toNat
def addLoad (t : Trp) (n : Int) : Trp := { t with load := t.load + n }
def mine (W : Wd) (d : Ded) : Option Wd :=
 match W.troops.findIdx? (isId d.who) with
 | none => none
 | some k =>
  let t := W.troops.getD k default
  let m := W.mines.getD (W.place d.spot) 0
  if t.kind == 1 && decide (t.load < 5) && beside t.spot d.spot && W.field.isIn d.spot && m != 0 then
   some { W with mines := W.mines.set (W.place d.spot) (m - 1), troops := W.troops.set k (addLoad t 1) }
  else none
def drop (W : Wd) (d : Ded) : Option Wd :=
 match W.troops.findIdx? (isId d.who) with
 | none => none
 | some k =>
  let t := W.troops.getD k default
  let o := t.owner.toNat
  let s := W.stocks.getD o 0
  let n := min t.load (1000000 - s)
  if t.load != 0 && beside (W.bases.getD o default) t.spot && decide (0 < n) then
   some { W with stocks := W.stocks.set o (s + n), troops := W.troops.set k (addLoad t (-n)) }
  else none
def around (c : Cel) : List Cel :=
 [c, ⟨c.x - 1, c.y - 1⟩, ⟨c.x, c.y - 1⟩, ⟨c.x + 1, c.y - 1⟩, ⟨c.x - 1, c.y⟩, ⟨c.x, c.y⟩, ⟨c.x + 1, c.y⟩, ⟨c.x - 1, c.y + 1⟩, ⟨c.x, c.y + 1⟩, ⟨c.x + 1, c.y + 1⟩]
def openTo (W : Wd) (c : Cel) : Bool := W.field.ground c && !W.troops.any (isAt c)
def free (W : Wd) (c : Cel) : Option Cel := (around c).find? W.openTo
def hire (W : Wd) (d : Ded) : Option Wd :=
 let s := W.stocks.getD d.who.toNat 0
 if inB d.who 0 ((W.bases.length : Int) - 1) && inB d.what 1 2 && decide (priceOf d.what ≤ s) && decide (W.troops.length < 100) && decide (W.next < 1000000) then
  match W.free (W.bases.getD d.who.toNat default) with
  | none => none
  | some c => some { W with troops := W.troops ++ [⟨W.next, d.who, d.what, c, lifeOf d.what, 0⟩], next := W.next + 1, stocks := W.stocks.set d.who.toNat (s - priceOf d.what) }
 else none
def deed (W : Wd) (d : Ded) : Option Wd := if d.kind = 1 then W.mine d else if d.kind = 2 then W.drop d else if d.kind = 3 then W.hire d else none
def deeds (W : Wd) : List Ded → Wd × List Bool
 | [] => (W, [])
 | d :: l => match W.deed d with
  | some V => ((V.deeds l).1, true :: (V.deeds l).2)
  | none => ((W.deeds l).1, false :: (W.deeds l).2)
end Wd
theorem findId {l : List Trp} {id : Int} {k : Nat} (h : l.findIdx? (isId id) = some k) : ∃ t, l[k]? = some t ∧ t.id = id ∧ l.getD k default = t := by
 obtain ⟨h1, h2, _⟩ := List.findIdx?_eq_some_iff_getElem.1 h
 exact ⟨l[k], List.getElem?_eq_getElem h1, by simpa [isId] using h2, by rw [List.getD_eq_getElem?_getD, List.getElem?_eq_getElem h1]; rfl⟩
theorem spots_set {W V : Wd} {k : Nat} {t u : Trp} (hV : V.troops = W.troops.set k u) (ht : W.troops[k]? = some t) (hs : u.spot = t.spot) (i : Nat) : V.spots i = W.spots i := by
 unfold Wd.spots
 rw [hV, List.take_set, List.map_set]
 by_cases hki : k < i
 ·have h1 : ((W.troops.take i).map (·.spot))[k]? = some t.spot := by rw [List.getElem?_map, List.getElem?_take, if_pos hki, ht]; rfl
  obtain ⟨h2, h3⟩ := List.getElem?_eq_some_iff.1 h1
  rw [hs, ← h3]
  exact List.set_getElem_self _
 ·rw [List.set_eq_of_length_le (by rw [List.length_map, List.length_take]; omega)]
theorem last_set {W V : Wd} {k : Nat} {t u : Trp} (hV : V.troops = W.troops.set k u) (ht : W.troops[k]? = some t) (hs : u.id = t.id) (i : Nat) : V.lastId i = W.lastId i := by
 unfold Wd.lastId
 by_cases hi : i = 0
 ·rw [if_pos hi, if_pos hi]
 ·rw [if_neg hi, if_neg hi, hV, List.getD_eq_getElem?_getD, List.getD_eq_getElem?_getD]
  by_cases hk : k = i - 1
  ·subst hk
   rw [List.getElem?_set_self (List.getElem?_eq_some_iff.1 ht).1, ht]
   exact hs
  ·rw [List.getElem?_set_ne hk]
theorem at_set {W V : Wd} {k : Nat} {t u : Trp} (hV : V.troops = W.troops.set k u) (ht : W.troops[k]? = some t) {i : Nat} {x : Trp} (hx : V.troops[i]? = some x) : (i = k ∧ x = u) ∨ (i ≠ k ∧ W.troops[i]? = some x) := by
 rw [hV] at hx
 by_cases hk : k = i
 ·subst hk
  rw [List.getElem?_set_self (List.getElem?_eq_some_iff.1 ht).1] at hx
  exact .inl ⟨rfl, (Option.some.inj hx).symm⟩
 ·rw [List.getElem?_set_ne hk] at hx
  exact .inr ⟨Ne.symm hk, hx⟩
theorem Good.turned {W V : Wd} (h : Good W) {k : Nat} {t : Trp} {n : Int} (ht : W.troops[k]? = some t) (hV : V.troops = W.troops.set k (Wd.addLoad t n)) (hl : 0 ≤ t.load + n ∧ t.load + n ≤ Wd.mostOf t.kind)
  (hf : V.field = W.field) (hb : V.bases = W.bases) (hn : V.next = W.next) (hw : V.now = W.now)
  (hsl : V.stocks.length = W.stocks.length) (hs : ∀ (i : Nat) s, V.stocks[i]? = some s → 0 ≤ s ∧ s ≤ 1000000)
  (hml : V.mines.length = W.mines.length) (hm : ∀ (i : Nat) m, V.mines[i]? = some m → 0 ≤ m ∧ m ≤ 1000000 ∧ (m ≤ 0 ∨ W.field.places.getD i 0 = 3)) : Good V := by
 have h1 := h.troops k t ht
 have hlen : V.troops.length = W.troops.length := by rw [hV, List.length_set]
 refine ⟨by rw [hf]; exact h.field, by rw [hb]; exact h.nb, by rw [hlen]; exact h.nt, by rw [hsl, hb]; exact h.sl, ?_, hs, by rw [hml, hf]; exact h.ml, by rw [hf]; exact hm, λ i x hx => ?_, λ i x hx => ?_, λ i x hx => ?_, by rw [hn]; exact h.next, by rw [hw]; exact h.now⟩
 ·rw [hb, hf]; exact h.bases
 ·rw [hf, hb]
  rcases at_set hV ht hx with ⟨rfl, rfl⟩ | ⟨_, hx⟩
  ·exact ⟨h1.kind, h1.owner, h1.ground, h1.life, hl⟩
  ·exact h.troops i x hx
 ·rw [last_set hV ht rfl, hn]
  rcases at_set hV ht hx with ⟨rfl, rfl⟩ | ⟨_, hx⟩
  ·exact h.ids i t ht
  ·exact h.ids i x hx
 ·rw [spots_set hV ht rfl]
  rcases at_set hV ht hx with ⟨rfl, rfl⟩ | ⟨_, hx⟩
  ·exact h.spots i t ht
  ·exact h.spots i x hx
theorem mine_some {W V : Wd} {d : Ded} (h : W.mine d = some V) : ∃ (k : Nat) (t : Trp), W.troops.findIdx? (isId d.who) = some k ∧ W.troops[k]? = some t ∧ t.id = d.who ∧ t.kind = 1 ∧ t.load < 5 ∧ beside t.spot d.spot = true ∧ W.field.isIn d.spot = true ∧ W.mines.getD (W.place d.spot) 0 ≠ 0 ∧
  V = { W with mines := W.mines.set (W.place d.spot) (W.mines.getD (W.place d.spot) 0 - 1), troops := W.troops.set k (Wd.addLoad t 1) } := by
 unfold Wd.mine at h
 cases hf : W.troops.findIdx? (isId d.who) with
 | none => rw [hf] at h; cases h
 | some k =>
  rw [hf] at h
  obtain ⟨t, ht, hid, hg⟩ := findId hf
  simp only [hg] at h
  split at h
  ·rename_i hc
   simp only [Bool.and_eq_true, decide_eq_true_eq, bne_iff_ne, beq_iff_eq] at hc
   exact ⟨k, t, rfl, ht, hid, hc.1.1.1.1, hc.1.1.1.2, hc.1.1.2, hc.1.2, hc.2, (Option.some.inj h).symm⟩
  ·cases h
theorem drop_some {W V : Wd} {d : Ded} (h : W.drop d = some V) : ∃ (k : Nat) (t : Trp) (n : Int), W.troops.findIdx? (isId d.who) = some k ∧ W.troops[k]? = some t ∧ t.id = d.who ∧ t.load ≠ 0 ∧ beside (W.bases.getD t.owner.toNat default) t.spot = true ∧ n = min t.load (1000000 - W.stocks.getD t.owner.toNat 0) ∧ 0 < n ∧
  V = { W with stocks := W.stocks.set t.owner.toNat (W.stocks.getD t.owner.toNat 0 + n), troops := W.troops.set k (Wd.addLoad t (-n)) } := by
 unfold Wd.drop at h
 cases hf : W.troops.findIdx? (isId d.who) with
 | none => rw [hf] at h; cases h
 | some k =>
  rw [hf] at h
  obtain ⟨t, ht, hid, hg⟩ := findId hf
  simp only [hg] at h
  split at h
  ·rename_i hc
   simp only [Bool.and_eq_true, decide_eq_true_eq, bne_iff_ne] at hc
   exact ⟨k, t, _, rfl, ht, hid, hc.1.1, hc.1.2, rfl, hc.2, (Option.some.inj h).symm⟩
  ·cases h
theorem hire_some {W V : Wd} {d : Ded} (h : W.hire d = some V) : ∃ c : Cel, W.free (W.bases.getD d.who.toNat default) = some c ∧ 0 ≤ d.who ∧ d.who < (W.bases.length : Int) ∧ (d.what = 1 ∨ d.what = 2) ∧ Wd.priceOf d.what ≤ W.stocks.getD d.who.toNat 0 ∧ W.troops.length < 100 ∧ W.next < 1000000 ∧
  V = { W with troops := W.troops ++ [⟨W.next, d.who, d.what, c, Wd.lifeOf d.what, 0⟩], next := W.next + 1, stocks := W.stocks.set d.who.toNat (W.stocks.getD d.who.toNat 0 - Wd.priceOf d.what) } := by
 unfold Wd.hire at h
 simp only at h
 split at h
 ·rename_i hc
  simp only [Bool.and_eq_true, decide_eq_true_eq] at hc
  have a := inB_true hc.1.1.1.1
  have b := inB_true hc.1.1.1.2
  split at h
  ·cases h
  ·rename_i c hfr
   exact ⟨c, hfr, a.1, by omega, by omega, hc.1.1.2, hc.1.2, hc.2, (Option.some.inj h).symm⟩
 ·cases h
theorem price_pos (k : Int) : 0 ≤ Wd.priceOf k := by unfold Wd.priceOf; split <;> (try split) <;> omega
theorem Good.mine {W V : Wd} {d : Ded} (h : Good W) (hd : W.mine d = some V) : Good V := by
 obtain ⟨k, t, _, ht, _, hk, hl, _, hin, hm0, rfl⟩ := mine_some hd
 have h1 := h.troops k t ht
 have hmo : Wd.mostOf t.kind = 5 := by rw [hk]; rfl
 obtain ⟨i1, i2, _⟩ := Fld.idx h.field hin
 have hlt : W.place d.spot < W.mines.length := by rw [h.ml]; unfold Wd.place; omega
 obtain ⟨m, hm⟩ := get_of hlt
 have h2 := h.mines _ m hm
 have hg : W.mines.getD (W.place d.spot) 0 = m := by rw [List.getD_eq_getElem?_getD, hm]; rfl
 rw [hg] at hm0 ⊢
 refine h.turned ht rfl (by have := h1.load; omega) rfl rfl rfl rfl rfl h.stocks (by simp) λ i x hx => ?_
 simp only at hx
 by_cases hi : W.place d.spot = i
 ·subst hi
  rw [List.getElem?_set_self hlt] at hx
  obtain rfl := Option.some.inj hx
  refine ⟨by omega, by omega, ?_⟩
  rcases h2.2.2 with h3 | h3
  ·omega
  ·exact .inr h3
 ·rw [List.getElem?_set_ne hi] at hx
  exact h.mines i x hx
theorem Good.drop {W V : Wd} {d : Ded} (h : Good W) (hd : W.drop d = some V) : Good V := by
 obtain ⟨k, t, n, _, ht, _, hl, _, hn, hn0, rfl⟩ := drop_some hd
 have h1 := h.troops k t ht
 have hlt : t.owner.toNat < W.stocks.length := by rw [h.sl]; have := h1.owner; omega
 obtain ⟨s, hs⟩ := get_of hlt
 have h2 := h.stocks _ s hs
 have hg : W.stocks.getD t.owner.toNat 0 = s := by rw [List.getD_eq_getElem?_getD, hs]; rfl
 rw [hg] at hn ⊢
 refine h.turned ht rfl (by have := h1.load; omega) rfl rfl rfl rfl (by simp) (λ i x hx => ?_) rfl h.mines
 simp only at hx
 by_cases hi : t.owner.toNat = i
 ·subst hi
  rw [List.getElem?_set_self hlt] at hx
  obtain rfl := Option.some.inj hx
  omega
 ·rw [List.getElem?_set_ne hi] at hx
  exact h.stocks i x hx
theorem Good.hire {W V : Wd} {d : Ded} (h : Good W) (hd : W.hire d = some V) : Good V := by
 obtain ⟨c, hfr, hw0, hw1, hk, hp, hnt, hnx, rfl⟩ := hire_some hd
 have hop := List.find?_some hfr
 unfold Wd.openTo at hop
 rw [Bool.and_eq_true] at hop
 have hany : ∀ t ∈ W.troops, t.spot ≠ c := λ t ht he => by
  have := hop.2
  rw [Bool.not_eq_true', List.any_eq_false] at this
  exact this t ht (by simp [isAt, he])
 have hlt : d.who.toNat < W.stocks.length := by rw [h.sl]; omega
 obtain ⟨s, hs⟩ := get_of hlt
 have h2 := h.stocks _ s hs
 have hg : W.stocks.getD d.who.toNat 0 = s := by rw [List.getD_eq_getElem?_getD, hs]; rfl
 rw [hg] at hp ⊢
 have hpp := price_pos d.what
 have hn := h.next
 have hsp : ∀ i, i ≤ W.troops.length → Wd.spots { W with troops := W.troops ++ [⟨W.next, d.who, d.what, c, Wd.lifeOf d.what, 0⟩], next := W.next + 1, stocks := W.stocks.set d.who.toNat (s - Wd.priceOf d.what) } i = W.spots i := λ i hi => by
  unfold Wd.spots
  simp only
  rw [List.take_append_of_le_length hi]
 have hla : ∀ i, i ≤ W.troops.length → Wd.lastId { W with troops := W.troops ++ [⟨W.next, d.who, d.what, c, Wd.lifeOf d.what, 0⟩], next := W.next + 1, stocks := W.stocks.set d.who.toNat (s - Wd.priceOf d.what) } i = W.lastId i := λ i hi => by
  unfold Wd.lastId
  simp only
  by_cases h0 : i = 0
  ·rw [if_pos h0, if_pos h0]
  ·rw [if_neg h0, if_neg h0, List.getD_eq_getElem?_getD, List.getD_eq_getElem?_getD, List.getElem?_append_left (by omega)]
 have hat : ∀ (i : Nat) x, (W.troops ++ [(⟨W.next, d.who, d.what, c, Wd.lifeOf d.what, 0⟩ : Trp)])[i]? = some x → (i < W.troops.length ∧ W.troops[i]? = some x) ∨ (i = W.troops.length ∧ x = ⟨W.next, d.who, d.what, c, Wd.lifeOf d.what, 0⟩) := λ i x hx => by
  by_cases hi : i < W.troops.length
  ·rw [List.getElem?_append_left hi] at hx; exact .inl ⟨hi, hx⟩
  ·rw [List.getElem?_append_right (by omega)] at hx
   have h0 : i - W.troops.length = 0 := by
    have := (List.getElem?_eq_some_iff.1 hx).1
    simp at this; omega
   rw [h0] at hx
   exact .inr ⟨by omega, by simpa using hx.symm⟩
 have hlast : W.lastId W.troops.length < W.next ∧ 0 ≤ W.lastId W.troops.length := by
  by_cases h0 : W.troops.length = 0
  ·rw [h0]; exact ⟨by show (0 : Int) < _; omega, Int.le_refl _⟩
  ·obtain ⟨t, ht⟩ := get_of (l := W.troops) (i := W.troops.length - 1) (by omega)
   have h4 := h.ids _ t ht
   have e : W.lastId W.troops.length = t.id := by
    unfold Wd.lastId
    rw [if_neg h0, List.getD_eq_getElem?_getD, ht]; rfl
   rw [e]; omega
 refine ⟨h.field, h.nb, by simp; omega, by simp; exact h.sl, h.bases, λ i x hx => ?_, h.ml, h.mines, λ i x hx => ?_, λ i x hx => ?_, λ i x hx => ?_, by simp only; omega, h.now⟩
 ·simp only at hx
  by_cases hi : d.who.toNat = i
  ·subst hi
   rw [List.getElem?_set_self hlt] at hx
   obtain rfl := Option.some.inj hx
   omega
  ·rw [List.getElem?_set_ne hi] at hx
   exact h.stocks i x hx
 ·rcases hat i x hx with ⟨_, hx⟩ | ⟨_, rfl⟩
  ·exact h.troops i x hx
  ·exact ⟨hk, ⟨hw0, hw1⟩, hop.1, by simp only; rcases hk with h | h <;> rw [h] <;> decide, by simp only; rcases hk with h | h <;> rw [h] <;> decide⟩
 ·rcases hat i x hx with ⟨hi, hx⟩ | ⟨rfl, rfl⟩
  ·rw [hla i (by omega)]
   have := h.ids i x hx
   simp only; omega
  ·rw [hla _ (Nat.le_refl _)]
   simp only; omega
 ·rcases hat i x hx with ⟨hi, hx⟩ | ⟨rfl, rfl⟩
  ·rw [hsp i (by omega)]; exact h.spots i x hx
  ·rw [hsp _ (Nat.le_refl _)]
   simp only
   cases hc : (W.spots W.troops.length).contains c with
   | false => rfl
   | true =>
    rw [List.contains_iff_mem] at hc
    unfold Wd.spots at hc
    obtain ⟨t, ht, he⟩ := List.mem_map.1 hc
    exact absurd he (hany t (List.mem_of_mem_take ht))
theorem Good.deed {W V : Wd} {d : Ded} (h : Good W) (hd : W.deed d = some V) : Good V := by
 unfold Wd.deed at hd
 split at hd
 ·exact h.mine hd
 ·split at hd
  ·exact h.drop hd
  ·split at hd
   ·exact h.hire hd
   ·cases hd
theorem Good.deeds {W : Wd} (h : Good W) : ∀ l : List Ded, Good (W.deeds l).1 := by
 intro l
 induction l generalizing W with
 | nil => exact h
 | cons d l ih =>
  unfold Wd.deeds
  cases hd : W.deed d with
  | none => exact ih h
  | some V => exact ih (h.deed hd)
end
section
open Go.RowKit
def trAt (a : Wd.At) (k : Nat) : Option Addr := a.T.map λ x => ⟨x.block, k * 7, none⟩
def trOf (a : Wd.At) (W : Wd) (id : Int) : Option Addr := match W.troops.findIdx? (isId id) with | none => none | some k => trAt a k
end
section
open Go.RowKit Go.Maps
namespace Cel
def key (c : Cel) : Value := .agg #[.int .i64 c.x, .int .i64 c.y]
end Cel
end
section
open Go.RowKit
def Wd.doE (W : Wd) (l : List Ded) : Int := if W.chk ≠ 0 then W.chk else if 200 < l.length then 2 else 0
def Wd.doW (W : Wd) (l : List Ded) : Wd := if W.doE l = 0 then (W.deeds l).1 else Wd.zero
def Wd.doB (W : Wd) (l : List Ded) : List Bool := if W.doE l = 0 then (W.deeds l).2 else []
end
section
open Go.RowKit
def wt (t : Trp) : Int := t.load + Wd.priceOf t.kind
def Wd.total (W : Wd) : Int := W.mines.sum + W.stocks.sum + (W.troops.map wt).sum
def Wd.worth (W : Wd) : Int := if W.chk = 0 then W.total else 0
end
section
open Go.RowKit
def smallW : Wd := ⟨⟨3, 1, [0, 0, 3]⟩, [⟨0, 0⟩], [20], [0, 0, 9], [⟨1, 0, 1, ⟨1, 0⟩, 10, 0⟩], 2, 0⟩
def smallL : List Ded := [(⟨1, 1, ⟨2, 0⟩, 0⟩ : Ded), (⟨3, 0, ⟨0, 0⟩, 2⟩ : Ded)]
def smallV : Wd := smallW.doW smallL
end
section
open Go.RowKit
open Go.Proofs.Ytifffjhhammeiaa.Mt
theorem rounds_three (w : World) : Calls Try.prog 12 #[.int .i64 3] w (λ e w' => ∃ A c T A0 k0, e = .returned (.tuple #[.slice A 3 c, .int .i64 0]) ∧ ((T : List SV).length = 3 ∧ T[0]? = some ⟨A0, 1, k0⟩) ∧ svRep.SOwn 28 24 w' w.heap.size (Rep.blkOf A) A c T ∧ Ext w w') := by
 refine (rounds_any 3 w).mono ?_
 rintro e w' ⟨e', A, c, T, L, ba, X, rfl, hR, hT, hP, hx⟩
 rcases hR with ⟨rfl, h2, h3, h4, N, M, K, hN, hM, hK, hL, hl⟩ | ⟨_, h, _⟩
 ·obtain rfl : N = 3 := by omega
  obtain rfl : M = 3 := by omega
  obtain rfl : K = 2 := by omega
  have h0 : L[0]? = some (L[0]'(by omega)) := List.getElem?_eq_getElem (by omega)
  obtain ⟨A0, k0, g1, g2, g3⟩ := hP.2.2 0 _ h0
  have hlen := (hl 0 _ h0).length_eq
  rw [rnd_full (by omega) (by omega) (by omega) (by omega)] at hlen
  rw [hlen] at g1
  exact ⟨A, c, T, A0, k0, by rw [h4, hL], ⟨by omega, g1⟩, hT, hx⟩
 ·omega
theorem table_two (A : Option Addr) (c : Nat) (w : World) (h : Gam.rep.SHas 24 w A c [(⟨0, 1, 1⟩ : Gam)]) : Calls Try.prog 15 #[.int .i64 2, .slice A 1 c] w (λ e w' => ∃ A' c', e = .returned (.tuple #[.slice A' 2 c', .int .i64 0]) ∧ repI.SOwn 3 8 w' w.heap.size (Rep.blkOf A') A' c' ([1, 0] : List Int) ∧ Ext w w') := by
 refine (table_any 2 [⟨0, 1, 1⟩] A c w h).mono ?_
 rintro e w' ⟨e', A', c', L, rfl, ⟨h1, h2⟩, h3, h4⟩
 have e1 : mtE 2 [⟨0, 1, 1⟩] = 0 := by decide
 have e2 : tbR 2 [⟨0, 1, 1⟩] = [1, 0] := by
  have e3 : scR 2 [⟨0, 1, 1⟩] = [⟨0, 0, 0⟩, ⟨1, 3, 1⟩] := by decide
  unfold tbR
  rw [e3, ← tabS_uniq (T := [⟨1, 3, 1⟩, ⟨0, 0, 0⟩]) (List.Perm.swap _ _ _) (by decide)]; rfl
 rw [e2] at h2
 rw [e1] at h1
 subst h1 h2
 exact ⟨A', c', rfl, h3, h4⟩
theorem matchLives_any  (w : World) :
  Calls Try.prog 13 #[] w (λ e w' => e = .returned (.bool true) ∧ Ext w w') := by
 refine calls_W (n := 38) Try.func13 rfl rfl rfl ?_
 refine sg <| va rfl <| nK <| sg <| ca eF26 rfl rfl ((rounds_three _).mono ?_)
 rintro e w_4 ⟨A1, c1, T1, B1, k1, rfl, hT1, HT1, x_5⟩
 refine ⟨_, rfl, ?_⟩
 have := x_5.size
 have z_4 := eT (Ext.rf w) x_5
 have u_2 := λ q hq => (HT1.lt q hq).2
 have lo_3 := λ q hq => (HT1.lt q hq).1
 refine vm rfl <| vL (ex rfl rfl) <| vL (ex rfl rfl) <| va rfl <| va rfl <| nK <| sg <| vL (v := .agg #[.int .i64 0, .int .i64 1, .int .i64 1]) (bd rfl (by kernel_rfl)) <| bs (e := 38) (cs := [.int .i64 0, .int .i64 1, .int .i64 1]) rfl (λ _ => by kernel_rfl) rfl λ w_7 b_8 x_9 l_10 B_11 => ?_
 have := x_9.size
 have z_7 := eT z_4 x_9
 have q_13 := B_11.lt
 refine ca eF27 rfl rfl ((table_two _ _ _ (Blk.hasN (R := Gam.rep) (by_ := 24) (k := [(⟨0, 1, 1⟩ : Gam)]) B_11 [[.int .i64 0, .int .i64 1, .int .i64 1]] rfl (⟨⟨rfl, ⟨okI_iff.2 (by decide), okI_iff.2 (by decide), okI_iff.2 (by decide)⟩⟩, trivial⟩) (by simp) (by simp))).mono ?_)
 rintro e w_17 ⟨A14, c14, rfl, HI14, x_18⟩
 refine ⟨_, rfl, ?_⟩
 have := x_18.size
 have z_17 := eT z_7 x_18
 have u_15 := λ q hq => (HI14.lt q hq).2
 have lo_16 := λ q hq => (HI14.lt q hq).1
 refine vm rfl <| vL (ex rfl rfl) <| vL (ex rfl rfl) <| va rfl <| va rfl <| nK <| sg <| vm rfl <| vL (beq rfl rfl) <| vm rfl <| ug rfl rfl rfl <| vm rfl <| ug rfl rfl rfl <| vL (beq rfl rfl) <| vL (pkT rfl rfl) <| vm rfl <| ug rfl rfl rfl <| vm rfl <| ug rfl rfl rfl <| vL (ln Try.underlying22 rfl) <| ug rfl rfl rfl <| vL (beq rfl rfl) <| ?_
 refine vL (pkT rfl rfl) <| vm rfl <| ug rfl rfl rfl <| vm rfl <| ug rfl rfl rfl <| ?_
 have HT1 := HT1.later (eT x_9 x_18)
 refine vL (iA 0 Try.underlying22 eF15 rfl rfl (HT1.has.adr (zl 0 (by first | omega | (rw [hT1.1]; omega)))) rfl (by first | omega | (rw [hT1.1]; omega))) <| ug rfl rfl rfl <| vL (v := .slice B1 1 k1) (ld rfl (Rep.SHas.one' hcV (HT1.has.adh (zl 0 (by first | omega | (rw [hT1.1]; omega)))) hT1.2 rfl eF16)) <| ug rfl rfl rfl <| vL (ln Try.underlying28 rfl) <| ug rfl rfl rfl <| vL (beq rfl rfl) <| vL (pkT rfl rfl) <| vm rfl <| ug rfl rfl rfl <| vm rfl <| ug rfl rfl rfl <| bs (e := 3) (cs := [.int .i64 1, .int .i64 0]) rfl (λ _ => by kernel_rfl) rfl λ w_20 b_21 x_22 l_23 B_24 => ?_
 have := x_22.size
 have z_20 := eT z_17 x_22
 have q_26 := B_24.lt
 refine ug rfl rfl rfl <| ?_
 have HI14 := HI14.later x_22
 refine ca eF28 rfl rfl ((equal_I _ _ _ _ _ _ ([1, 0] : List Int) ([1, 0]) _ HI14.has (Blk.hasN (R := repI) (by_ := 8) (k := [1, 0]) B_24 [[.int .i64 1], [.int .i64 0]] rfl (⟨⟨rfl, okI_iff.2 (by decide)⟩, ⟨⟨rfl, okI_iff.2 (by decide)⟩, trivial⟩⟩) (by simp) (by simp))).mono ?_)
 rintro e w_27 ⟨rfl, x_28⟩
 refine ⟨_, rfl, ?_⟩
 have := x_28.size
 have z_27 := eT z_20 x_28
 refine vL (pkT rfl rfl) <| va rfl <| nK <| rt <| tR (.tmp rfl .nil) <| ?_
 exact ⟨ret_true (by decide), z_27⟩
end
section
open Go.RowKit
theorem MlD_ib_bool : (Try.prog.info? 4).map (λ i => (i.zero, i.size, i.bytes)) = some (some (.bool false), 1, 1) := by kernel_rfl
open Go.Proofs.Ytifffjhhammeiaa.Mt
theorem tbR_in {N : Nat} {l : List Gam} {x : Int} (h : mtE (N : Int) l = 0) (hx : x ∈ tbR (N : Int) l) : 0 ≤ x ∧ x < (N : Int) := by
 rw [tbR_tab h] at hx; have := tabL_mem.1 hx; omega
theorem sum_bdk {N k : Nat} {l : List Gam} {L : List Int} (h : mtE (N : Int) l = 0) (hL : L = ptR (N : Int) l) (hk : k ≤ L.length) : 0 ≤ sumI (L.take k) ∧ sumI (L.take k) ≤ 576000 := by
 have h1 := sumG_bd (L := L.take k) λ x hx => ptR_bd h x (by rw [← hL]; exact List.mem_of_mem_take hx)
 have h2 := ptR_len h
 have h3 := mtE_ok h
 rw [← hL] at h2
 rw [List.length_take] at h1; omega
theorem want_bdk {l : List Gam} (k : Nat) (h : l.length ≤ 3000 := by omega) : 0 ≤ tot wantG (l.take k) ∧ tot wantG (l.take k) ≤ 9000 := by
 have h1 := tot_le want_bd (l.take k)
 have h2 : (l.take k).length ≤ l.length := by rw [List.length_take]; omega
 omega
theorem matchSum_bad (n : Int) (l : List Gam) (A : Option Addr) (c : Nat) (w : World) (hl : Gam.rep.SHas 24 w A c l) (h0 : mtE n l ≠ 0) :
  Calls Try.prog 4 #[.int .i64 n, .slice A l.length c] w (λ e w' => e = .returned (.bool true) ∧ Ext w w') := by
 refine calls_W (n := 134) Try.func4 rfl rfl rfl ?_
 refine sg <| va rfl <| nK <| sg <| vm rfl <| vm rfl <| ca eF29 rfl rfl ((points_any n l _ _ _ (hl.keep (Ext.rf w))).mono ?_)
 rintro e w_4 ⟨e1, A1, c1, L1, rfl, ⟨he1, hL1⟩, HI1, x_5⟩
 refine ⟨_, rfl, ?_⟩
 have := x_5.size
 have z_4 := eT (Ext.rf w) x_5
 have u_2 := λ q hq => (HI1.lt q hq).2
 have lo_3 := λ q hq => (HI1.lt q hq).1
 have k1 : (e1 != 0) = true := by rw [he1]; simpa using h0
 refine vm rfl <| vL (ex rfl rfl) <| vL (ex rfl rfl) <| va rfl <| va rfl <| nK <| sg <| vm rfl <| vm rfl <| ca eF27 rfl rfl ((table_any n l _ _ _ (hl.keep z_4)).mono ?_)
 rintro e w_10 ⟨e7, A7, c7, L7, rfl, ⟨he7, hL7⟩, HI7, x_11⟩
 refine ⟨_, rfl, ?_⟩
 have := x_11.size
 have z_10 := eT z_4 x_11
 have u_8 := λ q hq => (HI7.lt q hq).2
 have lo_9 := λ q hq => (HI7.lt q hq).1
 have k7 : (e7 != 0) = true := by rw [he7]; simpa using h0
 have kq : (e1 == e7) = true := by rw [he1, he7]; simp
 refine vm rfl <| vL (ex rfl rfl) <| vL (ex rfl rfl) <| va rfl <| va rfl <| nK <| sq <| sg <| ca eF30 rfl rfl ((matchLives_any _).mono ?_)
 rintro e w_13 ⟨rfl, x_14⟩
 refine ⟨_, rfl, ?_⟩
 have := x_14.size
 have z_13 := eT z_10 x_14
 refine vL (nt rfl) <| vm rfl <| ug rfl rfl rfl <| vm rfl <| ug rfl rfl rfl <| vL (bne rfl rfl) <| vL (pkF rfl (evb rfl k1)) <| vm rfl <| vQ (v := undef) rfl rfl rfl rfl (λ hc => nomatch hc) rfl <| vQ (v := undef) rfl rfl rfl rfl (λ hc => nomatch hc) rfl <| vL (pkT rfl rfl) <| vm rfl <| vQ (v := undef) rfl rfl rfl rfl (λ hc => nomatch hc) rfl <| vQ (v := undef) rfl rfl rfl rfl (λ hc => nomatch hc) rfl <| vQ (v := undef) rfl rfl rfl rfl (λ hc => nomatch hc) rfl <| vQ (v := undef) rfl rfl rfl rfl (λ hc => nomatch hc) rfl <| vL (pkT rfl rfl) <| vm rfl <| vQ (v := undef) rfl rfl rfl rfl (λ hc => nomatch hc) rfl <| vQ (v := undef) rfl rfl rfl rfl (λ hc => nomatch hc) rfl <| vQ (v := undef) rfl rfl rfl rfl (λ hc => nomatch hc) rfl <| vQ (v := undef) rfl rfl rfl rfl (λ hc => nomatch hc) rfl <| vL (pkT rfl rfl) <| nl <| ?_
 refine nT <| cT rfl <| sg <| ca eF30 rfl rfl ((matchLives_any _).mono ?_)
 rintro e w_16 ⟨rfl, x_17⟩
 refine ⟨_, rfl, ?_⟩
 have := x_17.size
 have z_16 := eT z_13 x_17
 refine vm rfl <| ug rfl rfl rfl <| vm rfl <| ug rfl rfl rfl <| vm rfl <| ug rfl rfl rfl <| vL (beq rfl rfl) <| vL (pkT rfl (evb rfl kq)) <| vm rfl <| ug rfl rfl rfl <| vm rfl <| ug rfl rfl rfl <| vL (bne rfl rfl) <| vL (pkT rfl (evb rfl k1)) <| va rfl <| nK <| rt <| tT <| tR (.tmp rfl .nil) <| ?_
 exact ⟨rfl, z_16⟩
theorem matchSum_ok (N : Nat) (l : List Gam) (A : Option Addr) (c : Nat) (w : World) (hl : Gam.rep.SHas 24 w A c l) (h0 : mtE (N : Int) l = 0) :
  Calls Try.prog 4 #[.int .i64 (N : Int), .slice A l.length c] w (λ e w' => e = .returned (.bool true) ∧ Ext w w') := by
 have hme := mtE_ok h0
 have hN1 : 1 ≤ N ∧ N ≤ 64 := by omega
 refine calls_W (n := 134) Try.func4 rfl rfl rfl ?_
 refine sg <| va rfl <| nK <| sg <| vm rfl <| vm rfl <| ca eF29 rfl rfl ((points_any (N : Int) l _ _ _ (hl.keep (Ext.rf w))).mono ?_)
 rintro e w_4 ⟨e1, A1, c1, L1, rfl, ⟨he1, hL1⟩, HI1, x_5⟩
 refine ⟨_, rfl, ?_⟩
 have := x_5.size
 have z_4 := eT (Ext.rf w) x_5
 have u_2 := λ q hq => (HI1.lt q hq).2
 have lo_3 := λ q hq => (HI1.lt q hq).1
 have k1 : (e1 != 0) = false := by rw [he1]; simpa using h0
 have n1 : (L1.length : Int) = N := by rw [hL1]; exact ptR_len h0
 have m1 : ((L1.length : Int) != (N : Int)) = false := by simpa using n1
 refine vm rfl <| vL (ex rfl rfl) <| vL (ex rfl rfl) <| va rfl <| va rfl <| nK <| sg <| vm rfl <| vm rfl <| ca eF27 rfl rfl ((table_any (N : Int) l _ _ _ (hl.keep z_4)).mono ?_)
 rintro e w_10 ⟨e7, A7, c7, L7, rfl, ⟨he7, hL7⟩, HI7, x_11⟩
 refine ⟨_, rfl, ?_⟩
 have := x_11.size
 have z_10 := eT z_4 x_11
 have u_8 := λ q hq => (HI7.lt q hq).2
 have lo_9 := λ q hq => (HI7.lt q hq).1
 have k7 : (e7 != 0) = false := by rw [he7]; simpa using h0
 have n7 : (L7.length : Int) = N := by rw [hL7]; exact tbR_len h0
 have m7 : ((L7.length : Int) != (N : Int)) = false := by simpa using n7
 refine vm rfl <| vL (ex rfl rfl) <| vL (ex rfl rfl) <| va rfl <| va rfl <| nK <| sq <| sg <| ca eF30 rfl rfl ((matchLives_any _).mono ?_)
 rintro e w_13 ⟨rfl, x_14⟩
 refine ⟨_, rfl, ?_⟩
 have := x_14.size
 have z_13 := eT z_10 x_14
 refine vL (nt rfl) <| vm rfl <| ug rfl rfl rfl <| vm rfl <| ug rfl rfl rfl <| vL (bne rfl rfl) <| vL (pkF rfl (evb rfl k1)) <| vm rfl <| ug rfl rfl rfl <| vm rfl <| ug rfl rfl rfl <| vL (bne rfl rfl) <| vL (pkF rfl (evb rfl k7)) <| vm rfl <| ug rfl rfl rfl <| vm rfl <| ug rfl rfl rfl <| vL (ln Try.underlying34 rfl) <| ug rfl rfl rfl <| vm rfl <| ug rfl rfl rfl <| vL (bne rfl rfl) <| vL (pkF rfl (evb rfl m1)) <| vm rfl <| ?_
 refine ug rfl rfl rfl <| vm rfl <| ug rfl rfl rfl <| vL (ln Try.underlying34 rfl) <| ug rfl rfl rfl <| vm rfl <| ug rfl rfl rfl <| vL (bne rfl rfl) <| vL (pkF rfl (evb rfl m7)) <| nK <| cF rfl <| sK <| sg <| va rfl <| va rfl <| nK <| sq <| sg <| vm rfl <| ?_
 refine vL (ln Try.underlying34 rfl) <| vm rfl <| nK <| bk <| ?_
 have HI1 := HI1.later (eT x_11 x_14)
 have HI7 := HI7.later x_14
 refine lp (λ mI EI wI => ∃ k : Nat, EI = [(0, .int .i64 (N : Int)), (1, .slice A l.length c), (4, .bool false), (5, .slice A1 L1.length c1), (7, .slice A7 L7.length c7), (9, .int .i64 (sumI (L1.take k))), (10, .int .i64 0), (62, .slice A1 L1.length c1), (63, .int .i64 (L1.length : Int)), (64, .int .i64 (k : Int))] ∧ mI = L1.length - k ∧ Ext w wI ∧ repI.SOwn 3 8 wI w.heap.size (Rep.blkOf A1) A1 c1 (L1) ∧ repI.SOwn 3 8 wI w_4.heap.size (Rep.blkOf A7) A7 c7 (L7) ∧ (k ≤ L1.length)) _ _ ⟨0, rfl, rfl, z_13, HI1, HI7, by omega⟩ (.cons rfl (.cons rfl (.cons rfl (.cons rfl (.cons rfl (.cons rfl (.cons rfl (.cons rfl (.cons rfl (.cons (loI rfl (by first | omega | rfl | (simp <;> omega))) .nil)))))))))) ?_
 rintro m_17 E_18 w_16 ⟨k, rfl, rfl, z_16, HI1, HI7, hk⟩
 have := z_16.size
 have u_20 := λ q hq => (HI1.lt q hq).2
 have u_21 := λ q hq => (HI7.lt q hq).2
 refine sg <| vL (blt rfl rfl) <| nK <| sq <| ?_
 refine clt rfl (λ h_22 => ?_) (λ h_22 => ?_)
 ·obtain ⟨px, hx⟩ : ∃ px, L1[k]? = some px := ⟨_, List.getElem?_eq_getElem (by omega)⟩
  have hb0 := sum_bdk h0 (L := L1) hL1 (k := k) (by omega)
  have hb1 := sum_bdk h0 (L := L1) hL1 (k := k + 1) (by omega)
  rw [sum_snoc hx] at hb1
  refine sK <| sq <| bk <| sg <| vL (iA k Try.underlying34 eF2 rfl rfl (HI1.has.adr (zl k (by omega))) rfl (by omega)) <| vL (ld rfl (Rep.SHas.one' hcI (HI1.has.adh (zl k (by omega))) hx rfl eF7)) <| va rfl <| nK <| rg <| vm rfl <| vm rfl <| vL (bad rfl rfl (inI (by omega))) <| va rfl <| nl <| nB <| nT <| rg <| vL (bad rfl rfl (inI (by omega))) <| vm rfl <| nl <| ?_
  exact nI _ _ ⟨k + 1, rfl, rfl, z_16, HI1, HI7, by omega⟩ (by omega) (.cons rfl (.cons rfl (.cons rfl (.cons rfl (.cons rfl (.cons (loI rfl (sum_snoc hx).symm) (.cons rfl (.cons rfl (.cons rfl (.cons (loI rfl (by first | omega | rfl | (simp <;> omega))) .nil))))))))))
 ·have ek : k = L1.length := by omega
  refine xt <| xT <| xK <| xB <| nT <| sq <| sg <| vm rfl <| vL (ln Try.underlying33 rfl) <| vm rfl <| nK <| bk <| ?_
  refine lp (λ mI EI wI => ∃ j : Nat, EI = [(0, .int .i64 (N : Int)), (4, .bool false), (5, .slice A1 L1.length c1), (7, .slice A7 L7.length c7), (9, .int .i64 (sumI (L1.take k))), (10, .int .i64 (tot wantG (l.take j))), (72, .slice A l.length c), (73, .int .i64 (l.length : Int)), (74, .int .i64 (j : Int))] ∧ mI = l.length - j ∧ Ext w wI ∧ repI.SOwn 3 8 wI w.heap.size (Rep.blkOf A1) A1 c1 (L1) ∧ repI.SOwn 3 8 wI w_4.heap.size (Rep.blkOf A7) A7 c7 (L7) ∧ (j ≤ l.length)) _ _ ⟨0, rfl, rfl, z_16, HI1, HI7, by omega⟩ (.cons rfl (.cons rfl (.cons rfl (.cons rfl (.cons rfl (.cons rfl (.cons rfl (.cons rfl (.cons (loI rfl (by first | omega | rfl | (simp <;> omega))) .nil))))))))) ?_
  rintro m_24 E_25 w_23 ⟨j, rfl, rfl, z_23, HI1, HI7, hk2⟩
  have := z_23.size
  have u_27 := λ q hq => (HI1.lt q hq).2
  have u_28 := λ q hq => (HI7.lt q hq).2
  refine sg <| vL (blt rfl rfl) <| nK <| sq <| ?_
  refine clt rfl (λ h_29 => ?_) (λ h_29 => ?_)
  ·obtain ⟨g, hg⟩ : ∃ g, l[j]? = some g := ⟨_, List.getElem?_eq_getElem (by omega)⟩
   have hw0 := want_bdk (l := l) j
   refine sK <| sq <| bk <| sg <| vL (iA j Try.underlying33 eF3 rfl rfl ((hl.keep z_23).adr (zl j (by omega))) rfl (by omega)) <| vL (ld rfl (Rep.SHas.elt Mt.hcG ((hl.keep z_23).adh (zl j (by omega))) hg eF4 eF3)) <| al rfl eF5 rfl rfl λ w_30 b_31 x_32 l_33 B_34 => ?_
   have := x_32.size
   have z_30 := eT z_23 x_32
   have q_36 := B_34.lt
   refine st (new := [.int .i64 g.a, .int .i64 g.b, .int .i64 g.won]) rfl rfl B_34 rfl eF3 rfl rfl rfl λ w_37 m_38 B_34 => ?_
   have := m_38.size
   have z_37 := Ext.mod z_30 m_38 (ge1 (by omega))
   have := m_38.size
   refine nK <| sg <| vm rfl <| vL (bad rfl rfl (inI (by omega))) <| va rfl <| nK <| sg <| vL (fa eF9 rfl) <| vL (ld rfl (B_34.one eF7 rfl)) <| vL (beq rfl rfl) <| nK <| ?_
   refine ceq rfl (λ h_41 => ?_) (λ h_41 => ?_)
   ·have hw : g.won = 2 := h_41
    refine rg <| vm rfl <| vL (bsu rfl rfl (inI (by omega))) <| va rfl <| nl <| nB <| nT <| rg <| vL (bad rfl rfl (inI (by omega))) <| vm rfl <| nl <| ?_
    have HI1 := HI1.later x_32
    have HI1 := HI1.mod m_38 (λ q hq h => by have hb := List.mem_singleton.1 h; exfalso; (have := u_27 q hq; have := u_2 q hq; have := u_20 q hq; omega))
    have HI7 := HI7.later x_32
    have HI7 := HI7.mod m_38 (λ q hq h => by have hb := List.mem_singleton.1 h; exfalso; (have := u_28 q hq; have := u_8 q hq; have := u_21 q hq; omega))
    exact nI _ _ ⟨j + 1, rfl, rfl, z_37, HI1, HI7, by omega⟩ (by omega) (.cons rfl (.cons rfl (.cons rfl (.cons rfl (.cons rfl (.cons (loI rfl (by rw [want_snoc hg]; unfold wantG; rw [if_pos hw]; (try omega))) (.cons rfl (.cons rfl (.cons (loI rfl (by first | omega | rfl | (simp <;> omega))) .nil)))))))))
   ·have hw : g.won ≠ 2 := h_41
    refine sk <| nB <| nT <| rg <| vL (bad rfl rfl (inI (by omega))) <| vm rfl <| nl <| ?_
    have HI1 := HI1.later x_32
    have HI1 := HI1.mod m_38 (λ q hq h => by have hb := List.mem_singleton.1 h; exfalso; (have := u_27 q hq; have := u_2 q hq; have := u_20 q hq; omega))
    have HI7 := HI7.later x_32
    have HI7 := HI7.mod m_38 (λ q hq h => by have hb := List.mem_singleton.1 h; exfalso; (have := u_28 q hq; have := u_8 q hq; have := u_21 q hq; omega))
    exact nI _ _ ⟨j + 1, rfl, rfl, z_37, HI1, HI7, by omega⟩ (by omega) (.cons rfl (.cons rfl (.cons rfl (.cons rfl (.cons rfl (.cons (loI rfl (by rw [want_snoc hg]; unfold wantG; rw [if_neg hw]; (try omega))) (.cons rfl (.cons rfl (.cons (loI rfl (by first | omega | rfl | (simp <;> omega))) .nil)))))))))
  ·have ek2 : j = l.length := by omega
   refine xt <| xT <| xK <| xB <| nT <| sg <| vm rfl <| mO (R := repB) (by_ := 1) (B := w.heap.size) (c := N) (zv := (.bool false)) (q := false) Rep.flat_plain Try.underlying29 MlD_ib_bool rfl rfl (λ j u h => raw0B j u h) (λ _ => ⟨rfl, trivial⟩) rfl rfl rfl (by omega) (by omega) (by omega) λ w_42 b_43 x_44 l_45 O_46 => ?_
   have := x_44.size
   have z_42 := eT z_23 x_44
   have u_48 := λ q hq => (O_46.lt q hq).2
   have lo_49 : ∀ q ∈ Rep.blkOf (some ⟨b_43, 0, none⟩), b_43 ≤ q := λ q hq => Nat.le_of_eq (List.mem_singleton.1 hq).symm
   refine va rfl <| nK <| sq <| sg <| vm rfl <| vL (ln Try.underlying34 rfl) <| vm rfl <| nK <| bk <| ?_
   have HI1 := HI1.later x_44
   have HI7 := HI7.later x_44
   refine lp (λ mI EI wI => ∃ i : Nat, EI = [(0, .int .i64 (N : Int)), (5, .slice A1 L1.length c1), (7, .slice A7 L7.length c7), (9, .int .i64 (sumI (L1.take k))), (10, .int .i64 (tot wantG (l.take j))), (15, .slice (some ⟨b_43, 0, none⟩) N N), (88, .slice A7 L7.length c7), (89, .int .i64 (L7.length : Int)), (90, .int .i64 (i : Int))] ∧ mI = L7.length - i ∧ Ext w wI ∧ repI.SOwn 3 8 wI w.heap.size (Rep.blkOf A1) A1 c1 (L1) ∧ repI.SOwn 3 8 wI w_4.heap.size (Rep.blkOf A7) A7 c7 (L7) ∧ repB.SOwn 4 1 wI w.heap.size (Rep.blkOf (some ⟨b_43, 0, none⟩)) (some ⟨b_43, 0, none⟩) N (seenB N (L7.take i)) ∧ (i ≤ L7.length) ∧ (∀ q ∈ Rep.blkOf (some ⟨b_43, 0, none⟩), q ∈ Rep.blkOf A1 → False) ∧ (∀ q ∈ Rep.blkOf (some ⟨b_43, 0, none⟩), q ∈ Rep.blkOf A7 → False)) _ _ ⟨0, rfl, rfl, z_42, HI1, HI7, (by rw [List.take_zero, seen_zero]; exact O_46), by omega, (λ q hq hb => by (have := lo_49 q hq; (have := u_27 q hb; have := u_2 q hb; have := u_20 q hb; omega))), (λ q hq hb => by (have := lo_49 q hq; (have := u_28 q hb; have := u_8 q hb; have := u_21 q hb; omega)))⟩ (.cons rfl (.cons rfl (.cons rfl (.cons rfl (.cons rfl (.cons rfl (.cons rfl (.cons rfl (.cons (loI rfl (by first | omega | rfl | (simp <;> omega))) .nil))))))))) ?_
   rintro m_53 E_54 w_52 ⟨i, rfl, rfl, z_52, HI1, HI7, HB, hk3, d_50, d_51⟩
   have := z_52.size
   have u_56 := λ q hq => (HI1.lt q hq).2
   have u_57 := λ q hq => (HI7.lt q hq).2
   have u_58 := λ q hq => (HB.lt q hq).2
   refine sg <| vL (blt rfl rfl) <| nK <| sq <| ?_
   refine clt rfl (λ h_59 => ?_) (λ h_59 => ?_)
   ·obtain ⟨px, hx⟩ : ∃ px, L7[i]? = some px := ⟨_, List.getElem?_eq_getElem (by omega)⟩
    have hxm := tbR_in h0 (by rw [← hL7]; exact List.mem_of_getElem? hx)
    have hxn : decide (px ∈ L7.take i) = false := decide_eq_false (by rw [hL7, tbR_tab h0] at *; exact tab_new hx)
    have kx1 : decide (px < 0) = false := decide_eq_false (by omega)
    have kx2 : decide ((N : Int) ≤ px) = false := decide_eq_false (by omega)
    refine sK <| sq <| bk <| sg <| vm rfl <| vL (iA i Try.underlying34 eF2 rfl rfl (HI7.has.adr (zl i (by omega))) rfl (by omega)) <| vL (ld rfl (Rep.SHas.one' hcI (HI7.has.adh (zl i (by omega))) hx rfl eF7)) <| va rfl <| va rfl <| nK <| sq <| sq <| ?_
    rcases Nat.eq_zero_or_pos i with hk0 | hk0
    ·have kz : decide (0 < (i : Int)) = false := decide_eq_false (by omega)
     refine rd [(11, 0), (22, 0), (24, 0), (28, 0)] [0, 1, 2, 3, 4, 5, 6, 7, 8, 9, 10, 11, 12, 13, 14, 15, 16, 17, 18, 19, 20, 21, 22, 23, 24, 25, 26, 27, 28, 29, 30, 31] (by kernel_rfl) (by kernel_rfl) ?_
     refine fw1 rfl (λ _ => mv rfl) <| fw1 rfl (λ _ => blt rfl rfl) <| fw1 rfl (λ _ => mv (evb rfl kx1)) <| fW rfl rfl rfl rfl rfl rfl (λ hc _ => mv rfl) rfl <| fW rfl rfl rfl rfl rfl rfl (λ hc _ => mv rfl) rfl <| fW rfl rfl rfl rfl rfl rfl (λ hc _ => bge rfl rfl) rfl <| fw1 rfl (λ _ => pkF rfl (evb rfl kx2)) <| fw1 rfl (λ _ => mv rfl) <| fW rfl rfl rfl rfl rfl rfl (λ hc _ => mv rfl) rfl <| fW rfl rfl rfl rfl rfl rfl (λ hc _ => mv rfl) rfl <| fW rfl rfl rfl rfl rfl rfl (λ hc _ => iA px.toNat Try.underlying29 eF31 rfl rfl (HB.has.adr (zl px.toNat (by first | omega | (rw [seen_len]; omega)))) (by (try simp only [bS] at hc); omega) (by first | omega | (rw [seen_len]; omega))) rfl <| fQ rfl rfl rfl rfl rfl rfl (λ hc _ x => ld rfl (Rep.SHas.one' hcB ((HB.later x).has.adh (zl px.toNat (by first | omega | (rw [seen_len]; omega)))) (seen_at hxm.1 hxm.2) rfl eF32)) rfl <| fw1 rfl (λ _ => pkF rfl (evb rfl hxn)) <| fw1 rfl (λ _ => mv rfl) <| fW rfl rfl rfl rfl rfl rfl (λ hc _ => mv rfl) rfl <| fW rfl rfl rfl rfl rfl rfl (λ hc _ => bgt rfl rfl) rfl <| fW rfl rfl rfl rfl rfl rfl (λ hc _ => mv (evb rfl kz)) rfl <| fW (v := undef) rfl rfl rfl rfl rfl rfl (λ hc => nomatch hc) rfl <| fW (v := undef) rfl rfl rfl rfl rfl rfl (λ hc => nomatch hc) rfl <| fW (v := undef) rfl rfl rfl rfl rfl rfl (λ hc => nomatch hc) rfl <| fW (v := undef) rfl rfl rfl rfl rfl rfl (λ hc => nomatch hc) rfl <| fW (v := undef) rfl rfl rfl rfl rfl rfl (λ hc => nomatch hc) rfl <| fQ (v := undef) rfl rfl rfl rfl rfl rfl (λ hc => nomatch hc) rfl <| fW (v := undef) rfl rfl rfl rfl rfl rfl (λ hc => nomatch hc) rfl <| ?_
     refine fQ (v := undef) rfl rfl rfl rfl rfl rfl (λ hc => nomatch hc) rfl <| fW (v := undef) rfl rfl rfl rfl rfl rfl (λ hc => nomatch hc) rfl <| fW (v := undef) rfl rfl rfl rfl rfl rfl (λ hc => nomatch hc) rfl <| fW (v := undef) rfl rfl rfl rfl rfl rfl (λ hc => nomatch hc) rfl <| fQ (v := undef) rfl rfl rfl rfl rfl rfl (λ hc => nomatch hc) rfl <| fW (v := undef) rfl rfl rfl rfl rfl rfl (λ hc => nomatch hc) rfl <| fW rfl rfl rfl rfl rfl rfl (λ hc _ => pkF rfl rfl) rfl <| fw1 rfl (λ _ => pkF rfl rfl) <| fn λ w_60 x_61 => ?_
     have := x_61.size
     have z_60 := eT z_52 x_61
     refine nT <| cF rfl <| sK <| rg <| vm rfl <| vm rfl <| ?_
     have HB := HB.later x_61
     refine vL (iA px.toNat Try.underlying29 eF31 rfl rfl (HB.has.adr (zl px.toNat (by first | omega | (rw [seen_len]; omega)))) (by omega) (by first | omega | (rw [seen_len]; omega))) <| so (q' := true) (j := 0) (i := px.toNat) HB Rep.flat_bare (seen_at hxm.1 hxm.2) rfl rfl rfl rfl (λ _ cs h => by have ok_ := (show _ ∧ _ from h).2; obtain rfl := hcB h; exact ⟨rfl, trivial⟩) rfl rfl eF31 λ w_63 m_64 O_65 => ?_
     have := m_64.size
     have z_63 := Ext.mod z_60 m_64 (λ q hq => (HB.lt q hq).1)
     have := m_64.size
     refine nl <| nB <| nT <| rg <| vL (bad rfl rfl (inI (by omega))) <| vm rfl <| nl <| ?_
     have HI1 := HI1.later x_61
     have HI1 := HI1.mod m_64 (λ q hq h => by exfalso; (exact d_50 q h hq))
     have HI7 := HI7.later x_61
     have HI7 := HI7.mod m_64 (λ q hq h => by exfalso; (exact d_51 q h hq))
     exact nI _ _ ⟨i + 1, rfl, rfl, z_63, HI1, HI7, (by rw [take_snocI hx, ← seen_set hxm.1 hxm.2]; exact O_65), by omega, (λ q hq hb => by (exact d_50 q hq hb)), (λ q hq hb => by (exact d_51 q hq hb))⟩ (by omega) (.cons rfl (.cons rfl (.cons rfl (.cons rfl (.cons rfl (.cons rfl (.cons rfl (.cons rfl (.cons (loI rfl (by first | omega | rfl | (simp <;> omega))) .nil)))))))))
    ·have kz : decide (0 < (i : Int)) = true := decide_eq_true (by omega)
     obtain ⟨y, hy⟩ : ∃ y, L7[i - 1]? = some y := ⟨_, List.getElem?_eq_getElem (by omega)⟩
     have hym := tbR_in h0 (by rw [← hL7]; exact List.mem_of_getElem? hy)
     have ky : decide (tot (ptG y) l < tot (ptG px) l) = false := decide_eq_false (by have := tab_points (i := i - 1) (by rw [← tbR_tab h0, ← hL7]; exact hy) (by rw [← tbR_tab h0, ← hL7, show i - 1 + 1 = i by omega]; exact hx); omega)
     refine rd [(11, 0), (22, 0), (24, 0), (28, 0)] [0, 1, 2, 3, 4, 5, 6, 7, 8, 9, 10, 11, 12, 13, 14, 15, 16, 17, 18, 19, 20, 21, 22, 23, 24, 25, 26, 27, 28, 29, 30, 31] (by kernel_rfl) (by kernel_rfl) ?_
     refine fw1 rfl (λ _ => mv rfl) <| fw1 rfl (λ _ => blt rfl rfl) <| fw1 rfl (λ _ => mv (evb rfl kx1)) <| fW rfl rfl rfl rfl rfl rfl (λ hc _ => mv rfl) rfl <| fW rfl rfl rfl rfl rfl rfl (λ hc _ => mv rfl) rfl <| fW rfl rfl rfl rfl rfl rfl (λ hc _ => bge rfl rfl) rfl <| fw1 rfl (λ _ => pkF rfl (evb rfl kx2)) <| fw1 rfl (λ _ => mv rfl) <| fW rfl rfl rfl rfl rfl rfl (λ hc _ => mv rfl) rfl <| fW rfl rfl rfl rfl rfl rfl (λ hc _ => mv rfl) rfl <| fW rfl rfl rfl rfl rfl rfl (λ hc _ => iA px.toNat Try.underlying29 eF31 rfl rfl (HB.has.adr (zl px.toNat (by first | omega | (rw [seen_len]; omega)))) (by (try simp only [bS] at hc); omega) (by first | omega | (rw [seen_len]; omega))) rfl <| fQ rfl rfl rfl rfl rfl rfl (λ hc _ x => ld rfl (Rep.SHas.one' hcB ((HB.later x).has.adh (zl px.toNat (by first | omega | (rw [seen_len]; omega)))) (seen_at hxm.1 hxm.2) rfl eF32)) rfl <| fw1 rfl (λ _ => pkF rfl (evb rfl hxn)) <| fw1 rfl (λ _ => mv rfl) <| fW rfl rfl rfl rfl rfl rfl (λ hc _ => mv rfl) rfl <| fW rfl rfl rfl rfl rfl rfl (λ hc _ => bgt rfl rfl) rfl <| fW rfl rfl rfl rfl rfl rfl (λ hc _ => mv (evb rfl kz)) rfl <| fW rfl rfl rfl rfl rfl rfl (λ hc _ => mv rfl) rfl <| fW rfl rfl rfl rfl rfl rfl (λ hc _ => mv rfl) rfl <| fW rfl rfl rfl rfl rfl rfl (λ hc _ => mv rfl) rfl <| fW rfl rfl rfl rfl rfl rfl (λ hc _ => bsu rfl rfl (inI (by (try simp only [bS] at hc); omega))) rfl <| fW rfl rfl rfl rfl rfl rfl (λ hc _ => iA (((i : Int) - 1).toNat) Try.underlying34 eF2 rfl rfl (HI7.has.adr (zl (((i : Int) - 1).toNat) (by omega))) (by (try simp only [bS] at hc); omega) (by omega)) rfl <| fQ rfl rfl rfl rfl rfl rfl (λ hc _ x => ld rfl (Rep.SHas.one' hcI ((HI7.later x).has.adh (zl (((i : Int) - 1).toNat) (by omega))) (by rw [show ((i : Int) - 1).toNat = i - 1 by omega]; exact hy) rfl eF7)) rfl <| fW rfl rfl rfl rfl rfl rfl (λ hc _ => iA y.toNat Try.underlying34 eF2 rfl rfl (HI1.has.adr (zl y.toNat (by omega))) (by (try simp only [bS] at hc); omega) (by omega)) rfl <| ?_
     refine fQ rfl rfl rfl rfl rfl rfl (λ hc _ x => ld rfl (Rep.SHas.one' hcI ((HI1.later x).has.adh (zl y.toNat (by omega))) (by rw [hL1]; exact ptR_at h0 hym.1 hym.2) rfl eF7)) rfl <| fW rfl rfl rfl rfl rfl rfl (λ hc _ => mv rfl) rfl <| fW rfl rfl rfl rfl rfl rfl (λ hc _ => mv rfl) rfl <| fW rfl rfl rfl rfl rfl rfl (λ hc _ => iA px.toNat Try.underlying34 eF2 rfl rfl (HI1.has.adr (zl px.toNat (by omega))) (by (try simp only [bS] at hc); omega) (by omega)) rfl <| fQ rfl rfl rfl rfl rfl rfl (λ hc _ x => ld rfl (Rep.SHas.one' hcI ((HI1.later x).has.adh (zl px.toNat (by omega))) (by rw [hL1]; exact ptR_at h0 hxm.1 hxm.2) rfl eF7)) rfl <| fW rfl rfl rfl rfl rfl rfl (λ hc _ => blt rfl rfl) rfl <| fW rfl rfl rfl rfl rfl rfl (λ hc _ => pkT rfl (evb rfl ky)) rfl <| fw1 rfl (λ _ => pkF rfl rfl) <| fn λ w_68 x_69 => ?_
     have := x_69.size
     have z_68 := eT z_52 x_69
     refine nT <| cF rfl <| sK <| rg <| vm rfl <| vm rfl <| ?_
     have HB := HB.later x_69
     refine vL (iA px.toNat Try.underlying29 eF31 rfl rfl (HB.has.adr (zl px.toNat (by first | omega | (rw [seen_len]; omega)))) (by omega) (by first | omega | (rw [seen_len]; omega))) <| so (q' := true) (j := 0) (i := px.toNat) HB Rep.flat_bare (seen_at hxm.1 hxm.2) rfl rfl rfl rfl (λ _ cs h => by have ok_ := (show _ ∧ _ from h).2; obtain rfl := hcB h; exact ⟨rfl, trivial⟩) rfl rfl eF31 λ w_71 m_72 O_73 => ?_
     have := m_72.size
     have z_71 := Ext.mod z_68 m_72 (λ q hq => (HB.lt q hq).1)
     have := m_72.size
     refine nl <| nB <| nT <| rg <| vL (bad rfl rfl (inI (by omega))) <| vm rfl <| nl <| ?_
     have HI1 := HI1.later x_69
     have HI1 := HI1.mod m_72 (λ q hq h => by exfalso; (exact d_50 q h hq))
     have HI7 := HI7.later x_69
     have HI7 := HI7.mod m_72 (λ q hq h => by exfalso; (exact d_51 q h hq))
     exact nI _ _ ⟨i + 1, rfl, rfl, z_71, HI1, HI7, (by rw [take_snocI hx, ← seen_set hxm.1 hxm.2]; exact O_73), by omega, (λ q hq hb => by (exact d_50 q hq hb)), (λ q hq hb => by (exact d_51 q hq hb))⟩ (by omega) (.cons rfl (.cons rfl (.cons rfl (.cons rfl (.cons rfl (.cons rfl (.cons rfl (.cons rfl (.cons (loI rfl (by first | omega | rfl | (simp <;> omega))) .nil)))))))))
   ·have ek3 : i = L7.length := by omega
    refine xt <| xT <| xK <| xB <| nT <| sg <| vm rfl <| vm rfl <| vL (beq rfl rfl) <| va rfl <| nK <| rt <| tR (.tmp rfl .nil) <| ?_
    exact ⟨ret_true (by rw [beq_iff_eq, ek, ek2, List.take_length, List.take_length, hL1]; exact sum_ok h0), z_52⟩
theorem matchSum_any (a0 : Int) (a1 : Option Addr) (len1 cap1 : Nat) (w : World) (w0 : (Lit.int .i64 a0).wf = true) (h1 : (.slice (.cons (.int .i64) (.cons (.int .i64) (.cons (.int .i64) .nil))) 24 : Sh).Ok w [.slice a1 len1 cap1]) :
  Calls Try.prog 4 #[.int .i64 a0, .slice a1 len1 cap1] w λ e w' => e = .returned (.bool true) ∧ Below w.heap.size w w' := by
 obtain ⟨Ax, cx, l, e1, hl1⟩ := Rep.opens_slice (R := Gam.rep) (by_ := 24) Gam.opens rfl (by decide) h1
 injection e1 with e_ _
 injection e_ with q1_ q2_ q3_
 subst q1_ q2_ q3_
 by_cases h0 : mtE a0 l = 0
 ·obtain ⟨N, rfl⟩ : ∃ N : Nat, a0 = N := ⟨a0.toNat, by have := mtE_ok h0; omega⟩
  exact matchSum_ok N l _ _ w hl1 h0
 ·exact matchSum_bad a0 l _ _ w hl1 h0
end
end Go.Proofs.Ytifffjhhammeiaa
