import Derived.Test.YtifffjhhammeiaaFcs
import Derived.Test.YtifffjhhammeiaaDed
import Derived.Test.YtifffjhhammeiaaBas
import Derived.Test.YtifffjhhammeiaaLaS
import Derived.Deep.DeepAppendWide
set_option linter.unusedVariables false
set_option linter.unusedSimpArgs false
set_option maxRecDepth 100000
set_option maxHeartbeats 4000000
namespace Go.Proofs.Ytifffjhhammeiaa
section
open Go.RowKit
def beside (a b : Cel) : Bool := inB b.x (a.x - 1) (a.x + 1) && inB b.y (a.y - 1) (a.y + 1)
namespace Wd
def place (W : Wd) (c : Cel) : Nat := (c.y * W.field.wide + c.x).toNat
def addLoad (t : Trp) (n : Int) : Trp := { t with load := t.load + n }
def mine (W : Wd) (d : Ded) : Option Wd :=
 match W.troops.findIdx? (isId d.who) with
 | none => none
 | some k =>
  let t := W.troops.getD k default
  let m := W.mines.getD (W.place d.spot) 0
  if t.kind == 1 && decide (t.load < 5) && beside t.spot d.spot && W.field.isIn d.spot && m != 0 then
   some { W with mines := W.mines.set (W.place d.spot) (m - 1), troops := W.troops.set k (addLoad t 1) }
  else none
def drop (W : Wd) (d : Ded) : Option Wd :=
 match W.troops.findIdx? (isId d.who) with
 | none => none
 | some k =>
  let t := W.troops.getD k default
  let o := t.owner.toNat
  let s := W.stocks.getD o 0
  let n := min t.load (1000000 - s)
  if t.load != 0 && beside (W.bases.getD o default) t.spot && decide (0 < n) then
   some { W with stocks := W.stocks.set o (s + n), troops := W.troops.set k (addLoad t (-n)) }
  else none
def around (c : Cel) : List Cel :=
 [c, ⟨c.x - 1, c.y - 1⟩, ⟨c.x, c.y - 1⟩, ⟨c.x + 1, c.y - 1⟩, ⟨c.x - 1, c.y⟩, ⟨c.x, c.y⟩, ⟨c.x + 1, c.y⟩, ⟨c.x - 1, c.y + 1⟩, ⟨c.x, c.y + 1⟩, ⟨c.x + 1, c.y + 1⟩]
def openTo (W : Wd) (c : Cel) : Bool := W.field.ground c && !W.troops.any (isAt c)
def free (W : Wd) (c : Cel) : Option Cel := (around c).find? W.openTo
def hire (W : Wd) (d : Ded) : Option Wd :=
 let s := W.stocks.getD d.who.toNat 0
 if inB d.who 0 ((W.bases.length : Int) - 1) && inB d.what 1 2 && decide (priceOf d.what ≤ s) && decide (W.troops.length < 100) && decide (W.next < 1000000) then
  match W.free (W.bases.getD d.who.toNat default) with
  | none => none
  | some c => some { W with troops := W.troops ++ [⟨W.next, d.who, d.what, c, lifeOf d.what, 0⟩], next := W.next + 1, stocks := W.stocks.set d.who.toNat (s - priceOf d.what) }
 else none
def deed (W : Wd) (d : Ded) : Option Wd := if d.kind = 1 then W.mine d else if d.kind = 2 then W.drop d else if d.kind = 3 then W.hire d else none
def deeds (W : Wd) : List Ded → Wd × List Bool
 | [] => (W, [])
 | d :: l => match W.deed d with
  | some V => ((V.deeds l).1, true :: (V.deeds l).2)
  | none => ((W.deeds l).1, false :: (W.deeds l).2)
end Wd
theorem findId {l : List Trp} {id : Int} {k : Nat} (h : l.findIdx? (isId id) = some k) : ∃ t, l[k]? = some t ∧ t.id = id ∧ l.getD k default = t := by
 obtain ⟨h1, h2, _⟩ := List.findIdx?_eq_some_iff_getElem.1 h
 exact ⟨l[k], List.getElem?_eq_getElem h1, by simpa [isId] using h2, by rw [List.getD_eq_getElem?_getD, List.getElem?_eq_getElem h1]; rfl⟩
theorem spots_set {W V : Wd} {k : Nat} {t u : Trp} (hV : V.troops = W.troops.set k u) (ht : W.troops[k]? = some t) (hs : u.spot = t.spot) (i : Nat) : V.spots i = W.spots i := by
 unfold Wd.spots
 rw [hV, List.take_set, List.map_set]
 by_cases hki : k < i
 ·have h1 : ((W.troops.take i).map (·.spot))[k]? = some t.spot := by rw [List.getElem?_map, List.getElem?_take, if_pos hki, ht]; rfl
  obtain ⟨h2, h3⟩ := List.getElem?_eq_some_iff.1 h1
  rw [hs, ← h3]
  exact List.set_getElem_self _
 ·rw [List.set_eq_of_length_le (by rw [List.length_map, List.length_take]; omega)]
theorem last_set {W V : Wd} {k : Nat} {t u : Trp} (hV : V.troops = W.troops.set k u) (ht : W.troops[k]? = some t) (hs : u.id = t.id) (i : Nat) : V.lastId i = W.lastId i := by
 unfold Wd.lastId
 by_cases hi : i = 0
 ·rw [if_pos hi, if_pos hi]
 ·rw [if_neg hi, if_neg hi, hV, List.getD_eq_getElem?_getD, List.getD_eq_getElem?_getD]
  by_cases hk : k = i - 1
  ·subst hk
   rw [List.getElem?_set_self (List.getElem?_eq_some_iff.1 ht).1, ht]
   exact hs
  ·rw [List.getElem?_set_ne hk]
theorem at_set {W V : Wd} {k : Nat} {t u : Trp} (hV : V.troops = W.troops.set k u) (ht : W.troops[k]? = some t) {i : Nat} {x : Trp} (hx : V.troops[i]? = some x) : (i = k ∧ x = u) ∨ (i ≠ k ∧ W.troops[i]? = some x) := by
 rw [hV] at hx
 by_cases hk : k = i
 ·subst hk
  rw [List.getElem?_set_self (List.getElem?_eq_some_iff.1 ht).1] at hx
  exact .inl ⟨rfl, (Option.some.inj hx).symm⟩
 ·rw [List.getElem?_set_ne hk] at hx
  exact .inr ⟨Ne.symm hk, hx⟩
theorem Good.turned {W V : Wd} (h : Good W) {k : Nat} {t : Trp} {n : Int} (ht : W.troops[k]? = some t) (hV : V.troops = W.troops.set k (Wd.addLoad t n)) (hl : 0 ≤ t.load + n ∧ t.load + n ≤ Wd.mostOf t.kind)
  (hf : V.field = W.field) (hb : V.bases = W.bases) (hn : V.next = W.next) (hw : V.now = W.now)
  (hsl : V.stocks.length = W.stocks.length) (hs : ∀ (i : Nat) s, V.stocks[i]? = some s → 0 ≤ s ∧ s ≤ 1000000)
  (hml : V.mines.length = W.mines.length) (hm : ∀ (i : Nat) m, V.mines[i]? = some m → 0 ≤ m ∧ m ≤ 1000000 ∧ (m ≤ 0 ∨ W.field.places.getD i 0 = 3)) : Good V := by
 have h1 := h.troops k t ht
 have hlen : V.troops.length = W.troops.length := by rw [hV, List.length_set]
 refine ⟨by rw [hf]; exact h.field, by rw [hb]; exact h.nb, by rw [hlen]; exact h.nt, by rw [hsl, hb]; exact h.sl, ?_, hs, by rw [hml, hf]; exact h.ml, by rw [hf]; exact hm, λ i x hx => ?_, λ i x hx => ?_, λ i x hx => ?_, by rw [hn]; exact h.next, by rw [hw]; exact h.now⟩
 ·rw [hb, hf]; exact h.bases
 ·rw [hf, hb]
  rcases at_set hV ht hx with ⟨rfl, rfl⟩ | ⟨_, hx⟩
  ·exact ⟨h1.kind, h1.owner, h1.ground, h1.life, hl⟩
  ·exact h.troops i x hx
 ·rw [last_set hV ht rfl, hn]
  rcases at_set hV ht hx with ⟨rfl, rfl⟩ | ⟨_, hx⟩
  ·exact h.ids i t ht
  ·exact h.ids i x hx
 ·rw [spots_set hV ht rfl]
  rcases at_set hV ht hx with ⟨rfl, rfl⟩ | ⟨_, hx⟩
  ·exact h.spots i t ht
  ·exact h.spots i x hx
theorem mine_some {W V : Wd} {d : Ded} (h : W.mine d = some V) : ∃ (k : Nat) (t : Trp), W.troops.findIdx? (isId d.who) = some k ∧ W.troops[k]? = some t ∧ t.id = d.who ∧ t.kind = 1 ∧ t.load < 5 ∧ beside t.spot d.spot = true ∧ W.field.isIn d.spot = true ∧ W.mines.getD (W.place d.spot) 0 ≠ 0 ∧
  V = { W with mines := W.mines.set (W.place d.spot) (W.mines.getD (W.place d.spot) 0 - 1), troops := W.troops.set k (Wd.addLoad t 1) } := by
 unfold Wd.mine at h
 cases hf : W.troops.findIdx? (isId d.who) with
 | none => rw [hf] at h; cases h
 | some k =>
  rw [hf] at h
  obtain ⟨t, ht, hid, hg⟩ := findId hf
  simp only [hg] at h
  split at h
  ·rename_i hc
   simp only [Bool.and_eq_true, decide_eq_true_eq, bne_iff_ne, beq_iff_eq] at hc
   exact ⟨k, t, rfl, ht, hid, hc.1.1.1.1, hc.1.1.1.2, hc.1.1.2, hc.1.2, hc.2, (Option.some.inj h).symm⟩
  ·cases h
theorem drop_some {W V : Wd} {d : Ded} (h : W.drop d = some V) : ∃ (k : Nat) (t : Trp) (n : Int), W.troops.findIdx? (isId d.who) = some k ∧ W.troops[k]? = some t ∧ t.id = d.who ∧ t.load ≠ 0 ∧ beside (W.bases.getD t.owner.toNat default) t.spot = true ∧ n = min t.load (1000000 - W.stocks.getD t.owner.toNat 0) ∧ 0 < n ∧
  V = { W with stocks := W.stocks.set t.owner.toNat (W.stocks.getD t.owner.toNat 0 + n), troops := W.troops.set k (Wd.addLoad t (-n)) } := by
 unfold Wd.drop at h
 cases hf : W.troops.findIdx? (isId d.who) with
 | none => rw [hf] at h; cases h
 | some k =>
  rw [hf] at h
  obtain ⟨t, ht, hid, hg⟩ := findId hf
  simp only [hg] at h
  split at h
  ·rename_i hc
   simp only [Bool.and_eq_true, decide_eq_true_eq, bne_iff_ne] at hc
   exact ⟨k, t, _, rfl, ht, hid, hc.1.1, hc.1.2, rfl, hc.2, (Option.some.inj h).symm⟩
  ·cases h
theorem hire_some {W V : Wd} {d : Ded} (h : W.hire d = some V) : ∃ c : Cel, W.free (W.bases.getD d.who.toNat default) = some c ∧ 0 ≤ d.who ∧ d.who < (W.bases.length : Int) ∧ (d.what = 1 ∨ d.what = 2) ∧ Wd.priceOf d.what ≤ W.stocks.getD d.who.toNat 0 ∧ W.troops.length < 100 ∧ W.next < 1000000 ∧
  V = { W with troops := W.troops ++ [⟨W.next, d.who, d.what, c, Wd.lifeOf d.what, 0⟩], next := W.next + 1, stocks := W.stocks.set d.who.toNat (W.stocks.getD d.who.toNat 0 - Wd.priceOf d.what) } := by
 unfold Wd.hire at h
 simp only at h
 split at h
 ·rename_i hc
  simp only [Bool.and_eq_true, decide_eq_true_eq] at hc
  have a := inB_true hc.1.1.1.1
  have b := inB_true hc.1.1.1.2
  split at h
  ·cases h
  ·rename_i c hfr
   exact ⟨c, hfr, a.1, by omega, by omega, hc.1.1.2, hc.1.2, hc.2, (Option.some.inj h).symm⟩
 ·cases h
theorem price_pos (k : Int) : 0 ≤ Wd.priceOf k := by unfold Wd.priceOf; split <;> (try split) <;> omega
theorem Good.mine {W V : Wd} {d : Ded} (h : Good W) (hd : W.mine d = some V) : Good V := by
 obtain ⟨k, t, _, ht, _, hk, hl, _, hin, hm0, rfl⟩ := mine_some hd
 have h1 := h.troops k t ht
 have hmo : Wd.mostOf t.kind = 5 := by rw [hk]; rfl
 obtain ⟨i1, i2, _⟩ := Fld.idx h.field hin
 have hlt : W.place d.spot < W.mines.length := by rw [h.ml]; unfold Wd.place; omega
 obtain ⟨m, hm⟩ := get_of hlt
 have h2 := h.mines _ m hm
 have hg : W.mines.getD (W.place d.spot) 0 = m := by rw [List.getD_eq_getElem?_getD, hm]; rfl
 rw [hg] at hm0 ⊢
 refine h.turned ht rfl (by have := h1.load; omega) rfl rfl rfl rfl rfl h.stocks (by simp) λ i x hx => ?_
 simp only at hx
 by_cases hi : W.place d.spot = i
 ·subst hi
  rw [List.getElem?_set_self hlt] at hx
  obtain rfl := Option.some.inj hx
  refine ⟨by omega, by omega, ?_⟩
  rcases h2.2.2 with h3 | h3
  ·omega
  ·exact .inr h3
 ·rw [List.getElem?_set_ne hi] at hx
  exact h.mines i x hx
theorem Good.drop {W V : Wd} {d : Ded} (h : Good W) (hd : W.drop d = some V) : Good V := by
 obtain ⟨k, t, n, _, ht, _, hl, _, hn, hn0, rfl⟩ := drop_some hd
 have h1 := h.troops k t ht
 have hlt : t.owner.toNat < W.stocks.length := by rw [h.sl]; have := h1.owner; omega
 obtain ⟨s, hs⟩ := get_of hlt
 have h2 := h.stocks _ s hs
 have hg : W.stocks.getD t.owner.toNat 0 = s := by rw [List.getD_eq_getElem?_getD, hs]; rfl
 rw [hg] at hn ⊢
 refine h.turned ht rfl (by have := h1.load; omega) rfl rfl rfl rfl (by simp) (λ i x hx => ?_) rfl h.mines
 simp only at hx
 by_cases hi : t.owner.toNat = i
 ·subst hi
  rw [List.getElem?_set_self hlt] at hx
  obtain rfl := Option.some.inj hx
  omega
 ·rw [List.getElem?_set_ne hi] at hx
  exact h.stocks i x hx
theorem Good.hire {W V : Wd} {d : Ded} (h : Good W) (hd : W.hire d = some V) : Good V := by
 obtain ⟨c, hfr, hw0, hw1, hk, hp, hnt, hnx, rfl⟩ := hire_some hd
 have hop := List.find?_some hfr
 unfold Wd.openTo at hop
 rw [Bool.and_eq_true] at hop
 have hany : ∀ t ∈ W.troops, t.spot ≠ c := λ t ht he => by
  have := hop.2
  rw [Bool.not_eq_true', List.any_eq_false] at this
  exact this t ht (by simp [isAt, he])
 have hlt : d.who.toNat < W.stocks.length := by rw [h.sl]; omega
 obtain ⟨s, hs⟩ := get_of hlt
 have h2 := h.stocks _ s hs
 have hg : W.stocks.getD d.who.toNat 0 = s := by rw [List.getD_eq_getElem?_getD, hs]; rfl
 rw [hg] at hp ⊢
 have hpp := price_pos d.what
 have hn := h.next
 have hsp : ∀ i, i ≤ W.troops.length → Wd.spots { W with troops := W.troops ++ [⟨W.next, d.who, d.what, c, Wd.lifeOf d.what, 0⟩], next := W.next + 1, stocks := W.stocks.set d.who.toNat (s - Wd.priceOf d.what) } i = W.spots i := λ i hi => by
  unfold Wd.spots
  simp only
  rw [List.take_append_of_le_length hi]
 have hla : ∀ i, i ≤ W.troops.length → Wd.lastId { W with troops := W.troops ++ [⟨W.next, d.who, d.what, c, Wd.lifeOf d.what, 0⟩], next := W.next + 1, stocks := W.stocks.set d.who.toNat (s - Wd.priceOf d.what) } i = W.lastId i := λ i hi => by
  unfold Wd.lastId
  simp only
  by_cases h0 : i = 0
  ·rw [if_pos h0, if_pos h0]
  ·rw [if_neg h0, if_neg h0, List.getD_eq_getElem?_getD, List.getD_eq_getElem?_getD, List.getElem?_append_left (by omega)]
 have hat : ∀ (i : Nat) x, (W.troops ++ [(⟨W.next, d.who, d.what, c, Wd.lifeOf d.what, 0⟩ : Trp)])[i]? = some x → (i < W.troops.length ∧ W.troops[i]? = some x) ∨ (i = W.troops.length ∧ x = ⟨W.next, d.who, d.what, c, Wd.lifeOf d.what, 0⟩) := λ i x hx => by
  by_cases hi : i < W.troops.length
  ·rw [List.getElem?_append_left hi] at hx; exact .inl ⟨hi, hx⟩
  ·rw [List.getElem?_append_right (by omega)] at hx
   have h0 : i - W.troops.length = 0 := by
    have := (List.getElem?_eq_some_iff.1 hx).1
    simp at this; omega
   rw [h0] at hx
   exact .inr ⟨by omega, by simpa using hx.symm⟩
 have hlast : W.lastId W.troops.length < W.next ∧ 0 ≤ W.lastId W.troops.length := by
  by_cases h0 : W.troops.length = 0
  ·rw [h0]; exact ⟨by show (0 : Int) < _; omega, Int.le_refl _⟩
  ·obtain ⟨t, ht⟩ := get_of (l := W.troops) (i := W.troops.length - 1) (by omega)
   have h4 := h.ids _ t ht
   have e : W.lastId W.troops.length = t.id := by
    unfold Wd.lastId
    rw [if_neg h0, List.getD_eq_getElem?_getD, ht]; rfl
   rw [e]; omega
 refine ⟨h.field, h.nb, by simp; omega, by simp; exact h.sl, h.bases, λ i x hx => ?_, h.ml, h.mines, λ i x hx => ?_, λ i x hx => ?_, λ i x hx => ?_, by simp only; omega, h.now⟩
 ·simp only at hx
  by_cases hi : d.who.toNat = i
  ·subst hi
   rw [List.getElem?_set_self hlt] at hx
   obtain rfl := Option.some.inj hx
   omega
  ·rw [List.getElem?_set_ne hi] at hx
   exact h.stocks i x hx
 ·rcases hat i x hx with ⟨_, hx⟩ | ⟨_, rfl⟩
  ·exact h.troops i x hx
  ·exact ⟨hk, ⟨hw0, hw1⟩, hop.1, by simp only; rcases hk with h | h <;> rw [h] <;> decide, by simp only; rcases hk with h | h <;> rw [h] <;> decide⟩
 ·rcases hat i x hx with ⟨hi, hx⟩ | ⟨rfl, rfl⟩
  ·rw [hla i (by omega)]
   have := h.ids i x hx
   simp only; omega
  ·rw [hla _ (Nat.le_refl _)]
   simp only; omega
 ·rcases hat i x hx with ⟨hi, hx⟩ | ⟨rfl, rfl⟩
  ·rw [hsp i (by omega)]; exact h.spots i x hx
  ·rw [hsp _ (Nat.le_refl _)]
   simp only
   cases hc : (W.spots W.troops.length).contains c with
   | false => rfl
   | true =>
    rw [List.contains_iff_mem] at hc
    unfold Wd.spots at hc
    obtain ⟨t, ht, he⟩ := List.mem_map.1 hc
    exact absurd he (hany t (List.mem_of_mem_take ht))
theorem Good.deed {W V : Wd} {d : Ded} (h : Good W) (hd : W.deed d = some V) : Good V := by
 unfold Wd.deed at hd
 split at hd
 ·exact h.mine hd
 ·split at hd
  ·exact h.drop hd
  ·split at hd
   ·exact h.hire hd
   ·cases hd
theorem Good.deeds {W : Wd} (h : Good W) : ∀ l : List Ded, Good (W.deeds l).1 := by
 intro l
 induction l generalizing W with
 | nil => exact h
 | cons d l ih =>
  unfold Wd.deeds
  cases hd : W.deed d with
  | none => exact ih h
  | some V => exact ih (h.deed hd)
end
section
open Go.RowKit
def trAt (a : Wd.At) (k : Nat) : Option Addr := a.T.map λ x => ⟨x.block, k * 7, none⟩
def trOf (a : Wd.At) (W : Wd) (id : Int) : Option Addr := match W.troops.findIdx? (isId id) with | none => none | some k => trAt a k
end
section
open Go.RowKit Go.Maps
namespace Cel
def key (c : Cel) : Value := .agg #[.int .i64 c.x, .int .i64 c.y]
end Cel
end
section
open Go.RowKit
def Wd.doE (W : Wd) (l : List Ded) : Int := if W.chk ≠ 0 then W.chk else if 200 < l.length then 2 else 0
def Wd.doW (W : Wd) (l : List Ded) : Wd := if W.doE l = 0 then (W.deeds l).1 else Wd.zero
def Wd.doB (W : Wd) (l : List Ded) : List Bool := if W.doE l = 0 then (W.deeds l).2 else []
end
section
open Go.RowKit
def wt (t : Trp) : Int := t.load + Wd.priceOf t.kind
def Wd.total (W : Wd) : Int := W.mines.sum + W.stocks.sum + (W.troops.map wt).sum
def Wd.worth (W : Wd) : Int := if W.chk = 0 then W.total else 0
end
section
open Go.RowKit
def smallW : Wd := ⟨⟨3, 1, [0, 0, 3]⟩, [⟨0, 0⟩], [20], [0, 0, 9], [⟨1, 0, 1, ⟨1, 0⟩, 10, 0⟩], 2, 0⟩
def smallL : List Ded := [(⟨1, 1, ⟨2, 0⟩, 0⟩ : Ded), (⟨3, 0, ⟨0, 0⟩, 2⟩ : Ded)]
def smallV : Wd := smallW.doW smallL
end
section
open Go.RowKit
open Go.Proofs.Ytifffjhhammeiaa.Mt
theorem rounds_three (w : World) : Calls Try.prog 12 #[.int .i64 3] w (λ e w' => ∃ A c T A0 k0, e = .returned (.tuple #[.slice A 3 c, .int .i64 0]) ∧ ((T : List SV).length = 3 ∧ T[0]? = some ⟨A0, 1, k0⟩) ∧ svRep.SOwn 28 24 w' w.heap.size (Rep.blkOf A) A c T ∧ Ext w w') := by
 refine (rounds_any 3 w).mono ?_
 rintro e w' ⟨e', A, c, T, L, ba, X, rfl, hR, hT, hP, hx⟩
 rcases hR with ⟨rfl, h2, h3, h4, N, M, K, hN, hM, hK, hL, hl⟩ | ⟨_, h, _⟩
 ·obtain rfl : N = 3 := by omega
  obtain rfl : M = 3 := by omega
  obtain rfl : K = 2 := by omega
  have h0 : L[0]? = some (L[0]'(by omega)) := List.getElem?_eq_getElem (by omega)
  obtain ⟨A0, k0, g1, g2, g3⟩ := hP.2.2 0 _ h0
  have hlen := (hl 0 _ h0).length_eq
  rw [rnd_full (by omega) (by omega) (by omega) (by omega)] at hlen
  rw [hlen] at g1
  exact ⟨A, c, T, A0, k0, by rw [h4, hL], ⟨by omega, g1⟩, hT, hx⟩
 ·omega
theorem table_two (A : Option Addr) (c : Nat) (w : World) (h : Gam.rep.SHas 24 w A c [(⟨0, 1, 1⟩ : Gam)]) : Calls Try.prog 15 #[.int .i64 2, .slice A 1 c] w (λ e w' => ∃ A' c', e = .returned (.tuple #[.slice A' 2 c', .int .i64 0]) ∧ repI.SOwn 3 8 w' w.heap.size (Rep.blkOf A') A' c' ([1, 0] : List Int) ∧ Ext w w') := by
 refine (table_any 2 [⟨0, 1, 1⟩] A c w h).mono ?_
 rintro e w' ⟨e', A', c', L, rfl, ⟨h1, h2⟩, h3, h4⟩
 have e1 : mtE 2 [⟨0, 1, 1⟩] = 0 := by decide
 have e2 : tbR 2 [⟨0, 1, 1⟩] = [1, 0] := by
  have e3 : scR 2 [⟨0, 1, 1⟩] = [⟨0, 0, 0⟩, ⟨1, 3, 1⟩] := by decide
  unfold tbR
  rw [e3, ← tabS_uniq (T := [⟨1, 3, 1⟩, ⟨0, 0, 0⟩]) (List.Perm.swap _ _ _) (by decide)]; rfl
 rw [e2] at h2
 rw [e1] at h1
 subst h1 h2
 exact ⟨A', c', rfl, h3, h4⟩
theorem matchLives_any  (w : World) :
  Calls Try.prog 13 #[] w (λ e w' => e = .returned (.bool true) ∧ Ext w w') := by
 refine calls_W (n := 38) Try.func13 rfl rfl rfl ?_
 refine sg <| va rfl <| nK <| sg <| ca eF26 rfl rfl ((rounds_three _).mono ?_)
 rintro e w_4 ⟨A1, c1, T1, B1, k1, rfl, hT1, HT1, x_5⟩
 refine ⟨_, rfl, ?_⟩
 have := x_5.size
 have z_4 := eT (Ext.rf w) x_5
 have u_2 := λ q hq => (HT1.lt q hq).2
 have lo_3 := λ q hq => (HT1.lt q hq).1
 refine vm rfl <| vL (ex rfl rfl) <| vL (ex rfl rfl) <| va rfl <| va rfl <| nK <| sg <| vL (v := .agg #[.int .i64 0, .int .i64 1, .int .i64 1]) (bd rfl (by kernel_rfl)) <| bs (e := 38) (cs := [.int .i64 0, .int .i64 1, .int .i64 1]) rfl (λ _ => by kernel_rfl) rfl λ w_7 b_8 x_9 l_10 B_11 => ?_
 have := x_9.size
 have z_7 := eT z_4 x_9
 have q_13 := B_11.lt
 refine ca eF27 rfl rfl ((table_two _ _ _ (Blk.hasN (R := Gam.rep) (by_ := 24) (k := [(⟨0, 1, 1⟩ : Gam)]) B_11 [[.int .i64 0, .int .i64 1, .int .i64 1]] rfl (⟨⟨rfl, ⟨okI_iff.2 (by decide), okI_iff.2 (by decide), okI_iff.2 (by decide)⟩⟩, trivial⟩) (by simp) (by simp))).mono ?_)
 rintro e w_17 ⟨A14, c14, rfl, HI14, x_18⟩
 refine ⟨_, rfl, ?_⟩
 have := x_18.size
 have z_17 := eT z_7 x_18
 have u_15 := λ q hq => (HI14.lt q hq).2
 have lo_16 := λ q hq => (HI14.lt q hq).1
 refine vm rfl <| vL (ex rfl rfl) <| vL (ex rfl rfl) <| va rfl <| va rfl <| nK <| sg <| vm rfl <| vL (beq rfl rfl) <| vm rfl <| ug rfl rfl rfl <| vm rfl <| ug rfl rfl rfl <| vL (beq rfl rfl) <| vL (pkT rfl rfl) <| vm rfl <| ug rfl rfl rfl <| vm rfl <| ug rfl rfl rfl <| vL (ln Try.underlying22 rfl) <| ug rfl rfl rfl <| vL (beq rfl rfl) <| ?_
 refine vL (pkT rfl rfl) <| vm rfl <| ug rfl rfl rfl <| vm rfl <| ug rfl rfl rfl <| ?_
 have HT1 := HT1.later (eT x_9 x_18)
 refine vL (iA 0 Try.underlying22 eF15 rfl rfl (HT1.has.adr (zl 0 (by first | omega | (rw [hT1.1]; omega)))) rfl (by first | omega | (rw [hT1.1]; omega))) <| ug rfl rfl rfl <| vL (v := .slice B1 1 k1) (ld rfl (Rep.SHas.one' hcV (HT1.has.adh (zl 0 (by first | omega | (rw [hT1.1]; omega)))) hT1.2 rfl eF16)) <| ug rfl rfl rfl <| vL (ln Try.underlying28 rfl) <| ug rfl rfl rfl <| vL (beq rfl rfl) <| vL (pkT rfl rfl) <| vm rfl <| ug rfl rfl rfl <| vm rfl <| ug rfl rfl rfl <| bs (e := 3) (cs := [.int .i64 1, .int .i64 0]) rfl (λ _ => by kernel_rfl) rfl λ w_20 b_21 x_22 l_23 B_24 => ?_
 have := x_22.size
 have z_20 := eT z_17 x_22
 have q_26 := B_24.lt
 refine ug rfl rfl rfl <| ?_
 have HI14 := HI14.later x_22
 refine ca eF28 rfl rfl ((equal_I _ _ _ _ _ _ ([1, 0] : List Int) ([1, 0]) _ HI14.has (Blk.hasN (R := repI) (by_ := 8) (k := [1, 0]) B_24 [[.int .i64 1], [.int .i64 0]] rfl (⟨⟨rfl, okI_iff.2 (by decide)⟩, ⟨⟨rfl, okI_iff.2 (by decide)⟩, trivial⟩⟩) (by simp) (by simp))).mono ?_)
 rintro e w_27 ⟨rfl, x_28⟩
 refine ⟨_, rfl, ?_⟩
 have := x_28.size
 have z_27 := eT z_20 x_28
 refine vL (pkT rfl rfl) <| va rfl <| nK <| rt <| tR (.tmp rfl .nil) <| ?_
 exact ⟨ret_true (by decide), z_27⟩
end
section
open Go.RowKit
open Go.Proofs.Ytifffjhhammeiaa.Mt
theorem clone_Gm (A : Option Addr) (c : Nat) (l : List Gam) (w : World) (h : Gam.rep.SHas 24 w A c l) :
  Calls Try.prog 16 #[.slice A l.length c] w λ e w' => ∃ A' c', e = .returned (.slice A' l.length c') ∧ Gam.rep.SOwn 38 24 w' w.heap.size (Rep.blkOf A') A' c' l ∧ (A' = none ↔ A = none) ∧ Below w.heap.size w w' := by
 obtain ⟨i0, hi, hz0, hz1, hz2⟩ := info_parts Gam.info
 have qnil : ∀ (w : World) (a : Option Addr) (n c n' c' : Nat), (binOp .eql 33 (.slice a n c) (.slice none n' c')).run Try.prog w = .ok (.bool a.isNone) w := λ w a n c n' c' => Lib.run_eql_slice_nil w _ _ a n c n' c' Try.underlying33
 cases A with
 | none =>
  obtain rfl : c = 0 := h.2.2.2.1 rfl
  obtain rfl : l = [] := List.eq_nil_of_length_eq_zero (by have := h.1; omega)
  go_enter Try.func16, Try.ntmps16
  go_wp2_with fail
  go_ret
  exact ⟨none, 0, rfl, Rep.SOwn.nil _, by simp, Below.refl _ _⟩
 | some a =>
  have hb0 : Below w.heap.size w (w.alloc (.cells #[] 38)) := (Below.refl _ w).alloc (Nat.le_refl _) _
  obtain ⟨n, HN⟩ : ∃ n, Hid (l.length = n) := ⟨_, Lib.hid rfl⟩
  obtain ⟨h1, h2, h3, h4, ess, h5, h6⟩ := h.keep hb0
  have H5 := Lib.hid h5
  have hone : ∀ u ∈ ess.flatten, u.oneCell' = true := by
   intro u hu
   obtain ⟨y, hy, hu⟩ := List.mem_flatten.1 hu
   obtain ⟨a, ha⟩ := h5.left y hy
   exact Gam.rep.one ha u hu
  have hraw : ∀ (j : Nat) u, ess.flatten[j]? = some u → Gam.rep.raw (j % Gam.rep.size) u := λ j u hu => flat_raw h5 (by decide) hu
  rw [HN.out] at h1 h3 h6
  have HR := Lib.hid h6
  have HE := Lib.hid (Own.empty (e := 38) (size := Gam.rep.size) (G := Gam.rep.raw) w (Nat.le_refl w.heap.size))
  clear h h4 h5 h6
  rw [HN.out]
  go_enter Try.func16, Try.ntmps16
  go_wp2_with (at_builtin; refine wpList_append_all _ rfl _ _ 33 rfl w.heap.size 38 i0 Gam.zero Gam.rep.size 24 Try.underlying33 hi hz0 hz1 hz2 rfl (by decide) Gam.rep.raw Gam.zero_raw _ _ _ rfl HE.out (some a) n c ess.flatten rfl HR.out hone hraw ?qc4 ?qc5 ?qc6 ?_)
  case qc4 => unfold maxLen; omega
  case qc5 => omega
  case qc6 => simp
  intro v' w1 hown hgrow hnil hat
  have hb1 := hb0.grown hgrow (by simp) (by intro k hk; simp [Value.ownBlock] at hk; omega)
  obtain ⟨A1, c1, rfl, hle, _, _, _, hnn⟩ := hown.shape
  have hA1 : A1 ≠ none := by
   intro h
   subst h
   exact hnil (hnn rfl)
  have HO : Hid (Gam.rep.SOwn 38 24 w1 w.heap.size (Rep.blkOf A1) A1 c1 l) := Lib.hid (Rep.SOwn.of_plain Gam.plain H5.out (by rw [HN.out]; exact h3) (by rw [HN.out]; simpa using hown))
  have HA1 := Lib.hid hA1
  clear hgrow hnil hat hown hA1 hnn hone hraw
  go_wp2_with fail
  go_ret
  exact ⟨A1, c1, rfl, HO.out, ⟨λ h => absurd h HA1.out, λ h => by cases h⟩, hb1⟩
end
section
open Go.RowKit
section
variable {P : Program} {n : Nat} {E E' : List (Nat × Value)} {a : Act} {w w' w0 w1 : World} {Q : Exit → Act → World → Prop} {ops : Array Oper}
variable {d : Nat} {ty : TypeId} {pos : String} {af : Array Edge} {g : Option (Nat × Bool)} {x y z : Operand} {t : TypeId} {rest : List Oper}
theorem apX {α : Type} {R : Rep α} {e by_ B b c c2 : Nat} {A : Option Addr} {l : List α} {zv : Value} {eb : TypeId} {fr : Nat × Nat} {news : List Value} (ht : P.underlying t = some (.slice e)) (hi : (P.info? e).map (λ i => (i.zero, i.size, i.bytes)) = some (some zv, R.size, by_)) (hby : 0 < by_ ∧ by_ ≤ 1000)
  (h : R.SOwn e by_ w B (Rep.blkOf A) A c l) (h0 : 0 < l.length) (hb : Blk w b news eb fr) (hn : news.length = R.size) (h1 : ∀ u ∈ news, u.oneCell' = true)
  (hs : ev E x = some (.slice A l.length c)) (hx : ev E y = some (.slice (some ⟨b, 0, none⟩) 1 c2)) (hd : Nat.blt d n = true)
  (hk : ∀ w1 A' c', Mod (Rep.blkOf A) w w1 → WL P n ops Q rest ((d, .slice A' (l.length + 1) c') :: E) w1) :
  WL P n ops Q (⟨some d, .call { callee := .builtin .append, args := #[x, y], argTypes := #[t, t] }, ty, pos, af, none⟩ :: rest) E w := by
 cases hq : P.info? e with
 | none => rw [hq] at hi; cases hi
 | some i =>
  rw [hq] at hi
  simp only [Option.map_some, Option.some.injEq, Prod.mk.injEq] at hi
  obtain ⟨i1, i2, i3⟩ := hi
  have hlb := h.1
  obtain ⟨_, ps, hf, hnd, ho, h5⟩ := h
  have hcells : ∀ j u, news[j]? = some u → w.cell? ((⟨b, 0, none⟩ : Addr).add j) = some u := λ j u hj => by
   have e : (⟨b, 0, none⟩ : Addr).add j = ⟨b, j, none⟩ := by rw [Addr.add_lit, Nat.zero_add]
   rw [e]; exact (hb.cell j).trans hj
  have hrow := Own.row ho
  obtain ⟨hx1, hx2⟩ := ho
  rcases hx2 with ⟨hx2, _⟩ | ⟨g2, cap, cur, hv, hB, hh, hnc, hcm2, hcs, ht2, hG⟩
  ·injection hx2 with _ e2 _; omega
  injection hv with e1 e2 e3
  subst e1 e3
  have key : ∃ A' c' W1, (Builtin.append_ #[t, t] ty #[.slice (some ⟨g2, 0, none⟩) l.length c, .slice (some ⟨b, 0, none⟩) 1 c2]).run P w = .ok (.slice A' (l.length + 1) c') W1 ∧ Mod [g2] w W1 := by
   by_cases hroom : l.length + 1 ≤ c
   ·exact ⟨_, _, _, run_append_room (P := P) w t ty e i ht hq g2 l.length c cur hh ⟨b, 0, none⟩ 1 c2 news (by rw [i2, hn, Nat.one_mul]) hcells h1 hroom (by rw [hcs, hn, i2, ← Nat.succ_mul]; exact Nat.mul_le_mul_right _ hroom), Mod.setRow w g2 _⟩
   ·have hn2 := nextslicecap_le_wide (need := l.length + 1) (old := c) (by omega)
    have hfit : Builtin.nextslicecap (l.length + 1) c * i.bytes ≤ 281474976710656 := by
     rw [i3]
     refine Nat.le_trans (Nat.mul_le_mul_right _ hn2) ?_
     have e1 : 2 * ((l.length + 1) / 4) ≤ l.length + 1 := by omega
     generalize (l.length + 1) / 4 = q at e1
     have e2 := Nat.mul_le_mul_right by_ e1
     have e3 : (l.length + 1 + q + 192) * by_ = l.length * by_ + 1 * by_ + q * by_ + 192 * by_ := by rw [Nat.add_mul, Nat.add_mul, Nat.add_mul]
     have e4 : (l.length + 1) * by_ = l.length * by_ + 1 * by_ := Nat.add_mul _ _ _
     rw [Nat.mul_assoc, e4] at e2
     rw [e3]
     omega
    exact ⟨_, _, _, run_append_grow (P := P) w t ty e i zv ht hq i1 ⟨g2, 0, none⟩ l.length c _ (by rw [hx1, i2]) (hrow.cells (g := g2) rfl) ⟨b, 0, none⟩ 1 c2 news (by rw [i2, hn, Nat.one_mul]) hcells (by omega) (by have := Nat.le_mul_of_pos_right l.length hby.1; omega) hfit, Mod.of_ext (eT (Below.refl _ w).drew ((Below.refl _ w.drew).alloc (Nat.le_refl _) _))⟩
  obtain ⟨A', c', W1, hr, hm⟩ := key
  refine vl (w' := W1) (v := .slice A' (l.length + 1) c') (λ n a ha => ?_) hd (hk W1 A' c' hm)
  simp only [execOp, resolve, invoke, builtin, Sem.run_bind, Sem.run_pure, Result.andThen_ok, List.map_toArray, List.map_cons, List.map_nil, ha.ev hs, ha.ev hx, hr]
end
end
section
open Go.RowKit
theorem idx_none_d {α : Type} [Inhabited α] {p : α → Bool} {l : List α} (h : ∀ i, i < l.length → p (l.getD i default) = false) : idxI p l = -1 :=
 idxI_none λ j hj => by have := h j hj; rwa [List.getD_eq_getElem?_getD, List.getElem?_eq_getElem hj] at this
theorem idx_some_d {α : Type} [Inhabited α] {p : α → Bool} {l : List α} {k : Nat} (hk : k < l.length) (h1 : p (l.getD k default) = true) (h : ∀ i, i < k → p (l.getD i default) = false) : idxI p l = (k : Int) :=
 idxI_some hk (by rwa [List.getD_eq_getElem?_getD, List.getElem?_eq_getElem hk] at h1) λ j hj => by have := h j hj; rwa [List.getD_eq_getElem?_getD, List.getElem?_eq_getElem (by omega : j < l.length)] at this
theorem index_I (x : Int) (A : Option Addr) (c : Nat) (l : List Int) (w : World) (hl : repI.SHas 8 w A c l) :
  Calls Try.prog 17 #[.slice A l.length c, .int .i64 x] w (λ e w' => e = .returned (.int .i64 (idxI (λ y => x == y) l)) ∧ Ext w w') := by
 have hll := hl.len_le
 refine calls_W (n := 19) Try.func17 rfl rfl rfl ?_
 refine sg <| va rfl <| nK <| sq <| sg <| vm rfl <| vL (ln Try.underlying34 rfl) <| vm rfl <| nK <| bk <| ?_
 refine lp (λ mI EI wI => ∃ k : Nat, EI = [(0, .slice A l.length c), (1, .int .i64 x), (7, .int .i64 (l.length : Int)), (8, .int .i64 (k : Int))] ∧ mI = l.length - k ∧ Ext w wI ∧ (k ≤ l.length) ∧ (∀ i, i < k → ((λ y => x == y)) (l.getD i 0) = false)) _ _ ⟨0, rfl, rfl, (Ext.rf w), by omega, λ i hi => by omega⟩ (.cons rfl (.cons rfl (.cons rfl (.cons (loI rfl (by first | omega | rfl | (simp <;> omega))) .nil)))) ?_
 rintro m_2 E_3 w_1 ⟨k, rfl, rfl, z_1, hk, hg⟩
 have := z_1.size
 refine sg <| vL (blt rfl rfl) <| nK <| sq <| ?_
 refine clt rfl (λ h_5 => ?_) (λ h_5 => ?_)
 ·refine sK <| sq <| bk <| sg <| vm rfl <| va rfl <| nK <| sg <| vm rfl <| vm rfl <| vm rfl <| vL (iA k Try.underlying34 eF2 rfl rfl ((hl.keep z_1).adr (zl k (by omega))) rfl (by omega)) <| vL (ld rfl (Rep.SHas.one' hcI ((hl.keep z_1).adh (zl k (by omega))) (get_d (l := l) (u := 0) (by omega)) rfl eF7)) <| vL (beq rfl rfl) <| nK <| ?_
  refine ceq rfl (λ h_6 => ?_) (λ h_6 => ?_)
  ·refine sg <| vm rfl <| va rfl <| nK <| rt <| tB <| tT <| tK <| tB <| tT <| tR (.tmp rfl .nil) <| ?_
   exact ⟨by have e := idx_some_d (p := (λ y => x == y)) (l := l) (k := k) (by omega) (by simpa using h_6) hg; rw [e]; rfl, z_1⟩
  ·refine sk <| nB <| nT <| rg <| vL (bad rfl rfl (inI (by omega))) <| vm rfl <| nl <| ?_
   exact nI _ _ ⟨k + 1, rfl, rfl, z_1, by omega, lt_succ_all hg (by simpa using h_6)⟩ (by omega) (.cons rfl (.cons rfl (.cons rfl (.cons (loI rfl (by first | omega | rfl | (simp <;> omega))) .nil))))
 ·refine xt <| xT <| xK <| xB <| nT <| sg <| va rfl <| nK <| rt <| tR (.tmp rfl .nil) <| ?_
  exact ⟨by have e := idx_none_d (p := (λ y => x == y)) (l := l) (λ i hi => hg i (by omega)); rw [e]; rfl, z_1⟩
end
section
open Go.RowKit
theorem MlC_el_S_api_Game : ElT Try.prog Gam.rep 33 38 24 := ElT.mk_ (z := Gam.zero) (k := 3) Try.underlying33 Gam.info rfl rfl (by decide) Gam.zero_raw
open Go.Proofs.Ytifffjhhammeiaa.Mt
theorem scores_big (n : Int) (L : Nat) (A : Option Addr) (c : Nat) (w : World) (hL : 3000 < L) :
  Calls Try.prog 41 #[.int .i64 n, .slice A L c] w (λ e w' => ∃ e', e = .returned (.tuple #[.slice none 0 0, .int .i64 e']) ∧ e' ≠ 0 ∧ Ext w w') := by
 have kL : decide (3000 < (L : Int)) = true := decide_eq_true (by omega)
 refine calls_W (n := 137) Try.func41 rfl rfl rfl ?_
 refine sg <| va rfl <| va rfl <| nK <| sq <| sg <| vm rfl <| vL (blt rfl rfl) <| vm rfl <| vQ rfl rfl rfl rfl (λ hc => mv rfl) rfl <| vQ rfl rfl rfl rfl (λ hc => bgt (gt hc rfl) rfl) rfl <| vL (pO rfl rfl rfl rfl) <| nK <| ?_
 refine cb rfl (λ h_1 => ?_) (λ h_1 => ?_)
 ·simp only [bS] at h_1
  refine sg <| va rfl <| va rfl <| nK <| rt <| tT <| tR (.tmp rfl (.tmp rfl .nil)) <| ?_
  exact ⟨1, rfl, by decide, (Ext.rf w)⟩
 ·simp only [bS] at h_1
  refine sK <| sq <| sg <| vm rfl <| vL (ln Try.underlying33 rfl) <| vL (bgt rfl rfl) <| nK <| cT (evb rfl kL) <| sg <| va rfl <| va rfl <| nK <| rt <| tT <| tR (.tmp rfl (.tmp rfl .nil)) <| ?_
  exact ⟨2, rfl, by decide, (Ext.rf w)⟩
theorem table_big (n : Int) (L : Nat) (A : Option Addr) (c : Nat) (w : World) (hL : 3000 < L) :
  Calls Try.prog 15 #[.int .i64 n, .slice A L c] w (λ e w' => ∃ e', e = .returned (.tuple #[.slice none 0 0, .int .i64 e']) ∧ e' ≠ 0 ∧ Ext w w') := by
 have kL : decide (3000 < (L : Int)) = true := decide_eq_true (by omega)
 refine calls_W (n := 35) Try.func15 rfl rfl rfl ?_
 refine sg <| va rfl <| va rfl <| nK <| sg <| vm rfl <| vm rfl <| ca eF22 rfl rfl ((scores_big _ _ _ _ _ hL).mono ?_)
 rintro e w_1 ⟨e1, rfl, he1, x_2⟩
 refine ⟨_, rfl, ?_⟩
 have := x_2.size
 have z_1 := eT (Ext.rf w) x_2
 refine vm rfl <| vL (ex rfl rfl) <| vL (ex rfl rfl) <| va rfl <| va rfl <| nK <| sq <| sg <| vm rfl <| vL (bne rfl rfl) <| nK <| cT (evb rfl (show (e1 != 0) = true by simpa using he1)) <| sg <| vm rfl <| va rfl <| va rfl <| nK <| rt <| tT <| ?_
 refine tR (.tmp rfl (.tmp rfl .nil)) <| ?_
 exact ⟨e1, rfl, he1, z_1⟩
theorem matchBest_big (n a b : Int) (l : List Gam) (A : Option Addr) (c : Nat) (w : World) (hl : Gam.rep.SHas 24 w A c l) (w2 : (Lit.int .i64 a).wf = true) (w3 : (Lit.int .i64 b).wf = true) (h3 : 3000 < l.length) :
  Calls Try.prog 5 #[.int .i64 n, .slice A l.length c, .int .i64 a, .int .i64 b] w (λ e w' => e = .returned (.bool true) ∧ Ext w w') := by
 refine calls_W (n := 49) Try.func5 rfl rfl rfl ?_
 refine sg <| va rfl <| nK <| sg <| vm rfl <| vm rfl <| ca eF27 rfl rfl ((table_big _ l.length _ _ _ (by omega)).mono ?_)
 rintro e w_2 ⟨e1, rfl, he1, x_3⟩
 refine ⟨_, rfl, ?_⟩
 have := x_3.size
 have z_2 := eT (Ext.rf w) x_3
 have k1 : (e1 != 0) = true := by simpa using he1
 refine vm rfl <| vL (ex rfl rfl) <| vL (ex rfl rfl) <| va rfl <| va rfl <| nK <| sg <| vm rfl <| vm rfl <| ca eF29 rfl rfl ((clone_Gm _ _ l _ (hl.keep z_2)).mono ?_)
 rintro e w_8 ⟨A5, c5, rfl, OC5, hn5, x_9⟩
 refine ⟨_, rfl, ?_⟩
 have := x_9.size
 have z_8 := eT z_2 x_9
 have u_6 := λ q hq => (OC5.lt q hq).2
 have lo_7 := λ q hq => (OC5.lt q hq).1
 refine vm rfl <| vm rfl <| vL (v := .agg #[.int .i64 a, .int .i64 b, .int .i64 0]) (bd rfl (by kernel_rfl)) <| bs (e := 38) (cs := [.int .i64 a, .int .i64 b, .int .i64 0]) rfl (λ _ => by kernel_rfl) rfl λ w_11 b_12 x_13 l_14 B_15 => ?_
 have := x_13.size
 have z_11 := eT z_8 x_13
 have q_17 := B_15.lt
 have OC5 := OC5.later x_13
 refine apX (R := Gam.rep) Try.underlying33 Gam.info (by decide) OC5 (by omega) B_15 rfl (Gam.cells_one ⟨a, b, 0⟩) rfl rfl rfl λ w_18 A_19 c_20 m_21 => ?_
 have := m_21.size
 have z_18 := Ext.mod z_11 m_21 (λ q hq => Nat.le_trans (by omega) (OC5.lt q hq).1)
 have := m_21.size
 refine ca eF27 rfl rfl ((table_big _ (l.length + 1) _ _ _ (by omega)).mono ?_)
 rintro e w_25 ⟨e24, rfl, he24, x_26⟩
 refine ⟨_, rfl, ?_⟩
 have := x_26.size
 have z_25 := eT z_18 x_26
 have k24 : (e24 != 0) = true := by simpa using he24
 refine vm rfl <| vL (ex rfl rfl) <| vL (ex rfl rfl) <| va rfl <| va rfl <| nK <| sq <| sg <| ca eF30 rfl rfl ((matchLives_any _).mono ?_)
 rintro e w_28 ⟨rfl, x_29⟩
 refine ⟨_, rfl, ?_⟩
 have := x_29.size
 have z_28 := eT z_25 x_29
 refine vL (nt rfl) <| vm rfl <| ug rfl rfl rfl <| vm rfl <| ug rfl rfl rfl <| vL (bne rfl rfl) <| vL (pkF rfl (evb rfl k1)) <| vm rfl <| vQ (v := undef) rfl rfl rfl rfl (λ hc => nomatch hc) rfl <| vQ (v := undef) rfl rfl rfl rfl (λ hc => nomatch hc) rfl <| vL (pkT rfl rfl) <| nK <| cT rfl <| sg <| ca eF30 rfl rfl ((matchLives_any _).mono ?_)
 rintro e w_31 ⟨rfl, x_32⟩
 refine ⟨_, rfl, ?_⟩
 have := x_32.size
 have z_31 := eT z_28 x_32
 refine va rfl <| nK <| rt <| tT <| tR (.tmp rfl .nil) <| ?_
 exact ⟨rfl, z_31⟩
theorem matchBest_small (n a b : Int) (l : List Gam) (A : Option Addr) (c : Nat) (w : World) (hl : Gam.rep.SHas 24 w A c l) (w2 : (Lit.int .i64 a).wf = true) (w3 : (Lit.int .i64 b).wf = true) (h3 : l.length ≤ 3000) :
  Calls Try.prog 5 #[.int .i64 n, .slice A l.length c, .int .i64 a, .int .i64 b] w (λ e w' => e = .returned (.bool true) ∧ Ext w w') := by
 refine calls_W (n := 49) Try.func5 rfl rfl rfl ?_
 refine sg <| va rfl <| nK <| sg <| vm rfl <| vm rfl <| ca eF27 rfl rfl ((table_any n l _ _ _ (hl.keep (Ext.rf w))).mono ?_)
 rintro e w_4 ⟨e1, A1, c1, L1, rfl, ⟨he1, hL1⟩, HI1, x_5⟩
 refine ⟨_, rfl, ?_⟩
 have := x_5.size
 have z_4 := eT (Ext.rf w) x_5
 have u_2 := λ q hq => (HI1.lt q hq).2
 have lo_3 := λ q hq => (HI1.lt q hq).1
 refine vm rfl <| vL (ex rfl rfl) <| vL (ex rfl rfl) <| va rfl <| va rfl <| nK <| sg <| vm rfl <| vm rfl <| ca eF29 rfl rfl ((clone_Gm _ _ l _ (hl.keep z_4)).mono ?_)
 rintro e w_10 ⟨A7, c7, rfl, OC7, hn7, x_11⟩
 refine ⟨_, rfl, ?_⟩
 have := x_11.size
 have z_10 := eT z_4 x_11
 have u_8 := λ q hq => (OC7.lt q hq).2
 have lo_9 := λ q hq => (OC7.lt q hq).1
 refine vm rfl <| vm rfl <| vL (v := .agg #[.int .i64 a, .int .i64 b, .int .i64 0]) (bd rfl (by kernel_rfl)) <| bs (e := 38) (cs := [.int .i64 a, .int .i64 b, .int .i64 0]) rfl (λ _ => by kernel_rfl) rfl λ w_13 b_14 x_15 l_16 B_17 => ?_
 have := x_15.size
 have z_13 := eT z_10 x_15
 have q_19 := B_17.lt
 have OC7 := OC7.later x_15
 refine ap MlC_el_S_api_Game Rep.flat_bare OC7 (Blk.has1 (R := Gam.rep) (by_ := 24) (q := (⟨a, b, 0⟩ : Gam)) B_17 ⟨rfl, ⟨w2, w3, (show (Lit.int .i64 (0 : Int)).wf = true by decide)⟩⟩ (by decide)) rfl rfl (by simp only [List.length_cons, List.length_nil]; omega) (by simp only [List.length_cons, List.length_nil]; omega) (by omega) rfl λ w_20 A_21 c_22 m_23 O_24 g_25 n_26 => ?_
 have := m_23.size
 have z_20 := Ext.mod z_13 m_23 (λ q hq => Nat.le_trans (by omega) (OC7.lt q hq).1)
 have u_28 := λ q hq => (O_24.lt q hq).2
 have := m_23.size
 refine ca eF27 rfl rfl ((table_any n (l ++ [(⟨a, b, 0⟩ : Gam)]) _ _ _ O_24.has).mono ?_)
 rintro e w_33 ⟨e30, A30, c30, L30, rfl, ⟨he30, hL30⟩, HI30, x_34⟩
 refine ⟨_, rfl, ?_⟩
 have := x_34.size
 have z_33 := eT z_20 x_34
 have u_31 := λ q hq => (HI30.lt q hq).2
 have lo_32 := λ q hq => (HI30.lt q hq).1
 refine vm rfl <| vL (ex rfl rfl) <| vL (ex rfl rfl) <| va rfl <| va rfl <| nK <| sq <| sg <| ca eF30 rfl rfl ((matchLives_any _).mono ?_)
 rintro e w_36 ⟨rfl, x_37⟩
 refine ⟨_, rfl, ?_⟩
 have := x_37.size
 have z_36 := eT z_33 x_37
 refine vL (nt rfl) <| vm rfl <| ug rfl rfl rfl <| vm rfl <| ug rfl rfl rfl <| vL (bne rfl rfl) <| vL (pkF rfl rfl) <| vm rfl <| vQ rfl rfl rfl rfl (λ hc => mv rfl) rfl <| vQ rfl rfl rfl rfl (λ hc => bne (gt hc rfl) rfl) rfl <| vL (pO rfl rfl rfl rfl) <| nK <| ?_
 refine cb rfl (λ h_39 => ?_) (λ h_39 => ?_)
 ·simp only [bS] at h_39
  refine sg <| ca eF30 rfl rfl ((matchLives_any _).mono ?_)
  rintro e w_40 ⟨rfl, x_41⟩
  refine ⟨_, rfl, ?_⟩
  have := x_41.size
  have z_40 := eT z_36 x_41
  refine va rfl <| nK <| rt <| tT <| tR (.tmp rfl .nil) <| ?_
  exact ⟨rfl, z_40⟩
 ·simp only [bS] at h_39
  have hz : e1 = 0 ∧ e30 = 0 := by have h_ := h_39; first | exact h_ | simpa using h_
  refine sK <| sg <| vm rfl <| vm rfl <| ?_
  have HI30 := HI30.later x_37
  refine ca eF31 rfl rfl ((index_I a _ _ L30 _ HI30.has).mono ?_)
  rintro e w_43 ⟨rfl, x_44⟩
  refine ⟨_, rfl, ?_⟩
  have := x_44.size
  have z_43 := eT z_36 x_44
  refine vm rfl <| vm rfl <| ?_
  have HI1 := HI1.later (eT x_11 x_15)
  have HI1 := HI1.mod m_23 (λ q hq h => by exfalso; (have := lo_9 q h; (have := u_2 q hq; omega)))
  have HI1 := HI1.later (eT x_34 (eT x_37 x_44))
  refine ca eF31 rfl rfl ((index_I a _ _ L1 _ HI1.has).mono ?_)
  rintro e w_46 ⟨rfl, x_47⟩
  refine ⟨_, rfl, ?_⟩
  have := x_47.size
  have z_46 := eT z_43 x_47
  refine vL (ble rfl rfl) <| va rfl <| nK <| rt <| tR (.tmp rfl .nil) <| ?_
  exact ⟨ret_true (decide_eq_true (by rw [hL30, hL1]; exact best_ok (he1.symm.trans hz.1) (he30.symm.trans hz.2))), z_46⟩
theorem matchBest_any (a0 : Int) (a1 : Option Addr) (len1 cap1 : Nat) (a2 : Int) (a3 : Int) (w : World) (w0 : (Lit.int .i64 a0).wf = true) (h1 : (.slice (.cons (.int .i64) (.cons (.int .i64) (.cons (.int .i64) .nil))) 24 : Sh).Ok w [.slice a1 len1 cap1]) (w2 : (Lit.int .i64 a2).wf = true) (w3 : (Lit.int .i64 a3).wf = true) :
  Calls Try.prog 5 #[.int .i64 a0, .slice a1 len1 cap1, .int .i64 a2, .int .i64 a3] w λ e w' => e = .returned (.bool true) ∧ Below w.heap.size w w' := by
 obtain ⟨Ax, cx, l, e1, hl1⟩ := Rep.opens_slice (R := Gam.rep) (by_ := 24) Gam.opens rfl (by decide) h1
 injection e1 with e_ _
 injection e_ with q1_ q2_ q3_
 subst q1_ q2_ q3_
 by_cases h3 : 3000 < l.length
 ·exact matchBest_big a0 a2 a3 l _ _ w hl1 w2 w3 h3
 ·exact matchBest_small a0 a2 a3 l _ _ w hl1 w2 w3 (by omega)
end
end Go.Proofs.Ytifffjhhammeiaa
