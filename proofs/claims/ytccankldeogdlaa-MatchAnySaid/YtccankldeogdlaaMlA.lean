import Derived.Test.YtccankldeogdlaaFcs
import Derived.Test.YtccankldeogdlaaDed
import Derived.Test.YtccankldeogdlaaBas
import Derived.Test.YtccankldeogdlaaLaS
import Derived.Test.YtccankldeogdlaaGolC
set_option linter.unusedVariables false
set_option linter.unusedSimpArgs false
set_option maxRecDepth 100000
set_option maxHeartbeats 4000000
namespace Go.Proofs.Ytccankldeogdlaa
section
open Go.RowKit
def beside (a b : Cel) : Bool := inB b.x (a.x - 1) (a.x + 1) && inB b.y (a.y - 1) (a.y + 1)
namespace Wd
def place (W : Wd) (c : Cel) : Nat := (c.y * W.field.wide + c.x).toNat
def addLoad (t : Trp) (n : Int) : Trp := { t with load := t.load + n }
def mine (W : Wd) (d : Ded) : Option Wd :=
 match W.troops.findIdx? (isId d.who) with
 | none => none
 | some k =>
  let t := W.troops.getD k default
  let m := W.mines.getD (W.place d.spot) 0
  if t.kind == 1 && decide (t.load < 5) && beside t.spot d.spot && W.field.isIn d.spot && m != 0 then
   some { W with mines := W.mines.set (W.place d.spot) (m - 1), troops := W.troops.set k (addLoad t 1) }
  else none
def drop (W : Wd) (d : Ded) : Option Wd :=
 match W.troops.findIdx? (isId d.who) with
 | none => none
 | some k =>
  let t := W.troops.getD k default
  let o := t.owner.toNat
  let s := W.stocks.getD o 0
  let n := min t.load (1000000 - s)
  if t.load != 0 && beside (W.bases.getD o default) t.spot && decide (0 < n) then
   some { W with stocks := W.stocks.set o (s + n), troops := W.troops.set k (addLoad t (-n)) }
  else none
def around (c : Cel) : List Cel :=
 [c, ⟨c.x - 1, c.y - 1⟩, ⟨c.x, c.y - 1⟩, ⟨c.x + 1, c.y - 1⟩, ⟨c.x - 1, c.y⟩, ⟨c.x, c.y⟩, ⟨c.x + 1, c.y⟩, ⟨c.x - 1, c.y + 1⟩, ⟨c.x, c.y + 1⟩, ⟨c.x + 1, c.y + 1⟩]
def openTo (W : Wd) (c : Cel) : Bool := W.field.ground c && !W.troops.any (isAt c)
def free (W : Wd) (c : Cel) : Option Cel := (around c).find? W.openTo
def hire (W : Wd) (d : Ded) : Option Wd :=
 let s := W.stocks.getD d.who.toNat 0
 if inB d.who 0 ((W.bases.length : Int) - 1) && inB d.what 1 2 && decide (priceOf d.what ≤ s) && decide (W.troops.length < 100) && decide (W.next < 1000000) then
  match W.free (W.bases.getD d.who.toNat default) with
  | none => none
  | some c => some { W with troops := W.troops ++ [⟨W.next, d.who, d.what, c, lifeOf d.what, 0⟩], next := W.next + 1, stocks := W.stocks.set d.who.toNat (s - priceOf d.what) }
 else none
def deed (W : Wd) (d : Ded) : Option Wd := if d.kind = 1 then W.mine d else if d.kind = 2 then W.drop d else if d.kind = 3 then W.hire d else none
def deeds (W : Wd) : List Ded → Wd × List Bool
 | [] => (W, [])
 | d :: l => match W.deed d with
  | some V => ((V.deeds l).1, true :: (V.deeds l).2)
  | none => ((W.deeds l).1, false :: (W.deeds l).2)
end Wd
theorem findId {l : List Trp} {id : Int} {k : Nat} (h : l.findIdx? (isId id) = some k) : ∃ t, l[k]? = some t ∧ t.id = id ∧ l.getD k default = t := by
 obtain ⟨h1, h2, _⟩ := List.findIdx?_eq_some_iff_getElem.1 h
 exact ⟨l[k], List.getElem?_eq_getElem h1, by simpa [isId] using h2, by rw [List.getD_eq_getElem?_getD, List.getElem?_eq_getElem h1]; rfl⟩
theorem spots_set {W V : Wd} {k : Nat} {t u : Trp} (hV : V.troops = W.troops.set k u) (ht : W.troops[k]? = some t) (hs : u.spot = t.spot) (i : Nat) : V.spots i = W.spots i := by
 unfold Wd.spots
 rw [hV, List.take_set, List.map_set]
 by_cases hki : k < i
 ·have h1 : ((W.troops.take i).map (·.spot))[k]? = some t.spot := by rw [List.getElem?_map, List.getElem?_take, if_pos hki, ht]; rfl
  obtain ⟨h2, h3⟩ := List.getElem?_eq_some_iff.1 h1
  rw [hs, ← h3]
  exact List.set_getElem_self _
 ·rw [List.set_eq_of_length_le (by rw [List.length_map, List.length_take]; omega)]
theorem last_set {W V : Wd} {k : Nat} {t u : Trp} (hV : V.troops = W.troops.set k u) (ht : W.troops[k]? = some t) (hs : u.id = t.id) (i : Nat) : V.lastId i = W.lastId i := by
 unfold Wd.lastId
 by_cases hi : i = 0
 ·rw [if_pos hi, if_pos hi]
 ·rw [if_neg hi, if_neg hi, hV, List.getD_eq_getElem?_getD, List.getD_eq_getElem?_getD]
  by_cases hk : k = i - 1
  ·subst hk
   rw [List.getElem?_set_self (List.getElem?_eq_some_iff.1 ht).1, ht]
   exact hs
  ·rw [List.getElem?_set_ne hk]
theorem at_set {W V : Wd} {k : Nat} {t u : Trp} (hV : V.troops = W.troops.set k u) (ht : W.troops[k]? = some t) {i : Nat} {x : Trp} (hx : V.troops[i]? = some x) : (i = k ∧ x = u) ∨ (i ≠ k ∧ W.troops[i]? = some x) := by
 rw [hV] at hx
 by_cases hk : k = i
 ·subst hk
  rw [List.getElem?_set_self (List.getElem?_eq_some_iff.1 ht).1] at hx
  exact .inl ⟨rfl, (Option.some.inj hx).symm⟩
 ·rw [List.getElem?_set_ne hk] at hx
  exact .inr ⟨Ne.symm hk, hx⟩
theorem Good.turned {W V : Wd} (h : Good W) {k : Nat} {t : Trp} {n : Int} (ht : W.troops[k]? = some t) (hV : V.troops = W.troops.set k (Wd.addLoad t n)) (hl : 0 ≤ t.load + n ∧ t.load + n ≤ Wd.mostOf t.kind)
  (hf : V.field = W.field) (hb : V.bases = W.bases) (hn : V.next = W.next) (hw : V.now = W.now)
  (hsl : V.stocks.length = W.stocks.length) (hs : ∀ (i : Nat) s, V.stocks[i]? = some s → 0 ≤ s ∧ s ≤ 1000000)
  (hml : V.mines.length = W.mines.length) (hm : ∀ (i : Nat) m, V.mines[i]? = some m → 0 ≤ m ∧ m ≤ 1000000 ∧ (m ≤ 0 ∨ W.field.places.getD i 0 = 3)) : Good V := by
 have h1 := h.troops k t ht
 have hlen : V.troops.length = W.troops.length := by rw [hV, List.length_set]
 refine ⟨by rw [hf]; exact h.field, by rw [hb]; exact h.nb, by rw [hlen]; exact h.nt, by rw [hsl, hb]; exact h.sl, ?_, hs, by rw [hml, hf]; exact h.ml, by rw [hf]; exact hm, λ i x hx => ?_, λ i x hx => ?_, λ i x hx => ?_, by rw [hn]; exact h.next, by rw [hw]; exact h.now⟩
 ·rw [hb, hf]; exact h.bases
 ·rw [hf, hb]
  rcases at_set hV ht hx with ⟨rfl, rfl⟩ | ⟨_, hx⟩
  ·exact ⟨h1.kind, h1.owner, h1.ground, h1.life, hl⟩
  ·exact h.troops i x hx
 ·rw [last_set hV ht rfl, hn]
  rcases at_set hV ht hx with ⟨rfl, rfl⟩ | ⟨_, hx⟩
  ·exact h.ids i t ht
  ·exact h.ids i x hx
 ·rw [spots_set hV ht rfl]
  rcases at_set hV ht hx with ⟨rfl, rfl⟩ | ⟨_, hx⟩
  ·exact h.spots i t ht
  ·exact h.spots i x hx
theorem mine_some {W V : Wd} {d : Ded} (h : W.mine d = some V) : ∃ (k : Nat) (t : Trp), W.troops.findIdx? (isId d.who) = some k ∧ W.troops[k]? = some t ∧ t.id = d.who ∧ t.kind = 1 ∧ t.load < 5 ∧ beside t.spot d.spot = true ∧ W.field.isIn d.spot = true ∧ W.mines.getD (W.place d.spot) 0 ≠ 0 ∧
  V = { W with mines := W.mines.set (W.place d.spot) (W.mines.getD (W.place d.spot) 0 - 1), troops := W.troops.set k (Wd.addLoad t 1) } := by
 unfold Wd.mine at h
 cases hf : W.troops.findIdx? (isId d.who) with
 | none => rw [hf] at h; cases h
 | some k =>
  rw [hf] at h
  obtain ⟨t, ht, hid, hg⟩ := findId hf
  simp only [hg] at h
  split at h
  ·rename_i hc
   simp only [Bool.and_eq_true, decide_eq_true_eq, bne_iff_ne, beq_iff_eq] at hc
   exact ⟨k, t, rfl, ht, hid, hc.1.1.1.1, hc.1.1.1.2, hc.1.1.2, hc.1.2, hc.2, (Option.some.inj h).symm⟩
  ·cases h
theorem drop_some {W V : Wd} {d : Ded} (h : W.drop d = some V) : ∃ (k : Nat) (t : Trp) (n : Int), W.troops.findIdx? (isId d.who) = some k ∧ W.troops[k]? = some t ∧ t.id = d.who ∧ t.load ≠ 0 ∧ beside (W.bases.getD t.owner.toNat default) t.spot = true ∧ n = min t.load (1000000 - W.stocks.getD t.owner.toNat 0) ∧ 0 < n ∧
  V = { W with stocks := W.stocks.set t.owner.toNat (W.stocks.getD t.owner.toNat 0 + n), troops := W.troops.set k (Wd.addLoad t (-n)) } := by
 unfold Wd.drop at h
 cases hf : W.troops.findIdx? (isId d.who) with
 | none => rw [hf] at h; cases h
 | some k =>
  rw [hf] at h
  obtain ⟨t, ht, hid, hg⟩ := findId hf
  simp only [hg] at h
  split at h
  ·rename_i hc
   simp only [Bool.and_eq_true, decide_eq_true_eq, bne_iff_ne] at hc
   exact ⟨k, t, _, rfl, ht, hid, hc.1.1, hc.1.2, rfl, hc.2, (Option.some.inj h).symm⟩
  ·cases h
theorem hire_some {W V : Wd} {d : Ded} (h : W.hire d = some V) : ∃ c : Cel, W.free (W.bases.getD d.who.toNat default) = some c ∧ 0 ≤ d.who ∧ d.who < (W.bases.length : Int) ∧ (d.what = 1 ∨ d.what = 2) ∧ Wd.priceOf d.what ≤ W.stocks.getD d.who.toNat 0 ∧ W.troops.length < 100 ∧ W.next < 1000000 ∧
  V = { W with troops := W.troops ++ [⟨W.next, d.who, d.what, c, Wd.lifeOf d.what, 0⟩], next := W.next + 1, stocks := W.stocks.set d.who.toNat (W.stocks.getD d.who.toNat 0 - Wd.priceOf d.what) } := by
 unfold Wd.hire at h
 simp only at h
 split at h
 ·rename_i hc
  simp only [Bool.and_eq_true, decide_eq_true_eq] at hc
  have a := inB_true hc.1.1.1.1
  have b := inB_true hc.1.1.1.2
  split at h
  ·cases h
  ·rename_i c hfr
   exact ⟨c, hfr, a.1, by omega, by omega, hc.1.1.2, hc.1.2, hc.2, (Option.some.inj h).symm⟩
 ·cases h
theorem price_pos (k : Int) : 0 ≤ Wd.priceOf k := by unfold Wd.priceOf; split <;> (try split) <;> omega
theorem Good.mine {W V : Wd} {d : Ded} (h : Good W) (hd : W.mine d = some V) : Good V := by
 obtain ⟨k, t, _, ht, _, hk, hl, _, hin, hm0, rfl⟩ := mine_some hd
 have h1 := h.troops k t ht
 have hmo : Wd.mostOf t.kind = 5 := by rw [hk]; rfl
 obtain ⟨i1, i2, _⟩ := Fld.idx h.field hin
 have hlt : W.place d.spot < W.mines.length := by rw [h.ml]; unfold Wd.place; omega
 obtain ⟨m, hm⟩ := get_of hlt
 have h2 := h.mines _ m hm
 have hg : W.mines.getD (W.place d.spot) 0 = m := by rw [List.getD_eq_getElem?_getD, hm]; rfl
 rw [hg] at hm0 ⊢
 refine h.turned ht rfl (by have := h1.load; omega) rfl rfl rfl rfl rfl h.stocks (by simp) λ i x hx => ?_
 simp only at hx
 by_cases hi : W.place d.spot = i
 ·subst hi
  rw [List.getElem?_set_self hlt] at hx
  obtain rfl := Option.some.inj hx
  refine ⟨by omega, by omega, ?_⟩
  rcases h2.2.2 with h3 | h3
  ·omega
  ·exact .inr h3
 ·rw [List.getElem?_set_ne hi] at hx
  exact h.mines i x hx
theorem Good.drop {W V : Wd} {d : Ded} (h : Good W) (hd : W.drop d = some V) : Good V := by
 obtain ⟨k, t, n, _, ht, _, hl, _, hn, hn0, rfl⟩ := drop_some hd
 have h1 := h.troops k t ht
 have hlt : t.owner.toNat < W.stocks.length := by rw [h.sl]; have := h1.owner; omega
 obtain ⟨s, hs⟩ := get_of hlt
 have h2 := h.stocks _ s hs
 have hg : W.stocks.getD t.owner.toNat 0 = s := by rw [List.getD_eq_getElem?_getD, hs]; rfl
 rw [hg] at hn ⊢
 refine h.turned ht rfl (by have := h1.load; omega) rfl rfl rfl rfl (by simp) (λ i x hx => ?_) rfl h.mines
 simp only at hx
 by_cases hi : t.owner.toNat = i
 ·subst hi
  rw [List.getElem?_set_self hlt] at hx
  obtain rfl := Option.some.inj hx
  omega
 ·rw [List.getElem?_set_ne hi] at hx
  exact h.stocks i x hx
theorem Good.hire {W V : Wd} {d : Ded} (h : Good W) (hd : W.hire d = some V) : Good V := by
 obtain ⟨c, hfr, hw0, hw1, hk, hp, hnt, hnx, rfl⟩ := hire_some hd
 have hop := List.find?_some hfr
 unfold Wd.openTo at hop
 rw [Bool.and_eq_true] at hop
 have hany : ∀ t ∈ W.troops, t.spot ≠ c := λ t ht he => by
  have := hop.2
  rw [Bool.not_eq_true', List.any_eq_false] at this
  exact this t ht (by simp [isAt, he])
 have hlt : d.who.toNat < W.stocks.length := by rw [h.sl]; omega
 obtain ⟨s, hs⟩ := get_of hlt
 have h2 := h.stocks _ s hs
 have hg : W.stocks.getD d.who.toNat 0 = s := by rw [List.getD_eq_getElem?_getD, hs]; rfl
 rw [hg] at hp ⊢
 have hpp := price_pos d.what
 have hn := h.next
 have hsp : ∀ i, i ≤ W.troops.length → Wd.spots { W with troops := W.troops ++ [⟨W.next, d.who, d.what, c, Wd.lifeOf d.what, 0⟩], next := W.next + 1, stocks := W.stocks.set d.who.toNat (s - Wd.priceOf d.what) } i = W.spots i := λ i hi => by
  unfold Wd.spots
  simp only
  rw [List.take_append_of_le_length hi]
 have hla : ∀ i, i ≤ W.troops.length → Wd.lastId { W with troops := W.troops ++ [⟨W.next, d.who, d.what, c, Wd.lifeOf d.what, 0⟩], next := W.next + 1, stocks := W.stocks.set d.who.toNat (s - Wd.priceOf d.what) } i = W.lastId i := λ i hi => by
  unfold Wd.lastId
  simp only
  by_cases h0 : i = 0
  ·rw [if_pos h0, if_pos h0]
  ·rw [if_neg h0, if_neg h0, List.getD_eq_getElem?_getD, List.getD_eq_getElem?_getD, List.getElem?_append_left (by omega)]
 have hat : ∀ (i : Nat) x, (W.troops ++ [(⟨W.next, d.who, d.what, c, Wd.lifeOf d.what, 0⟩ : Trp)])[i]? = some x → (i < W.troops.length ∧ W.troops[i]? = some x) ∨ (i = W.troops.length ∧ x = ⟨W.next, d.who, d.what, c, Wd.lifeOf d.what, 0⟩) := λ i x hx => by
  by_cases hi : i < W.troops.length
  ·rw [List.getElem?_append_left hi] at hx; exact .inl ⟨hi, hx⟩
  ·rw [List.getElem?_append_right (by omega)] at hx
   have h0 : i - W.troops.length = 0 := by
    have := (List.getElem?_eq_some_iff.1 hx).1
    simp at this; omega
   rw [h0] at hx
   exact .inr ⟨by omega, by simpa using hx.symm⟩
 have hlast : W.lastId W.troops.length < W.next ∧ 0 ≤ W.lastId W.troops.length := by
  by_cases h0 : W.troops.length = 0
  ·rw [h0]; exact ⟨by show (0 : Int) < _; omega, Int.le_refl _⟩
  ·obtain ⟨t, ht⟩ := get_of (l := W.troops) (i := W.troops.length - 1) (by omega)
   have h4 := h.ids _ t ht
   have e : W.lastId W.troops.length = t.id := by
    unfold Wd.lastId
    rw [if_neg h0, List.getD_eq_getElem?_getD, ht]; rfl
   rw [e]; omega
 refine ⟨h.field, h.nb, by simp; omega, by simp; exact h.sl, h.bases, λ i x hx => ?_, h.ml, h.mines, λ i x hx => ?_, λ i x hx => ?_, λ i x hx => ?_, by simp only; omega, h.now⟩
 ·simp only at hx
  by_cases hi : d.who.toNat = i
  ·subst hi
   rw [List.getElem?_set_self hlt] at hx
   obtain rfl := Option.some.inj hx
   omega
  ·rw [List.getElem?_set_ne hi] at hx
   exact h.stocks i x hx
 ·rcases hat i x hx with ⟨_, hx⟩ | ⟨_, rfl⟩
  ·exact h.troops i x hx
  ·exact ⟨hk, ⟨hw0, hw1⟩, hop.1, by simp only; rcases hk with h | h <;> rw [h] <;> decide, by simp only; rcases hk with h | h <;> rw [h] <;> decide⟩
 ·rcases hat i x hx with ⟨hi, hx⟩ | ⟨rfl, rfl⟩
  ·rw [hla i (by omega)]
   have := h.ids i x hx
   simp only; omega
  ·rw [hla _ (Nat.le_refl _)]
   simp only; omega
 ·rcases hat i x hx with ⟨hi, hx⟩ | ⟨rfl, rfl⟩
  ·rw [hsp i (by omega)]; exact h.spots i x hx
  ·rw [hsp _ (Nat.le_refl _)]
   simp only
   cases hc : (W.spots W.troops.length).contains c with
   | false => rfl
   | true =>
    rw [List.contains_iff_mem] at hc
    unfold Wd.spots at hc
    obtain ⟨t, ht, he⟩ := List.mem_map.1 hc
    exact absurd he (hany t (List.mem_of_mem_take ht))
theorem Good.deed {W V : Wd} {d : Ded} (h : Good W) (hd : W.deed d = some V) : Good V := by
 unfold Wd.deed at hd
 split at hd
 ·exact h.mine hd
 ·split at hd
  ·exact h.drop hd
  ·split at hd
   ·exact h.hire hd
   ·cases hd
theorem Good.deeds {W : Wd} (h : Good W) : ∀ l : List Ded, Good (W.deeds l).1 := by
 intro l
 induction l generalizing W with
 | nil => exact h
 | cons d l ih =>
  unfold Wd.deeds
  cases hd : W.deed d with
  | none => exact ih h
  | some V => exact ih (h.deed hd)
end
section
open Go.RowKit
structure Shop (w : World) (Z S : Nat) (a : Wd.At) (W : Wd) : Prop where
 blk : Blk w S (Wd.cells a W) 157 (0, 0)
 own : WOwn w Z a W
 far : S ∉ WOwn.foot a
 low : Z ≤ S
theorem Shop.later {w w' : World} {Z S : Nat} {a : Wd.At} {W : Wd} (h : Shop w Z S a W) (hb : Below w.heap.size w w') : Shop w' Z S a W := ⟨h.blk.later hb, h.own.later hb, h.far, h.low⟩
def trAt (a : Wd.At) (k : Nat) : Option Addr := a.T.map λ x => ⟨x.block, k * 7, none⟩
def trOf (a : Wd.At) (W : Wd) (id : Int) : Option Addr := match W.troops.findIdx? (isId id) with | none => none | some k => trAt a k
end
section
open Go.RowKit
def DeedPost (W : Wd) (V : Option Wd) (w : World) (Z S : Nat) (e : Ending) (w' : World) : Prop :=
 ∃ a', e = .returned (.bool V.isSome) ∧ Shop w' Z S a' (V.getD W) ∧ Below Z w w'
def MinePost (W : Wd) (d : Ded) (w : World) (Z S : Nat) (a : Wd.At) (e : Ending) (w' : World) : Prop :=
 ∃ V, e = .returned (.bool (W.mine d).isSome) ∧ (W.mine d).getD W = V ∧ Shop w' Z S a V ∧ Below Z w w'
end
section
open Go.RowKit
def ShopPost (W : Wd) (V : Option Wd) (w : World) (Z S : Nat) (a : Wd.At) (e : Ending) (w' : World) : Prop :=
 ∃ a', e = .returned (.bool V.isSome) ∧ Shop w' Z S a' (V.getD W) ∧ (∀ q ∈ WOwn.foot a', q ∈ WOwn.foot a ∨ w.heap.size ≤ q) ∧ Mod (S :: WOwn.foot a) w w'
end
section
open Go.RowKit
def DropPost (W : Wd) (d : Ded) (w : World) (Z S : Nat) (a : Wd.At) (e : Ending) (w' : World) : Prop :=
 ∃ V, e = .returned (.bool (W.drop d).isSome) ∧ (W.drop d).getD W = V ∧ Shop w' Z S a V ∧ Below Z w w'
end
section
open Go.RowKit Go.Maps
namespace Cel
def key (c : Cel) : Value := .agg #[.int .i64 c.x, .int .i64 c.y]
end Cel
end
section
open Go.RowKit
theorem Shop.mod {w w1 : World} {Z S : Nat} {a : Wd.At} {W : Wd} {T : List Nat} (h : Shop w Z S a W) (m : Mod T w w1) (hd : ∀ q ∈ T, q ≠ S ∧ q ∉ WOwn.foot a) : Shop w1 Z S a W :=
 ⟨h.blk.mod m λ hq => (hd _ hq).1 rfl, h.own.mod m λ q hq hT => (hd q hT).2 hq, h.far, h.low⟩
def Wd.doE (W : Wd) (l : List Ded) : Int := if W.chk ≠ 0 then W.chk else if 200 < l.length then 2 else 0
def Wd.doW (W : Wd) (l : List Ded) : Wd := if W.doE l = 0 then (W.deeds l).1 else Wd.zero
def Wd.doB (W : Wd) (l : List Ded) : List Bool := if W.doE l = 0 then (W.deeds l).2 else []
def DoPost (W : Wd) (l : List Ded) (w : World) (e : Ending) (w' : World) : Prop :=
 ∃ a' A c, e = .returned (.tuple #[.agg (Wd.cells a' (W.doW l)).toArray, .slice A (W.doB l).length c, .int .i64 (W.doE l)]) ∧ WOwn w' w.heap.size a' (W.doW l) ∧ repB.SOwn 4 1 w' w.heap.size (Rep.blkOf A) A c (W.doB l) ∧ (∀ q ∈ Rep.blkOf A, q ∉ WOwn.foot a') ∧ Ext w w'
end
section
open Go.RowKit
def wt (t : Trp) : Int := t.load + Wd.priceOf t.kind
def Wd.total (W : Wd) : Int := W.mines.sum + W.stocks.sum + (W.troops.map wt).sum
def Wd.worth (W : Wd) : Int := if W.chk = 0 then W.total else 0
end
section
open Go.RowKit
def smallW : Wd := ⟨⟨3, 1, [0, 0, 3]⟩, [⟨0, 0⟩], [20], [0, 0, 9], [⟨1, 0, 1, ⟨1, 0⟩, 10, 0⟩], 2, 0⟩
def smallL : List Ded := [(⟨1, 1, ⟨2, 0⟩, 0⟩ : Ded), (⟨3, 0, ⟨0, 0⟩, 2⟩ : Ded)]
def smallV : Wd := smallW.doW smallL
end
section
open Go.RowKit
open Go.Proofs.Ytccankldeogdlaa.Mt
theorem rounds_three (w : World) : Calls Try.prog 19 #[.int .i64 3] w (λ e w' => ∃ A c T A0 k0, e = .returned (.tuple #[.slice A 3 c, .int .i64 0]) ∧ ((T : List SV).length = 3 ∧ T[0]? = some ⟨A0, 1, k0⟩) ∧ svRep.SOwn 36 24 w' w.heap.size (Rep.blkOf A) A c T ∧ Ext w w') := by
 refine (rounds_any 3 w).mono ?_
 rintro e w' ⟨e', A, c, T, L, ba, X, rfl, hR, hT, hP, hx⟩
 rcases hR with ⟨rfl, h2, h3, h4, N, M, K, hN, hM, hK, hL, hl⟩ | ⟨_, h, _⟩
 ·obtain rfl : N = 3 := by omega
  obtain rfl : M = 3 := by omega
  obtain rfl : K = 2 := by omega
  have h0 : L[0]? = some (L[0]'(by omega)) := List.getElem?_eq_getElem (by omega)
  obtain ⟨A0, k0, g1, g2, g3⟩ := hP.2.2 0 _ h0
  have hlen := (hl 0 _ h0).length_eq
  rw [rnd_full (by omega) (by omega) (by omega) (by omega)] at hlen
  rw [hlen] at g1
  exact ⟨A, c, T, A0, k0, by rw [h4, hL], ⟨by omega, g1⟩, hT, hx⟩
 ·omega
theorem table_two (A : Option Addr) (c : Nat) (w : World) (h : Gam.rep.SHas 24 w A c [(⟨0, 1, 1⟩ : Gam)]) : Calls Try.prog 22 #[.int .i64 2, .slice A 1 c] w (λ e w' => ∃ A' c', e = .returned (.tuple #[.slice A' 2 c', .int .i64 0]) ∧ repI.SOwn 3 8 w' w.heap.size (Rep.blkOf A') A' c' ([1, 0] : List Int) ∧ Ext w w') := by
 refine (table_any 2 [⟨0, 1, 1⟩] A c w h).mono ?_
 rintro e w' ⟨e', A', c', L, rfl, ⟨h1, h2⟩, h3, h4⟩
 have e1 : mtE 2 [⟨0, 1, 1⟩] = 0 := by decide
 have e2 : tbR 2 [⟨0, 1, 1⟩] = [1, 0] := by
  have e3 : scR 2 [⟨0, 1, 1⟩] = [⟨0, 0, 0⟩, ⟨1, 3, 1⟩] := by decide
  unfold tbR
  rw [e3, ← tabS_uniq (T := [⟨1, 3, 1⟩, ⟨0, 0, 0⟩]) (List.Perm.swap _ _ _) (by decide)]; rfl
 rw [e2] at h2
 rw [e1] at h1
 subst h1 h2
 exact ⟨A', c', rfl, h3, h4⟩
theorem matchLives_any  (w : World) :
  Calls Try.prog 20 #[] w (λ e w' => e = .returned (.bool true) ∧ Ext w w') := by
 refine calls_W (n := 38) Try.func20 rfl rfl rfl ?_
 refine sg <| va rfl <| nK <| sg <| ca eF26 rfl rfl ((rounds_three _).mono ?_)
 rintro e w_4 ⟨A1, c1, T1, B1, k1, rfl, hT1, HT1, x_5⟩
 refine ⟨_, rfl, ?_⟩
 have := x_5.size
 have z_4 := eT (Ext.rf w) x_5
 have u_2 := λ q hq => (HT1.lt q hq).2
 have lo_3 := λ q hq => (HT1.lt q hq).1
 refine vm rfl <| vL (ex rfl rfl) <| vL (ex rfl rfl) <| va rfl <| va rfl <| nK <| sg <| vL (v := .agg #[.int .i64 0, .int .i64 1, .int .i64 1]) (bd rfl (by kernel_rfl)) <| bs (e := 46) (cs := [.int .i64 0, .int .i64 1, .int .i64 1]) rfl (λ _ => by kernel_rfl) rfl λ w_7 b_8 x_9 l_10 B_11 => ?_
 have := x_9.size
 have z_7 := eT z_4 x_9
 have q_13 := B_11.lt
 refine ca eF27 rfl rfl ((table_two _ _ _ (Blk.hasN (R := Gam.rep) (by_ := 24) (k := [(⟨0, 1, 1⟩ : Gam)]) B_11 [[.int .i64 0, .int .i64 1, .int .i64 1]] rfl (⟨⟨rfl, ⟨okI_iff.2 (by decide), okI_iff.2 (by decide), okI_iff.2 (by decide)⟩⟩, trivial⟩) (by simp) (by simp))).mono ?_)
 rintro e w_17 ⟨A14, c14, rfl, HI14, x_18⟩
 refine ⟨_, rfl, ?_⟩
 have := x_18.size
 have z_17 := eT z_7 x_18
 have u_15 := λ q hq => (HI14.lt q hq).2
 have lo_16 := λ q hq => (HI14.lt q hq).1
 refine vm rfl <| vL (ex rfl rfl) <| vL (ex rfl rfl) <| va rfl <| va rfl <| nK <| sg <| vm rfl <| vL (beq rfl rfl) <| vm rfl <| ug rfl rfl rfl <| vm rfl <| ug rfl rfl rfl <| vL (beq rfl rfl) <| vL (pkT rfl rfl) <| vm rfl <| ug rfl rfl rfl <| vm rfl <| ug rfl rfl rfl <| vL (ln Try.underlying31 rfl) <| ug rfl rfl rfl <| vL (beq rfl rfl) <| ?_
 refine vL (pkT rfl rfl) <| vm rfl <| ug rfl rfl rfl <| vm rfl <| ug rfl rfl rfl <| ?_
 have HT1 := HT1.later (eT x_9 x_18)
 refine vL (iA 0 Try.underlying31 eF15 rfl rfl (HT1.has.adr (zl 0 (by first | omega | (rw [hT1.1]; omega)))) rfl (by first | omega | (rw [hT1.1]; omega))) <| ug rfl rfl rfl <| vL (v := .slice B1 1 k1) (ld rfl (Rep.SHas.one' hcV (HT1.has.adh (zl 0 (by first | omega | (rw [hT1.1]; omega)))) hT1.2 rfl eF16)) <| ug rfl rfl rfl <| vL (ln Try.underlying36 rfl) <| ug rfl rfl rfl <| vL (beq rfl rfl) <| vL (pkT rfl rfl) <| vm rfl <| ug rfl rfl rfl <| vm rfl <| ug rfl rfl rfl <| bs (e := 3) (cs := [.int .i64 1, .int .i64 0]) rfl (λ _ => by kernel_rfl) rfl λ w_20 b_21 x_22 l_23 B_24 => ?_
 have := x_22.size
 have z_20 := eT z_17 x_22
 have q_26 := B_24.lt
 refine ug rfl rfl rfl <| ?_
 have HI14 := HI14.later x_22
 refine ca eF28 rfl rfl ((equal_I _ _ _ _ _ _ ([1, 0] : List Int) ([1, 0]) _ HI14.has (Blk.hasN (R := repI) (by_ := 8) (k := [1, 0]) B_24 [[.int .i64 1], [.int .i64 0]] rfl (⟨⟨rfl, okI_iff.2 (by decide)⟩, ⟨⟨rfl, okI_iff.2 (by decide)⟩, trivial⟩⟩) (by simp) (by simp))).mono ?_)
 rintro e w_27 ⟨rfl, x_28⟩
 refine ⟨_, rfl, ?_⟩
 have := x_28.size
 have z_27 := eT z_20 x_28
 refine vL (pkT rfl rfl) <| va rfl <| nK <| rt <| tR (.tmp rfl .nil) <| ?_
 exact ⟨ret_true (by decide), z_27⟩
end
section
open Go.RowKit
open Go.Proofs.Ytccankldeogdlaa.Mt
theorem clone_Gm (A : Option Addr) (c : Nat) (l : List Gam) (w : World) (h : Gam.rep.SHas 24 w A c l) :
  Calls Try.prog 23 #[.slice A l.length c] w λ e w' => ∃ A' c', e = .returned (.slice A' l.length c') ∧ Gam.rep.SOwn 46 24 w' w.heap.size (Rep.blkOf A') A' c' l ∧ (A' = none ↔ A = none) ∧ Below w.heap.size w w' := by
 obtain ⟨i0, hi, hz0, hz1, hz2⟩ := info_parts Gam.info
 have qnil : ∀ (w : World) (a : Option Addr) (n c n' c' : Nat), (binOp .eql 41 (.slice a n c) (.slice none n' c')).run Try.prog w = .ok (.bool a.isNone) w := λ w a n c n' c' => Lib.run_eql_slice_nil w _ _ a n c n' c' Try.underlying41
 cases A with
 | none =>
  obtain rfl : c = 0 := h.2.2.2.1 rfl
  obtain rfl : l = [] := List.eq_nil_of_length_eq_zero (by have := h.1; omega)
  go_enter Try.func23, Try.ntmps23
  go_wp2_with fail
  go_ret
  exact ⟨none, 0, rfl, Rep.SOwn.nil _, by simp, Below.refl _ _⟩
 | some a =>
  have hb0 : Below w.heap.size w (w.alloc (.cells #[] 46)) := (Below.refl _ w).alloc (Nat.le_refl _) _
  obtain ⟨n, HN⟩ : ∃ n, Hid (l.length = n) := ⟨_, Lib.hid rfl⟩
  obtain ⟨h1, h2, h3, h4, ess, h5, h6⟩ := h.keep hb0
  have H5 := Lib.hid h5
  have hone : ∀ u ∈ ess.flatten, u.oneCell' = true := by
   intro u hu
   obtain ⟨y, hy, hu⟩ := List.mem_flatten.1 hu
   obtain ⟨a, ha⟩ := h5.left y hy
   exact Gam.rep.one ha u hu
  have hraw : ∀ (j : Nat) u, ess.flatten[j]? = some u → Gam.rep.raw (j % Gam.rep.size) u := λ j u hu => flat_raw h5 (by decide) hu
  rw [HN.out] at h1 h3 h6
  have HR := Lib.hid h6
  have HE := Lib.hid (Own.empty (e := 46) (size := Gam.rep.size) (G := Gam.rep.raw) w (Nat.le_refl w.heap.size))
  clear h h4 h5 h6
  rw [HN.out]
  go_enter Try.func23, Try.ntmps23
  go_wp2_with (at_builtin; refine wpList_append_all _ rfl _ _ 41 rfl w.heap.size 46 i0 Gam.zero Gam.rep.size 24 Try.underlying41 hi hz0 hz1 hz2 rfl (by decide) Gam.rep.raw Gam.zero_raw _ _ _ rfl HE.out (some a) n c ess.flatten rfl HR.out hone hraw ?qc4 ?qc5 ?qc6 ?_)
  case qc4 => unfold maxLen; omega
  case qc5 => omega
  case qc6 => simp
  intro v' w1 hown hgrow hnil hat
  have hb1 := hb0.grown hgrow (by simp) (by intro k hk; simp [Value.ownBlock] at hk; omega)
  obtain ⟨A1, c1, rfl, hle, _, _, _, hnn⟩ := hown.shape
  have hA1 : A1 ≠ none := by
   intro h
   subst h
   exact hnil (hnn rfl)
  have HO : Hid (Gam.rep.SOwn 46 24 w1 w.heap.size (Rep.blkOf A1) A1 c1 l) := Lib.hid (Rep.SOwn.of_plain Gam.plain H5.out (by rw [HN.out]; exact h3) (by rw [HN.out]; simpa using hown))
  have HA1 := Lib.hid hA1
  clear hgrow hnil hat hown hA1 hnn hone hraw
  go_wp2_with fail
  go_ret
  exact ⟨A1, c1, rfl, HO.out, ⟨λ h => absurd h HA1.out, λ h => by cases h⟩, hb1⟩
end
section
open Go.RowKit
namespace Hp
section
variable {α : Type} [Inhabited α] {key : α → Int} {l : List α} {i j n k : Nat} {x : α}
def swp (l : List α) (i j : Nat) : List α := (l.set i (l.getD j default)).set j (l.getD i default)
theorem swp_len : (swp l i j).length = l.length := by unfold swp; rw [List.length_set, List.length_set]
theorem getD_set {i k : Nat} (hi : i < l.length) : (l.set i x).getD k default = if k = i then x else l.getD k default := by
 rw [List.getD_eq_getElem?_getD, List.getD_eq_getElem?_getD, List.getElem?_set]
 by_cases e : i = k
 ·subst e; rw [if_pos rfl, if_pos rfl]; simp [hi]
 ·rw [if_neg e, if_neg (λ h => e h.symm)]
theorem swp_get (hi : i < l.length) (hj : j < l.length) : (swp l i j).getD k default = if k = j then l.getD i default else if k = i then l.getD j default else l.getD k default := by
 unfold swp
 rw [getD_set (by rw [List.length_set]; exact hj), getD_set hi]
theorem swp_perm (hi : i < l.length) (hj : j < l.length) : (swp l i j).Perm l := by
 have h := Array.swap_perm (xs := l.toArray) (i := i) (j := j) (by simpa using hi) (by simpa using hj)
 have h := h.toList
 have e : (l.toArray.swap i j (by simpa using hi) (by simpa using hj)).toList = swp l i j := by
  unfold swp
  rw [List.getD_eq_getElem?_getD, List.getD_eq_getElem?_getD, List.getElem?_eq_getElem hi, List.getElem?_eq_getElem hj]
  simp [Array.swap]
 rw [e] at h
 simpa using h
def upF (key : α → Int) (l : List α) (j : Nat) : List α :=
 if 0 < j ∧ key (l.getD j default) < key (l.getD ((j - 1) / 2) default) then upF key (swp l ((j - 1) / 2) j) ((j - 1) / 2) else l
termination_by j
decreasing_by omega
def lowC (key : α → Int) (n : Nat) (l : List α) (i : Nat) : Nat := if 2 * i + 2 < n ∧ key (l.getD (2 * i + 2) default) < key (l.getD (2 * i + 1) default) then 2 * i + 2 else 2 * i + 1
theorem lowC_gt : i < lowC key n l i := by unfold lowC; split <;> omega
def downF (key : α → Int) (n : Nat) (l : List α) (i : Nat) : List α :=
 if 2 * i + 1 < n ∧ key (l.getD (lowC key n l i) default) < key (l.getD i default) then downF key n (swp l i (lowC key n l i)) (lowC key n l i) else l
termination_by n - i
decreasing_by rename_i h; have := lowC_gt (key := key) (n := n) (l := l) (i := i); omega
def Heap (key : α → Int) (n : Nat) (l : List α) : Prop := ∀ i, 0 < i → i < n → key (l.getD ((i - 1) / 2) default) ≤ key (l.getD i default)
def push (key : α → Int) (l : List α) (x : α) : List α := upF key (l ++ [x]) l.length
def popD (key : α → Int) (l : List α) : List α := downF key (l.length - 1) (swp l 0 (l.length - 1)) 0
def popL (key : α → Int) (l : List α) : List α := (popD key l).take (l.length - 1)
end
end Hp
end
section
open Go.RowKit
namespace Rv
section
variable {α : Type} [Inhabited α] {l : List α} {k i : Nat}
def rv (l : List α) : Nat → List α
 | 0 => l
 | k + 1 => Hp.swp (rv l k) k (l.length - 1 - k)
theorem rv_len : (rv l k).length = l.length := by
 induction k with
 | zero => rfl
 | succ k ih => rw [rv, Hp.swp_len, ih]
theorem rv_perm : ∀ k, 2 * k ≤ l.length + 1 → (rv l k).Perm l := by
 intro k
 induction k with
 | zero => intro _; exact List.Perm.refl _
 | succ k ih =>
  intro hk
  rw [rv]
  exact (Hp.swp_perm (by rw [rv_len]; omega) (by rw [rv_len]; omega)).trans (ih (by omega))
theorem rv_get : ∀ k, 2 * k ≤ l.length → ∀ i, i < l.length → (rv l k).getD i default = if i < k ∨ l.length - 1 - i < k then l.getD (l.length - 1 - i) default else l.getD i default := by
 intro k
 induction k with
 | zero => intro _ i _; rw [if_neg (by omega)]; rfl
 | succ k ih =>
  intro hk i hi
  have hl := rv_len (l := l) (k := k)
  rw [rv, Hp.swp_get (by omega) (by omega)]
  by_cases e1 : i = l.length - 1 - k
  ·rw [if_pos e1, ih (by omega) k (by omega), if_neg (by omega), if_pos (by omega)]
   congr 1; omega
  ·rw [if_neg e1]
   by_cases e2 : i = k
   ·rw [if_pos e2, ih (by omega) _ (by omega), if_neg (by omega), if_pos (by omega)]
    congr 1; omega
   ·rw [if_neg e2, ih (by omega) i hi]
    by_cases e3 : i < k ∨ l.length - 1 - i < k
    ·rw [if_pos e3, if_pos (by omega)]
    ·rw [if_neg e3, if_neg (by omega)]
theorem rv_end (h : (l.length : Int) - 1 ≤ 2 * (k : Int)) (h2 : 2 * k ≤ l.length) : rv l k = l.reverse := by
 refine List.ext_getElem (by rw [rv_len, List.length_reverse]) λ i h1 h2' => ?_
 rw [rv_len] at h1
 have hg := rv_get k h2 i h1
 rw [List.getElem_reverse]
 have e : (rv l k).getD i default = (rv l k)[i]'(by rw [rv_len]; exact h1) := by rw [List.getD_eq_getElem?_getD, List.getElem?_eq_getElem]; rfl
 rw [← e, hg]
 split
 ·rw [List.getD_eq_getElem?_getD, List.getElem?_eq_getElem (by omega)]; rfl
 ·rw [List.getD_eq_getElem?_getD, List.getElem?_eq_getElem h1]
  have : l.length - 1 - i = i := by omega
  simp only [Option.getD_some, this]
end
end Rv
end
section
open Go.RowKit
section
variable {α : Type} {p : α → Bool} {l L : List α} {d : α} {i j k : Nat}
theorem mem_dd (h : k < l.length) : l.getD k d ∈ l := by rw [List.getD_eq_getElem?_getD, List.getElem?_eq_getElem h]; exact List.getElem_mem h
end
end
section
open Go.RowKit
open Go.Proofs.Ytccankldeogdlaa.Mt
theorem reverse_Gm (A : Option Addr) (c Z : Nat) (l : List Gam) (w : World) (HO : Gam.rep.SOwn 46 24 w Z (Rep.blkOf A) A c (l)) (hok : ∀ y ∈ l, y.ok) :
  Calls Try.prog 25 #[.slice A l.length c] w (λ e w' => e = .returned (.tuple #[]) ∧ Gam.rep.SOwn 46 24 w' Z (Rep.blkOf A) A c (l.reverse) ∧ Mod (Rep.blkOf A) w w') := by
 have uO := λ q hq => (HO.lt q hq).2
 have hl63 := HO.has.len_le
 refine calls_W (n := 28) Try.func25 rfl rfl rfl ?_
 refine sg <| vm rfl <| vL (ln Try.underlying41 rfl) <| vL (bsu rfl rfl (inI (by omega))) <| va rfl <| va rfl <| nK <| bk <| ?_
 refine lp (λ mI EI wI => ∃ k : Nat, ∃ J : Int, EI = [(0, .slice A l.length c), (2, .int .i64 (k : Int)), (3, .int .i64 J)] ∧ mI = (l.length - k) ∧ Mod (Rep.blkOf A) w wI ∧ Gam.rep.SOwn 46 24 wI Z (Rep.blkOf A) A c (Rv.rv l k) ∧ (J = (l.length : Int) - 1 - (k : Int)) ∧ (2 * k ≤ l.length)) _ _ ⟨0, ((l.length : Int) - 1), rfl, rfl, (Mod.rf (Rep.blkOf A) w), HO, by omega, by omega⟩ (.cons rfl (.cons (loI rfl (by first | omega | rfl | (simp <;> omega))) (.cons (loI rfl (by first | omega | rfl | (simp <;> omega))) .nil))) ?_
 rintro m_2 E_3 w_1 ⟨k, J, rfl, rfl, z_1, HR, hJ, hk⟩
 have := z_1.size
 have u_5 := λ q hq => (HR.lt q hq).2
 have hlr : (Rv.rv l k).length = l.length := Rv.rv_len
 have hokr : ∀ y ∈ Rv.rv l k, y.ok := λ y hy => hok y ((Rv.rv_perm k (by omega)).subset hy)
 refine sq <| sg <| vm rfl <| vm rfl <| vL (blt rfl rfl) <| nK <| ?_
 refine clt rfl (λ h_6 => ?_) (λ h_6 => ?_)
 ·refine sK <| sq <| bk <| ?_
  refine rd [(7, 0), (11, 0), (13, 3), (15, 3)] [0, 1, 2, 3, 4, 5, 6, 7, 8, 9, 10, 11, 12, 13, 14, 15] (by kernel_rfl) (by kernel_rfl) ?_
  refine fw1 rfl (λ _ => mv rfl) <| fw1 rfl (λ _ => mv rfl) <| fw1 rfl (λ _ => mv rfl) <| fw1 rfl (λ _ => mv rfl) <| fw1 rfl (λ _ => mv rfl) <| fw1 rfl (λ _ => mv rfl) <| fw1 rfl (λ _ => iA J.toNat Try.underlying41 eF3 rfl rfl (HR.has.adr (zl J.toNat (by first | omega | (rw [List.length_set]; omega)))) (by omega) (by first | omega | (rw [List.length_set]; omega))) <| fq1 rfl (λ _ x => ld rfl (Rep.SHas.elt Mt.hcG ((HR.later x).has.adh (zl J.toNat (by first | omega | (rw [List.length_set]; omega)))) (get_d (l := Rv.rv l k) (u := default) (by first | omega | (rw [List.length_set]; omega))) eF4 eF3)) <| fw1 rfl (λ _ => mv rfl) <| fw1 rfl (λ _ => mv rfl) <| fw1 rfl (λ _ => iA k Try.underlying41 eF3 rfl rfl (HR.has.adr (zl k (by first | omega | (rw [List.length_set]; omega)))) rfl (by first | omega | (rw [List.length_set]; omega))) <| fq1 rfl (λ _ x => ld rfl (Rep.SHas.elt Mt.hcG ((HR.later x).has.adh (zl k (by first | omega | (rw [List.length_set]; omega)))) (get_d (l := Rv.rv l k) (u := default) (by first | omega | (rw [List.length_set]; omega))) eF4 eF3)) <| fw1 rfl (λ _ => iA k Try.underlying41 eF3 rfl rfl (HR.has.adr (zl k (by first | omega | (rw [List.length_set]; omega)))) rfl (by first | omega | (rw [List.length_set]; omega))) <| fb rfl rfl rfl λ w_7 x_8 Q hK => soE (q' := (Rv.rv l k).getD J.toNat default) (i := k) (es := [.int .i64 (((Rv.rv l k).getD J.toNat default).a), .int .i64 (((Rv.rv l k).getD J.toNat default).b), .int .i64 (((Rv.rv l k).getD J.toNat default).won)]) (HR.later x_8) Rep.flat_bare (by first | omega | (rw [List.length_set]; omega)) rfl rfl rfl rfl (λ _ => ⟨rfl, (hokr _ (mem_dd (by omega)))⟩) eF3 λ w_9 m_10 O_11 => hK _ _ ?_
  have := x_8.size
  have z_7 := z_1.trans (Mod.of_ext x_8)
  have := m_10.size
  have z_9 := z_7.md m_10 (λ q hq => .inl hq)
  have := m_10.size
  refine fw1 rfl (λ _ => iA J.toNat Try.underlying41 eF3 rfl rfl (O_11.has.adr (zl J.toNat (by first | omega | (rw [List.length_set]; omega)))) (by omega) (by first | omega | (rw [List.length_set]; omega))) <| fb rfl rfl rfl λ w_15 x_16 Q hK => soE (q' := (Rv.rv l k).getD k default) (i := J.toNat) (es := [.int .i64 (((Rv.rv l k).getD k default).a), .int .i64 (((Rv.rv l k).getD k default).b), .int .i64 (((Rv.rv l k).getD k default).won)]) (O_11.later x_16) Rep.flat_bare (by first | omega | (rw [List.length_set]; omega)) rfl rfl rfl rfl (λ _ => ⟨rfl, (hokr _ (mem_dd (by omega)))⟩) eF3 λ w_17 m_18 O_19 => hK _ _ ?_
  have := x_16.size
  have z_15 := z_9.trans (Mod.of_ext x_16)
  have := m_18.size
  have z_17 := z_15.md m_18 (λ q hq => .inl hq)
  have := m_18.size
  refine fn λ w_23 x_24 => ?_
  have := x_24.size
  have z_23 := z_17.trans (Mod.of_ext x_24)
  refine nB <| nT <| rg <| vm rfl <| vL (bad rfl rfl (inI (by omega))) <| vm rfl <| vL (bsu rfl rfl (inI (by omega))) <| va rfl <| va rfl <| nl <| ?_
  have O_19 := O_19.later x_24
  exact nI _ _ ⟨k + 1, (J - 1), rfl, rfl, z_23, (by have h := O_19; rw [show J.toNat = l.length - 1 - k by omega] at h; exact h), by omega, by omega⟩ (by omega) (.cons rfl (.cons (loI rfl (by first | omega | rfl | (simp <;> omega))) (.cons (loI rfl (by first | omega | rfl | (simp <;> omega))) .nil)))
 ·refine xt <| xT <| xK <| xB <| ne <| tR .nil <| ?_
  exact ⟨rfl, by have h := HR; rw [Rv.rv_end (by omega) (by omega)] at h; exact h, z_1⟩
theorem matchAny_w (n : Int) (l : List Gam) (A : Option Addr) (c : Nat) (w : World) (hl : Gam.rep.SHas 24 w A c l) :
  Calls Try.prog 7 #[.int .i64 n, .slice A l.length c] w (λ e w' => e = .returned (.bool true) ∧ Ext w w') := by
 have hok := Gam.all_ok hl
 have hl63 := hl.len_le
 refine calls_W (n := 92) Try.func7 rfl rfl rfl ?_
 refine sg <| va rfl <| nK <| sg <| vm rfl <| ca eF29 rfl rfl ((clone_Gm _ _ l _ (hl.keep (Ext.rf w))).mono ?_)
 rintro e w_4 ⟨A1, c1, rfl, OC1, hn1, x_5⟩
 refine ⟨_, rfl, ?_⟩
 have := x_5.size
 have z_4 := eT (Ext.rf w) x_5
 have u_2 := λ q hq => (OC1.lt q hq).2
 have lo_3 := λ q hq => (OC1.lt q hq).1
 refine va rfl <| nK <| sg <| vm rfl <| ca eF30 rfl rfl ((reverse_Gm A1 _ _ l _ OC1 hok).mono ?_)
 rintro e w_9 ⟨rfl, OV7, m_8⟩
 refine ⟨_, rfl, ?_⟩
 have := m_8.size
 have z_9 := Ext.mod z_4 m_8 (λ q hq => (OC1.lt q hq).1)
 refine nK <| sq <| sg <| vm rfl <| vL (ln Try.underlying41 rfl) <| vm rfl <| nK <| bk <| ?_
 refine lp (λ mI EI wI => ∃ k : Nat, EI = [(0, .int .i64 n), (1, .slice A l.length c), (4, .bool false), (5, .slice A1 ((l).length) c1), (20, .slice A1 ((l).length) c1), (21, .int .i64 ((((l).length : Nat) : Int))), (22, .int .i64 (k : Int))] ∧ mI = l.length - k ∧ Ext w wI ∧ Gam.rep.SOwn 46 24 wI w.heap.size (Rep.blkOf A1) A1 c1 (flK l.reverse k) ∧ (k ≤ l.length)) _ _ ⟨0, rfl, rfl, z_9, (by unfold flK; rw [List.take_zero, List.drop_zero]; exact OV7), by omega⟩ (.cons rfl (.cons rfl (.cons rfl (.cons rfl (.cons rfl (.cons rfl (.cons (loI rfl (by first | omega | rfl | (simp <;> omega))) .nil))))))) ?_
 rintro m_12 E_13 w_11 ⟨k, rfl, rfl, z_11, HM, hk⟩
 have := z_11.size
 have u_15 := λ q hq => (HM.lt q hq).2
 have hfk := flK_len (R := l.reverse) (k := k) (by rw [List.length_reverse]; omega)
 refine sg <| vL (blt rfl rfl) <| nK <| sq <| ?_
 refine clt rfl (λ h_16 => ?_) (λ h_16 => ?_)
 ·obtain ⟨g, hg⟩ : ∃ g, l.reverse[k]? = some g := ⟨_, List.getElem?_eq_getElem (by rw [List.length_reverse]; omega)⟩
  obtain ⟨o1, o2, o3⟩ := hok g (List.mem_reverse.1 (List.mem_of_getElem? hg))
  refine sK <| sq <| bk <| sg <| vm rfl <| vL (iA k Try.underlying41 eF3 rfl rfl (HM.has.adr (zl k (by first | omega | (rw [flK_len (by rw [List.length_reverse]; omega), List.length_reverse]; omega)))) rfl (by first | omega | (rw [flK_len (by rw [List.length_reverse]; omega), List.length_reverse]; omega))) <| vL (ld rfl (Rep.SHas.elt Mt.hcG (HM.has.adh (zl k (by first | omega | (rw [flK_len (by rw [List.length_reverse]; omega), List.length_reverse]; omega)))) (flK_at hg) eF4 eF3)) <| al rfl eF5 rfl rfl λ w_17 b_18 x_19 l_20 B_21 => ?_
  have := x_19.size
  have z_17 := eT z_11 x_19
  have q_23 := B_21.lt
  refine va rfl <| st (new := [.int .i64 g.a, .int .i64 g.b, .int .i64 g.won]) rfl rfl B_21 rfl eF3 rfl rfl rfl λ w_24 m_25 B_21 => ?_
  have := m_25.size
  have z_24 := Ext.mod z_17 m_25 (ge1 (by omega))
  have := m_25.size
  refine nK <| sg <| vL (fa eF9 rfl) <| vL (ld rfl (B_21.one eF7 rfl)) <| vL (beq rfl rfl) <| vm rfl <| vQ rfl rfl rfl rfl (λ hc => fa eF9 rfl) rfl <| vQ rfl rfl rfl rfl (λ hc => ld (gt hc rfl) (B_21.one eF7 rfl)) rfl <| vQ rfl rfl rfl rfl (λ hc => beq (gt hc rfl) rfl) rfl <| vL (pO rfl rfl rfl rfl) <| nK <| ?_
  refine cb rfl (λ h_28 => ?_) (λ h_28 => ?_)
  ·simp only [bS] at h_28
   have hw : g.won = 0 ∨ g.won = 1 := by have h_ := h_28; first | exact h_ | omega
   refine rg <| vm rfl <| vm rfl <| vL (fa eF8 rfl) <| vL (ld rfl (B_21.one eF7 rfl)) <| vL (fa eF6 rfl) <| vL (ld rfl (B_21.one eF7 rfl)) <| vL (fa eF9 rfl) <| vL (ld rfl (B_21.one eF7 rfl)) <| vL (bsu rfl rfl (inI (by omega))) <| vL (v := .agg #[.int .i64 g.b, .int .i64 g.a, .int .i64 (1 - g.won)]) (bd rfl (by kernel_rfl)) <| ?_
   have HM := HM.later x_19
   have HM := HM.mod m_25 (fk1 u_15 (by omega))
   refine vL (iA k Try.underlying41 eF3 rfl rfl (HM.has.adr (zl k (by first | omega | (rw [flK_len (by rw [List.length_reverse]; omega), List.length_reverse]; omega)))) rfl (by first | omega | (rw [flK_len (by rw [List.length_reverse]; omega), List.length_reverse]; omega))) <| soE (q' := (⟨g.b, g.a, 1 - g.won⟩ : Gam)) (i := k) (es := [.int .i64 g.b, .int .i64 g.a, .int .i64 (1 - g.won)]) HM Rep.flat_bare (by first | omega | (rw [flK_len (by rw [List.length_reverse]; omega), List.length_reverse]; omega)) rfl rfl rfl rfl (λ _ => ⟨rfl, ⟨o2, o1, okI_iff.2 (by dsimp only; omega)⟩⟩) eF3 λ w_29 m_30 O_31 => ?_
   have := m_30.size
   have z_29 := Ext.mod z_24 m_30 (λ q hq => Nat.le_trans (by omega) (HM.lt q hq).1)
   have := m_30.size
   refine nl <| nB <| nT <| rg <| vL (bad rfl rfl (inI (by omega))) <| vm rfl <| nl <| ?_
   exact nI _ _ ⟨k + 1, rfl, rfl, z_29, (by rw [← flK_set hg, ← flip_one hw]; exact O_31), by omega⟩ (by omega) (.cons rfl (.cons rfl (.cons rfl (.cons rfl (.cons rfl (.cons rfl (.cons (loI rfl (by first | omega | rfl | (simp <;> omega))) .nil)))))))
  ·simp only [bS] at h_28
   have hw : g.won ≠ 0 ∧ g.won ≠ 1 := by have h_ := h_28; first | exact h_ | omega
   refine sk <| nB <| nT <| rg <| vL (bad rfl rfl (inI (by omega))) <| vm rfl <| nl <| ?_
   have HM := HM.later x_19
   have HM := HM.mod m_25 (fk1 u_15 (by omega))
   exact nI _ _ ⟨k + 1, rfl, rfl, z_24, (by rw [← flK_skip hg hw.1 hw.2]; exact HM), by omega⟩ (by omega) (.cons rfl (.cons rfl (.cons rfl (.cons rfl (.cons rfl (.cons rfl (.cons (loI rfl (by first | omega | rfl | (simp <;> omega))) .nil)))))))
 ·have ek : k = l.length := by omega
  refine xt <| xT <| xK <| xB <| nT <| sg <| vm rfl <| vm rfl <| ?_
  have hfe : flK l.reverse k = l.reverse.map flipG := by unfold flK; rw [List.take_of_length_le (by rw [List.length_reverse]; omega), List.drop_eq_nil_of_le (by rw [List.length_reverse]; omega), List.append_nil]
  have hMm := HM
  rw [hfe] at hMm
  have hml : (l.reverse.map flipG).length = l.length := by rw [List.length_map, List.length_reverse]
  refine ca eF31 rfl rfl ((points_any n l _ _ _ (hl.keep z_11)).mono ?_)
  rintro e w_37 ⟨e34, A34, c34, L34, rfl, ⟨he34, hL34⟩, HI34, x_38⟩
  refine ⟨_, rfl, ?_⟩
  have := x_38.size
  have z_37 := eT z_11 x_38
  have u_35 := λ q hq => (HI34.lt q hq).2
  have lo_36 := λ q hq => (HI34.lt q hq).1
  refine vm rfl <| vL (ex rfl rfl) <| vL (ex rfl rfl) <| va rfl <| va rfl <| nK <| sg <| vm rfl <| vm rfl <| ?_
  have hMm := hMm.later x_38
  have hQ_43 := points_any n (l.reverse.map flipG) _ _ w_37 hMm.has
  rw [hml] at hQ_43
  refine ca eF31 rfl rfl ((hQ_43).mono ?_)
  rintro e w_44 ⟨e40, A40, c40, L40, rfl, ⟨he40, hL40⟩, HI40, x_45⟩
  refine ⟨_, rfl, ?_⟩
  have := x_45.size
  have z_44 := eT z_37 x_45
  have u_41 := λ q hq => (HI40.lt q hq).2
  have lo_42 := λ q hq => (HI40.lt q hq).1
  refine vm rfl <| vL (ex rfl rfl) <| vL (ex rfl rfl) <| va rfl <| va rfl <| nK <| sg <| vm rfl <| vm rfl <| ca eF27 rfl rfl ((table_any n l _ _ _ (hl.keep z_44)).mono ?_)
  rintro e w_50 ⟨e47, A47, c47, L47, rfl, ⟨he47, hL47⟩, HI47, x_51⟩
  refine ⟨_, rfl, ?_⟩
  have := x_51.size
  have z_50 := eT z_44 x_51
  have u_48 := λ q hq => (HI47.lt q hq).2
  have lo_49 := λ q hq => (HI47.lt q hq).1
  refine vm rfl <| vL (ex rfl rfl) <| vL (ex rfl rfl) <| va rfl <| va rfl <| nK <| sg <| vm rfl <| vm rfl <| ?_
  have hMm := hMm.later (eT x_45 x_51)
  have hQ_56 := table_any n (l.reverse.map flipG) _ _ w_50 hMm.has
  rw [hml] at hQ_56
  refine ca eF27 rfl rfl ((hQ_56).mono ?_)
  rintro e w_57 ⟨e53, A53, c53, L53, rfl, ⟨he53, hL53⟩, HI53, x_58⟩
  refine ⟨_, rfl, ?_⟩
  have := x_58.size
  have z_57 := eT z_50 x_58
  have u_54 := λ q hq => (HI53.lt q hq).2
  have lo_55 := λ q hq => (HI53.lt q hq).1
  refine vm rfl <| vL (ex rfl rfl) <| vL (ex rfl rfl) <| va rfl <| va rfl <| nK <| sg <| ?_
  have k1 : decide (L34 = L40) = true := by rw [hL34, hL40]; unfold ptR; rw [flip_R]; simp
  have k2 : (e34 == e40) = true := by rw [he34, he40, flip_E]; simp
  have k3 : decide (L47 = L53) = true := by rw [hL47, hL53]; unfold tbR; rw [flip_R]; simp
  have k4 : (e47 == e53) = true := by rw [he47, he53, flip_E]; simp
  refine ca eF32 rfl rfl ((matchLives_any _).mono ?_)
  rintro e w_60 ⟨rfl, x_61⟩
  refine ⟨_, rfl, ?_⟩
  have := x_61.size
  have z_60 := eT z_57 x_61
  refine vm rfl <| ug rfl rfl rfl <| vm rfl <| ug rfl rfl rfl <| vm rfl <| ug rfl rfl rfl <| ?_
  have HI34 := HI34.later (eT x_45 (eT x_51 (eT x_58 x_61)))
  have HI40 := HI40.later (eT x_51 (eT x_58 x_61))
  refine ca eF28 rfl rfl ((equal_I _ _ _ _ _ _ L34 L40 _ HI34.has HI40.has).mono ?_)
  rintro e w_63 ⟨rfl, x_64⟩
  refine ⟨_, rfl, ?_⟩
  have := x_64.size
  have z_63 := eT z_60 x_64
  refine vL (pkT rfl (evb rfl k1)) <| vm rfl <| ug rfl rfl rfl <| vm rfl <| ug rfl rfl rfl <| vm rfl <| ug rfl rfl rfl <| vL (beq rfl rfl) <| vL (pkT rfl (evb rfl k2)) <| vm rfl <| ug rfl rfl rfl <| vm rfl <| ug rfl rfl rfl <| vm rfl <| ug rfl rfl rfl <| ?_
  have HI47 := HI47.later (eT x_58 (eT x_61 x_64))
  have HI53 := HI53.later (eT x_61 x_64)
  refine ca eF28 rfl rfl ((equal_I _ _ _ _ _ _ L47 L53 _ HI47.has HI53.has).mono ?_)
  rintro e w_66 ⟨rfl, x_67⟩
  refine ⟨_, rfl, ?_⟩
  have := x_67.size
  have z_66 := eT z_63 x_67
  refine vL (pkT rfl (evb rfl k3)) <| vm rfl <| ug rfl rfl rfl <| vm rfl <| ug rfl rfl rfl <| vm rfl <| ug rfl rfl rfl <| vL (beq rfl rfl) <| vL (pkT rfl (evb rfl k4)) <| va rfl <| nK <| rt <| tR (.tmp rfl .nil) <| ?_
  exact ⟨ret_true rfl, z_66⟩
theorem matchAny_any (a0 : Int) (a1 : Option Addr) (len1 cap1 : Nat) (w : World) (w0 : (Lit.int .i64 a0).wf = true) (h1 : (.slice (.cons (.int .i64) (.cons (.int .i64) (.cons (.int .i64) .nil))) 24 : Sh).Ok w [.slice a1 len1 cap1]) :
  Calls Try.prog 7 #[.int .i64 a0, .slice a1 len1 cap1] w λ e w' => e = .returned (.bool true) ∧ Below w.heap.size w w' := by
 obtain ⟨Ax, cx, l, e1, hl1⟩ := Rep.opens_slice (R := Gam.rep) (by_ := 24) Gam.opens rfl (by decide) h1
 injection e1 with e_ _
 injection e_ with q1_ q2_ q3_
 subst q1_ q2_ q3_
 exact matchAny_w a0 l _ _ w hl1
end
end Go.Proofs.Ytccankldeogdlaa
