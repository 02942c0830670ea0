import Derived.Test.YtffjpfpbpnhmcaaWOwn2
import Derived.Test.YtffjpfpbpnhmcaaWld
import Derived.Test.YtffjpfpbpnhmcaaDed
import Derived.Test.YtffjpfpbpnhmcaaBas
import Derived.Test.YtffjpfpbpnhmcaaGol
import Derived.Test.YtffjpfpbpnhmcaaTroF
import Derived.Test.YtffjpfpbpnhmcaaHitS
import Derived.Test.YtffjpfpbpnhmcaaHpL
import Derived.Test.YtffjpfpbpnhmcaaCrt
set_option linter.unusedVariables false
set_option linter.unusedSimpArgs false
namespace Go.Proofs.Ytffjpfpbpnhmcaa
open Go.RowKit

def beside (a b : Cel) : Bool := inB b.x (a.x - 1) (a.x + 1) && inB b.y (a.y - 1) (a.y + 1)
namespace Wd
def place (W : Wd) (c : Cel) : Nat := (c.y * W.field.wide + c.x).toNat
def addLoad (t : Trp) (n : Int) : Trp := { t with load := t.load + n }
/-- A load is mined. -/
def mine (W : Wd) (d : Ded) : Option Wd :=
  match W.troops.findIdx? (isId d.who) with
  | none => none
  | some k =>
    let t := W.troops.getD k default
    let m := W.mines.getD (W.place d.spot) 0
    if t.kind == 1 && decide (t.load < 5) && beside t.spot d.spot && W.field.isIn d.spot && m != 0 then
      some { W with mines := W.mines.set (W.place d.spot) (m - 1), troops := W.troops.set k (addLoad t 1) }
    else none
/-- What is carried is brought in. -/
def drop (W : Wd) (d : Ded) : Option Wd :=
  match W.troops.findIdx? (isId d.who) with
  | none => none
  | some k =>
    let t := W.troops.getD k default
    let o := t.owner.toNat
    let s := W.stocks.getD o 0
    let n := min t.load (1000000 - s)
    if t.load != 0 && beside (W.bases.getD o default) t.spot && decide (0 < n) then
      some { W with stocks := W.stocks.set o (s + n), troops := W.troops.set k (addLoad t (-n)) }
    else none
/-- The cells around one, itself first. -/
def around (c : Cel) : List Cel :=
  [c, ⟨c.x - 1, c.y - 1⟩, ⟨c.x, c.y - 1⟩, ⟨c.x + 1, c.y - 1⟩, ⟨c.x - 1, c.y⟩, ⟨c.x, c.y⟩, ⟨c.x + 1, c.y⟩, ⟨c.x - 1, c.y + 1⟩, ⟨c.x, c.y + 1⟩, ⟨c.x + 1, c.y + 1⟩]
def openTo (W : Wd) (c : Cel) : Bool := W.field.ground c && !W.troops.any (isAt c)
def free (W : Wd) (c : Cel) : Option Cel := (around c).find? W.openTo
/-- A troop is made. -/
def hire (W : Wd) (d : Ded) : Option Wd :=
  let s := W.stocks.getD d.who.toNat 0
  if inB d.who 0 ((W.bases.length : Int) - 1) && inB d.what 1 2 && decide (priceOf d.what ≤ s) && decide (W.troops.length < 100) && decide (W.next < 1000000) then
    match W.free (W.bases.getD d.who.toNat default) with
    | none => none
    | some c => some { W with troops := W.troops ++ [⟨W.next, d.who, d.what, c, lifeOf d.what, 0⟩], next := W.next + 1, stocks := W.stocks.set d.who.toNat (s - priceOf d.what) }
  else none
def deed (W : Wd) (d : Ded) : Option Wd := if d.kind = 1 then W.mine d else if d.kind = 2 then W.drop d else if d.kind = 3 then W.hire d else none
def deeds (W : Wd) : List Ded → Wd × List Bool
  | [] => (W, [])
  | d :: l => match W.deed d with
    | some V => ((V.deeds l).1, true :: (V.deeds l).2)
    | none => ((W.deeds l).1, false :: (W.deeds l).2)
end Wd
theorem findId {l : List Trp} {id : Int} {k : Nat} (h : l.findIdx? (isId id) = some k) : ∃ t, l[k]? = some t ∧ t.id = id ∧ l.getD k default = t := by
  obtain ⟨h1, h2, _⟩ := List.findIdx?_eq_some_iff_getElem.1 h
  exact ⟨l[k], List.getElem?_eq_getElem h1, by simpa [isId] using h2, by rw [List.getD_eq_getElem?_getD, List.getElem?_eq_getElem h1]; rfl⟩
/-- A troop's load is other: all that a world asks of its troops stays. -/
theorem spots_set {W V : Wd} {k : Nat} {t u : Trp} (hV : V.troops = W.troops.set k u) (ht : W.troops[k]? = some t) (hs : u.spot = t.spot) (i : Nat) : V.spots i = W.spots i := by
  unfold Wd.spots
  rw [hV, List.take_set, List.map_set]
  by_cases hki : k < i
  · have h1 : ((W.troops.take i).map (·.spot))[k]? = some t.spot := by rw [List.getElem?_map, List.getElem?_take, if_pos hki, ht]; rfl
    obtain ⟨h2, h3⟩ := List.getElem?_eq_some_iff.1 h1
    rw [hs, ← h3]
    exact List.set_getElem_self _
  · rw [List.set_eq_of_length_le (by rw [List.length_map, List.length_take]; omega)]
theorem last_set {W V : Wd} {k : Nat} {t u : Trp} (hV : V.troops = W.troops.set k u) (ht : W.troops[k]? = some t) (hs : u.id = t.id) (i : Nat) : V.lastId i = W.lastId i := by
  unfold Wd.lastId
  by_cases hi : i = 0
  · rw [if_pos hi, if_pos hi]
  · rw [if_neg hi, if_neg hi, hV, List.getD_eq_getElem?_getD, List.getD_eq_getElem?_getD]
    by_cases hk : k = i - 1
    · subst hk
      rw [List.getElem?_set_self (List.getElem?_eq_some_iff.1 ht).1, ht]
      exact hs
    · rw [List.getElem?_set_ne hk]
theorem at_set {W V : Wd} {k : Nat} {t u : Trp} (hV : V.troops = W.troops.set k u) (ht : W.troops[k]? = some t) {i : Nat} {x : Trp} (hx : V.troops[i]? = some x) : (i = k ∧ x = u) ∨ (i ≠ k ∧ W.troops[i]? = some x) := by
  rw [hV] at hx
  by_cases hk : k = i
  · subst hk
    rw [List.getElem?_set_self (List.getElem?_eq_some_iff.1 ht).1] at hx
    exact .inl ⟨rfl, (Option.some.inj hx).symm⟩
  · rw [List.getElem?_set_ne hk] at hx
    exact .inr ⟨Ne.symm hk, hx⟩
/-- A world of which one troop carries other loads, and mines and stocks are other, is right. -/
theorem Good.turned {W V : Wd} (h : Good W) {k : Nat} {t : Trp} {n : Int} (ht : W.troops[k]? = some t) (hV : V.troops = W.troops.set k (Wd.addLoad t n)) (hl : 0 ≤ t.load + n ∧ t.load + n ≤ Wd.mostOf t.kind)
    (hf : V.field = W.field) (hb : V.bases = W.bases) (hn : V.next = W.next) (hw : V.now = W.now)
    (hsl : V.stocks.length = W.stocks.length) (hs : ∀ (i : Nat) s, V.stocks[i]? = some s → 0 ≤ s ∧ s ≤ 1000000)
    (hml : V.mines.length = W.mines.length) (hm : ∀ (i : Nat) m, V.mines[i]? = some m → 0 ≤ m ∧ m ≤ 1000000 ∧ (m ≤ 0 ∨ W.field.places.getD i 0 = 3)) : Good V := by
  have h1 := h.troops k t ht
  have hlen : V.troops.length = W.troops.length := by rw [hV, List.length_set]
  refine ⟨by rw [hf]; exact h.field, by rw [hb]; exact h.nb, by rw [hlen]; exact h.nt, by rw [hsl, hb]; exact h.sl, ?_, hs, by rw [hml, hf]; exact h.ml, by rw [hf]; exact hm, fun i x hx => ?_, fun i x hx => ?_, fun i x hx => ?_, by rw [hn]; exact h.next, by rw [hw]; exact h.now⟩
  · rw [hb, hf]; exact h.bases
  · rw [hf, hb]
    rcases at_set hV ht hx with ⟨rfl, rfl⟩ | ⟨_, hx⟩
    · exact ⟨h1.kind, h1.owner, h1.ground, h1.life, hl⟩
    · exact h.troops i x hx
  · rw [last_set hV ht rfl, hn]
    rcases at_set hV ht hx with ⟨rfl, rfl⟩ | ⟨_, hx⟩
    · exact h.ids i t ht
    · exact h.ids i x hx
  · rw [spots_set hV ht rfl]
    rcases at_set hV ht hx with ⟨rfl, rfl⟩ | ⟨_, hx⟩
    · exact h.spots i t ht
    · exact h.spots i x hx
theorem mine_some {W V : Wd} {d : Ded} (h : W.mine d = some V) : ∃ (k : Nat) (t : Trp), W.troops.findIdx? (isId d.who) = some k ∧ W.troops[k]? = some t ∧ t.id = d.who ∧ t.kind = 1 ∧ t.load < 5 ∧ beside t.spot d.spot = true ∧ W.field.isIn d.spot = true ∧ W.mines.getD (W.place d.spot) 0 ≠ 0 ∧
    V = { W with mines := W.mines.set (W.place d.spot) (W.mines.getD (W.place d.spot) 0 - 1), troops := W.troops.set k (Wd.addLoad t 1) } := by
  unfold Wd.mine at h
  cases hf : W.troops.findIdx? (isId d.who) with
  | none => rw [hf] at h; cases h
  | some k =>
    rw [hf] at h
    obtain ⟨t, ht, hid, hg⟩ := findId hf
    simp only [hg] at h
    split at h
    · rename_i hc
      simp only [Bool.and_eq_true, decide_eq_true_eq, bne_iff_ne, beq_iff_eq] at hc
      exact ⟨k, t, rfl, ht, hid, hc.1.1.1.1, hc.1.1.1.2, hc.1.1.2, hc.1.2, hc.2, (Option.some.inj h).symm⟩
    · cases h
theorem drop_some {W V : Wd} {d : Ded} (h : W.drop d = some V) : ∃ (k : Nat) (t : Trp) (n : Int), W.troops.findIdx? (isId d.who) = some k ∧ W.troops[k]? = some t ∧ t.id = d.who ∧ t.load ≠ 0 ∧ beside (W.bases.getD t.owner.toNat default) t.spot = true ∧ n = min t.load (1000000 - W.stocks.getD t.owner.toNat 0) ∧ 0 < n ∧
    V = { W with stocks := W.stocks.set t.owner.toNat (W.stocks.getD t.owner.toNat 0 + n), troops := W.troops.set k (Wd.addLoad t (-n)) } := by
  unfold Wd.drop at h
  cases hf : W.troops.findIdx? (isId d.who) with
  | none => rw [hf] at h; cases h
  | some k =>
    rw [hf] at h
    obtain ⟨t, ht, hid, hg⟩ := findId hf
    simp only [hg] at h
    split at h
    · rename_i hc
      simp only [Bool.and_eq_true, decide_eq_true_eq, bne_iff_ne] at hc
      exact ⟨k, t, _, rfl, ht, hid, hc.1.1, hc.1.2, rfl, hc.2, (Option.some.inj h).symm⟩
    · cases h
theorem hire_some {W V : Wd} {d : Ded} (h : W.hire d = some V) : ∃ c : Cel, W.free (W.bases.getD d.who.toNat default) = some c ∧ 0 ≤ d.who ∧ d.who < (W.bases.length : Int) ∧ (d.what = 1 ∨ d.what = 2) ∧ Wd.priceOf d.what ≤ W.stocks.getD d.who.toNat 0 ∧ W.troops.length < 100 ∧ W.next < 1000000 ∧
    V = { W with troops := W.troops ++ [⟨W.next, d.who, d.what, c, Wd.lifeOf d.what, 0⟩], next := W.next + 1, stocks := W.stocks.set d.who.toNat (W.stocks.getD d.who.toNat 0 - Wd.priceOf d.what) } := by
  unfold Wd.hire at h
  simp only at h
  split at h
  · rename_i hc
    simp only [Bool.and_eq_true, decide_eq_true_eq] at hc
    have a := inB_true hc.1.1.1.1
    have b := inB_true hc.1.1.1.2
    split at h
    · cases h
    · rename_i c hfr
      exact ⟨c, hfr, a.1, by omega, by omega, hc.1.1.2, hc.1.2, hc.2, (Option.some.inj h).symm⟩
  · cases h
theorem price_pos (k : Int) : 0 ≤ Wd.priceOf k := by unfold Wd.priceOf; split <;> (try split) <;> omega
theorem Good.mine {W V : Wd} {d : Ded} (h : Good W) (hd : W.mine d = some V) : Good V := by
  obtain ⟨k, t, _, ht, _, hk, hl, _, hin, hm0, rfl⟩ := mine_some hd
  have h1 := h.troops k t ht
  have hmo : Wd.mostOf t.kind = 5 := by rw [hk]; rfl
  obtain ⟨i1, i2, _⟩ := Fld.idx h.field hin
  have hlt : W.place d.spot < W.mines.length := by rw [h.ml]; unfold Wd.place; omega
  obtain ⟨m, hm⟩ := get_of hlt
  have h2 := h.mines _ m hm
  have hg : W.mines.getD (W.place d.spot) 0 = m := by rw [List.getD_eq_getElem?_getD, hm]; rfl
  rw [hg] at hm0 ⊢
  refine h.turned ht rfl (by have := h1.load; omega) rfl rfl rfl rfl rfl h.stocks (by simp) fun i x hx => ?_
  simp only at hx
  by_cases hi : W.place d.spot = i
  · subst hi
    rw [List.getElem?_set_self hlt] at hx
    obtain rfl := Option.some.inj hx
    refine ⟨by omega, by omega, ?_⟩
    rcases h2.2.2 with h3 | h3
    · omega
    · exact .inr h3
  · rw [List.getElem?_set_ne hi] at hx
    exact h.mines i x hx
theorem Good.drop {W V : Wd} {d : Ded} (h : Good W) (hd : W.drop d = some V) : Good V := by
  obtain ⟨k, t, n, _, ht, _, hl, _, hn, hn0, rfl⟩ := drop_some hd
  have h1 := h.troops k t ht
  have hlt : t.owner.toNat < W.stocks.length := by rw [h.sl]; have := h1.owner; omega
  obtain ⟨s, hs⟩ := get_of hlt
  have h2 := h.stocks _ s hs
  have hg : W.stocks.getD t.owner.toNat 0 = s := by rw [List.getD_eq_getElem?_getD, hs]; rfl
  rw [hg] at hn ⊢
  refine h.turned ht rfl (by have := h1.load; omega) rfl rfl rfl rfl (by simp) (fun i x hx => ?_) rfl h.mines
  simp only at hx
  by_cases hi : t.owner.toNat = i
  · subst hi
    rw [List.getElem?_set_self hlt] at hx
    obtain rfl := Option.some.inj hx
    omega
  · rw [List.getElem?_set_ne hi] at hx
    exact h.stocks i x hx
theorem Good.hire {W V : Wd} {d : Ded} (h : Good W) (hd : W.hire d = some V) : Good V := by
  obtain ⟨c, hfr, hw0, hw1, hk, hp, hnt, hnx, rfl⟩ := hire_some hd
  have hop := List.find?_some hfr
  unfold Wd.openTo at hop
  rw [Bool.and_eq_true] at hop
  have hany : ∀ t ∈ W.troops, t.spot ≠ c := fun t ht he => by
    have := hop.2
    rw [Bool.not_eq_true', List.any_eq_false] at this
    exact this t ht (by simp [isAt, he])
  have hlt : d.who.toNat < W.stocks.length := by rw [h.sl]; omega
  obtain ⟨s, hs⟩ := get_of hlt
  have h2 := h.stocks _ s hs
  have hg : W.stocks.getD d.who.toNat 0 = s := by rw [List.getD_eq_getElem?_getD, hs]; rfl
  rw [hg] at hp ⊢
  have hpp := price_pos d.what
  have hn := h.next
  have hsp : ∀ i, i ≤ W.troops.length → Wd.spots { W with troops := W.troops ++ [⟨W.next, d.who, d.what, c, Wd.lifeOf d.what, 0⟩], next := W.next + 1, stocks := W.stocks.set d.who.toNat (s - Wd.priceOf d.what) } i = W.spots i := fun i hi => by
    unfold Wd.spots
    simp only
    rw [List.take_append_of_le_length hi]
  have hla : ∀ i, i ≤ W.troops.length → Wd.lastId { W with troops := W.troops ++ [⟨W.next, d.who, d.what, c, Wd.lifeOf d.what, 0⟩], next := W.next + 1, stocks := W.stocks.set d.who.toNat (s - Wd.priceOf d.what) } i = W.lastId i := fun i hi => by
    unfold Wd.lastId
    simp only
    by_cases h0 : i = 0
    · rw [if_pos h0, if_pos h0]
    · rw [if_neg h0, if_neg h0, List.getD_eq_getElem?_getD, List.getD_eq_getElem?_getD, List.getElem?_append_left (by omega)]
  have hat : ∀ (i : Nat) x, (W.troops ++ [(⟨W.next, d.who, d.what, c, Wd.lifeOf d.what, 0⟩ : Trp)])[i]? = some x → (i < W.troops.length ∧ W.troops[i]? = some x) ∨ (i = W.troops.length ∧ x = ⟨W.next, d.who, d.what, c, Wd.lifeOf d.what, 0⟩) := fun i x hx => by
    by_cases hi : i < W.troops.length
    · rw [List.getElem?_append_left hi] at hx; exact .inl ⟨hi, hx⟩
    · rw [List.getElem?_append_right (by omega)] at hx
      have h0 : i - W.troops.length = 0 := by
        have := (List.getElem?_eq_some_iff.1 hx).1
        simp at this; omega
      rw [h0] at hx
      exact .inr ⟨by omega, by simpa using hx.symm⟩
  have hlast : W.lastId W.troops.length < W.next ∧ 0 ≤ W.lastId W.troops.length := by
    by_cases h0 : W.troops.length = 0
    · rw [h0]; exact ⟨by show (0 : Int) < _; omega, Int.le_refl _⟩
    · obtain ⟨t, ht⟩ := get_of (l := W.troops) (i := W.troops.length - 1) (by omega)
      have h4 := h.ids _ t ht
      have e : W.lastId W.troops.length = t.id := by
        unfold Wd.lastId
        rw [if_neg h0, List.getD_eq_getElem?_getD, ht]; rfl
      rw [e]; omega
  refine ⟨h.field, h.nb, by simp; omega, by simp; exact h.sl, h.bases, fun i x hx => ?_, h.ml, h.mines, fun i x hx => ?_, fun i x hx => ?_, fun i x hx => ?_, by simp only; omega, h.now⟩
  · simp only at hx
    by_cases hi : d.who.toNat = i
    · subst hi
      rw [List.getElem?_set_self hlt] at hx
      obtain rfl := Option.some.inj hx
      omega
    · rw [List.getElem?_set_ne hi] at hx
      exact h.stocks i x hx
  · rcases hat i x hx with ⟨_, hx⟩ | ⟨_, rfl⟩
    · exact h.troops i x hx
    · exact ⟨hk, ⟨hw0, hw1⟩, hop.1, by simp only; rcases hk with h | h <;> rw [h] <;> decide, by simp only; rcases hk with h | h <;> rw [h] <;> decide⟩
  · rcases hat i x hx with ⟨hi, hx⟩ | ⟨rfl, rfl⟩
    · rw [hla i (by omega)]
      have := h.ids i x hx
      simp only; omega
    · rw [hla _ (Nat.le_refl _)]
      simp only; omega
  · rcases hat i x hx with ⟨hi, hx⟩ | ⟨rfl, rfl⟩
    · rw [hsp i (by omega)]; exact h.spots i x hx
    · rw [hsp _ (Nat.le_refl _)]
      simp only
      cases hc : (W.spots W.troops.length).contains c with
      | false => rfl
      | true =>
        rw [List.contains_iff_mem] at hc
        unfold Wd.spots at hc
        obtain ⟨t, ht, he⟩ := List.mem_map.1 hc
        exact absurd he (hany t (List.mem_of_mem_take ht))
theorem Good.deed {W V : Wd} {d : Ded} (h : Good W) (hd : W.deed d = some V) : Good V := by
  unfold Wd.deed at hd
  split at hd
  · exact h.mine hd
  · split at hd
    · exact h.drop hd
    · split at hd
      · exact h.hire hd
      · cases hd
theorem Good.deeds {W : Wd} (h : Good W) : ∀ l : List Ded, Good (W.deeds l).1 := by
  intro l
  induction l generalizing W with
  | nil => exact h
  | cons d l ih =>
    unfold Wd.deeds
    cases hd : W.deed d with
    | none => exact ih h
    | some V => exact ih (h.deed hd)
end Go.Proofs.Ytffjpfpbpnhmcaa
set_option linter.unusedVariables false
set_option linter.unusedSimpArgs false
namespace Go.Proofs.Ytffjpfpbpnhmcaa
open Go.RowKit

/-- Where a troop stands in memory. -/
def trAt (a : Wd.At) (k : Nat) : Option Addr := a.T.map fun x => ⟨x.block, k * 7, none⟩
def trOf (a : Wd.At) (W : Wd) (id : Int) : Option Addr := match W.troops.findIdx? (isId id) with | none => none | some k => trAt a k
end Go.Proofs.Ytffjpfpbpnhmcaa
set_option linter.unusedVariables false
set_option linter.unusedSimpArgs false
namespace Go.Proofs.Ytffjpfpbpnhmcaa
open Go.RowKit

def Wd.doE (W : Wd) (l : List Ded) : Int := if W.chk ≠ 0 then W.chk else if 200 < l.length then 2 else 0
def Wd.doW (W : Wd) (l : List Ded) : Wd := if W.doE l = 0 then (W.deeds l).1 else Wd.zero
def Wd.doB (W : Wd) (l : List Ded) : List Bool := if W.doE l = 0 then (W.deeds l).2 else []
/-- What goods.Do leaves. -/
def DoPost (W : Wd) (l : List Ded) (w : World) (e : Ending) (w' : World) : Prop :=
  ∃ a' A c, e = .returned (.tuple #[.agg (Wd.cells a' (W.doW l)).toArray, .slice A (W.doB l).length c, .int .i64 (W.doE l)]) ∧ WOwn w' w.heap.size a' (W.doW l) ∧ repB.SOwn 4 1 w' w.heap.size (Rep.blkOf A) A c (W.doB l) ∧ (∀ q ∈ Rep.blkOf A, q ∉ WOwn.foot a') ∧ Ext w w'
end Go.Proofs.Ytffjpfpbpnhmcaa
set_option linter.unusedVariables false
set_option linter.unusedSimpArgs false
namespace Go.Proofs.Ytffjpfpbpnhmcaa
open Go.RowKit

def wt (t : Trp) : Int := t.load + Wd.priceOf t.kind
/-- All there is. -/
def Wd.total (W : Wd) : Int := W.mines.sum + W.stocks.sum + (W.troops.map wt).sum
def Wd.worth (W : Wd) : Int := if W.chk = 0 then W.total else 0
end Go.Proofs.Ytffjpfpbpnhmcaa
set_option linter.unusedVariables false
set_option linter.unusedSimpArgs false
namespace Go.Proofs.Ytffjpfpbpnhmcaa
open Go.RowKit

theorem Eql_sz_api_Cell : Sz Try.prog 32 2 := fun _ => by kernel_rfl
theorem Eql_ag_api_Cell : Ag Try.prog 32 true := fun _ => by kernel_rfl
theorem Eql_eqs_api_Cell : EqS Try.prog Cel.cells 32 := by
  intro a b w
  obtain ⟨a0, a1⟩ := a
  obtain ⟨b0, b1⟩ := b
  simp only [Cel.cells, Cel.mk.injEq]
  constructor
  · go_simp
    repeat' split
    all_goals simp_all
  · go_simp
    repeat' split
    all_goals simp_all
theorem Eql_eqg_api_Cell : (Try.prog).eqGuardType (Try.prog).depth 32 = false := by kernel_rfl
theorem Eql_sz_api_Troop : Sz Try.prog 65 7 := fun _ => by kernel_rfl
theorem Eql_ag_api_Troop : Ag Try.prog 65 true := fun _ => by kernel_rfl
theorem Eql_eqs_api_Troop : EqS Try.prog Trp.cells 65 := by
  intro a b w
  obtain ⟨a0, a1, a2, ⟨a3, a4⟩, a5, a6⟩ := a
  obtain ⟨b0, b1, b2, ⟨b3, b4⟩, b5, b6⟩ := b
  simp only [Trp.cells, Trp.mk.injEq, Cel.mk.injEq]
  constructor
  · go_simp
    repeat' split
    all_goals simp_all
  · go_simp
    repeat' split
    all_goals simp_all
theorem Eql_eqg_api_Troop : (Try.prog).eqGuardType (Try.prog).depth 65 = false := by kernel_rfl
theorem Eql_sz_int : Sz Try.prog 3 1 := fun _ => by kernel_rfl
theorem Eql_ag_int : Ag Try.prog 3 false := fun _ => by kernel_rfl
theorem eq_all {α : Type} {l m : List α} {k : Nat} (h1 : l.length = m.length) (hk : l.length ≤ k) (h : ∀ j, j < k → l[j]? = m[j]?) : l = m := by
  apply List.ext_getElem?
  intro j
  by_cases hj : j < k
  · exact h j hj
  · rw [List.getElem?_eq_none (by omega), List.getElem?_eq_none (by omega)]
theorem ne_of_nb {α : Type} [DecidableEq α] {a b : α} (h : (!decide (a = b)) = true) : ¬ a = b := by simpa using h
theorem eq_of_nb {α : Type} [DecidableEq α] {a b : α} (h : (!decide (a = b)) = false) : a = b := by simpa using h
set_option maxRecDepth 100000 in
set_option maxHeartbeats 400000 in
theorem equal_C (A B : Option Addr) (c d b1 b2 : Nat) (l m : List Cel) (w : World) (h1 : Cel.rep.SHas b1 w A c l) (h2 : Cel.rep.SHas b2 w B d m) :
    Calls Try.prog 23 #[.slice A l.length c, .slice B m.length d] w (fun e w' => e = .returned (.bool (decide (l = m))) ∧ Ext w w') := by
  have hle := h1.len_le
  refine calls_W (n := 26) Try.func23 rfl rfl rfl ?_
  refine sq <| rg <| vl (as_ rfl) rfl <| nl <| nT <| sq <| sq <| rg <| vl (mv rfl) rfl <| vl (ln Try.underlying25 rfl) rfl <| vl (mv rfl) rfl <| vl (ln Try.underlying25 rfl) rfl <| vl (bne rfl rfl) rfl <| nl <| nT <| ?_
  refine cne rfl (fun h_1 => ?_) (fun h_1 => ?_)
  · refine sq <| rg <| vl (as_ rfl) rfl <| nl <| nT <| rt <| tT <| tR (.tmp rfl .nil) <| ?_
    rw [decide_eq_false (fun e => h_1 (by rw [e]))]
    exact ⟨rfl, (Ext.rf w)⟩
  · refine sk <| nT <| sq <| sq <| rg <| vl (mv rfl) rfl <| vl (ln Try.underlying25 rfl) rfl <| vl (mv rfl) rfl <| nl <| nT <| bk <| ?_
    refine lp (fun mI EI wI => ∃ k : Nat, EI = [(0, .slice A l.length c), (1, .slice B m.length d), (12, .int .i64 (l.length : Int)), (13, .int .i64 (k : Int))] ∧ mI = l.length - k ∧ Ext w wI ∧ (k ≤ l.length) ∧ (∀ j, j < k → l[j]? = m[j]?)) _ _ ⟨0, rfl, rfl, (Ext.rf w), by omega, fun j hj => absurd hj (by omega)⟩ (.cons rfl (.cons rfl (.cons rfl (.cons (loI rfl (by first | omega | rfl | (simp <;> omega))) .nil)))) ?_
    rintro m_3 E_4 w_2 ⟨k, rfl, rfl, z_2, hk, hk2⟩
    have q_5 := z_2.size
    have hle := h1.len_le
    have hle2 := h2.len_le
    refine sq <| rg <| vl (blt rfl rfl) rfl <| nl <| nT <| sq <| ?_
    refine clt rfl (fun h_6 => ?_) (fun h_6 => ?_)
    · obtain ⟨x1, hx1⟩ := get_of (l := l) (i := k) (by omega)
      obtain ⟨y1, hy1⟩ := get_of (l := m) (i := k) (by omega)
      refine sk <| nT <| sq <| bk <| sq <| rg <| vl (mv rfl) rfl <| vl (as_ rfl) rfl <| nl <| nT <| sq <| ?_
      refine rd [(3, 0), (7, 0)] [0, 1, 2, 3, 4, 5, 6, 7, 8] (by kernel_rfl) (by kernel_rfl) ?_
      refine fw rfl rfl (fun _ => mv rfl) rfl <| fw rfl rfl (fun _ => mv rfl) rfl <| fw rfl rfl (fun _ => iA k Try.underlying25 Eql_sz_api_Cell rfl rfl ((h1.keep z_2).adr (Nat.zero_lt_of_lt (show k < _ from (by omega)))) rfl (by omega)) rfl <| fq rfl rfl (fun _ x => ld rfl (Rep.SHas.elt hcC (by rw [← (h1.keep (Ext.tr z_2 x)).adr (Nat.zero_lt_of_lt (show k < _ from (by omega)))]; exact (h1.keep (Ext.tr z_2 x))) hx1 Eql_ag_api_Cell Eql_sz_api_Cell)) rfl <| fw rfl rfl (fun _ => mv rfl) rfl <| fw rfl rfl (fun _ => mv rfl) rfl <| fw rfl rfl (fun _ => iA k Try.underlying25 Eql_sz_api_Cell rfl rfl ((h2.keep z_2).adr (Nat.zero_lt_of_lt (show k < _ from (by omega)))) rfl (by omega)) rfl <| fq rfl rfl (fun _ x => ld rfl (Rep.SHas.elt hcC (by rw [← (h2.keep (Ext.tr z_2 x)).adr (Nat.zero_lt_of_lt (show k < _ from (by omega)))]; exact (h2.keep (Ext.tr z_2 x))) hy1 Eql_ag_api_Cell Eql_sz_api_Cell)) rfl <| fw rfl rfl (fun _ => bnS Eql_eqs_api_Cell Eql_eqg_api_Cell (p := x1) (q := y1) rfl rfl) rfl <| fn fun w_7 x_8 => ?_
      have q_9 := x_8.size
      have z_7 := Ext.tr z_2 x_8
      refine nT <| ?_
      refine cb rfl (fun h_10 => ?_) (fun h_10 => ?_)
      · refine sq <| rg <| vl (as_ rfl) rfl <| nl <| nT <| rt <| tB <| tT <| tK <| tB <| tT <| tR (.tmp rfl .nil) <| ?_
        rw [decide_eq_false (fun e => by rw [e, hy1] at hx1; injection hx1 with hx1; exact absurd hx1.symm (by first | exact ne_of_nb h_10 | exact h_10))]
        exact ⟨rfl, z_7⟩
      · refine sk <| nB <| nT <| rg <| vl (bad rfl rfl (inI (by omega))) rfl <| vl (mv rfl) rfl <| nl <| ?_
        exact nI _ _ ⟨k + 1, rfl, rfl, z_7, by omega, lt_succ_all hk2 (by rw [hx1, hy1, (by first | exact eq_of_nb h_10 | exact h_10 : x1 = y1)])⟩ (by omega) (.cons rfl (.cons rfl (.cons rfl (.cons (loI rfl (by first | omega | rfl | (simp <;> omega))) .nil))))
    · refine xt <| xT <| xK <| xB <| nT <| sq <| rg <| vl (as_ rfl) rfl <| nl <| nT <| rt <| tR (.tmp rfl .nil) <| ?_
      rw [decide_eq_true (eq_all (by omega) (by omega) hk2)]
      exact ⟨rfl, z_2⟩
set_option maxRecDepth 100000 in
set_option maxHeartbeats 400000 in
theorem equal_T (A B : Option Addr) (c d b1 b2 : Nat) (l m : List Trp) (w : World) (h1 : Trp.rep.SHas b1 w A c l) (h2 : Trp.rep.SHas b2 w B d m) :
    Calls Try.prog 43 #[.slice A l.length c, .slice B m.length d] w (fun e w' => e = .returned (.bool (decide (l = m))) ∧ Ext w w') := by
  have hle := h1.len_le
  refine calls_W (n := 26) Try.func43 rfl rfl rfl ?_
  refine sq <| rg <| vl (as_ rfl) rfl <| nl <| nT <| sq <| sq <| rg <| vl (mv rfl) rfl <| vl (ln Try.underlying47 rfl) rfl <| vl (mv rfl) rfl <| vl (ln Try.underlying47 rfl) rfl <| vl (bne rfl rfl) rfl <| nl <| nT <| ?_
  refine cne rfl (fun h_1 => ?_) (fun h_1 => ?_)
  · refine sq <| rg <| vl (as_ rfl) rfl <| nl <| nT <| rt <| tT <| tR (.tmp rfl .nil) <| ?_
    rw [decide_eq_false (fun e => h_1 (by rw [e]))]
    exact ⟨rfl, (Ext.rf w)⟩
  · refine sk <| nT <| sq <| sq <| rg <| vl (mv rfl) rfl <| vl (ln Try.underlying47 rfl) rfl <| vl (mv rfl) rfl <| nl <| nT <| bk <| ?_
    refine lp (fun mI EI wI => ∃ k : Nat, EI = [(0, .slice A l.length c), (1, .slice B m.length d), (12, .int .i64 (l.length : Int)), (13, .int .i64 (k : Int))] ∧ mI = l.length - k ∧ Ext w wI ∧ (k ≤ l.length) ∧ (∀ j, j < k → l[j]? = m[j]?)) _ _ ⟨0, rfl, rfl, (Ext.rf w), by omega, fun j hj => absurd hj (by omega)⟩ (.cons rfl (.cons rfl (.cons rfl (.cons (loI rfl (by first | omega | rfl | (simp <;> omega))) .nil)))) ?_
    rintro m_3 E_4 w_2 ⟨k, rfl, rfl, z_2, hk, hk2⟩
    have q_5 := z_2.size
    have hle := h1.len_le
    have hle2 := h2.len_le
    refine sq <| rg <| vl (blt rfl rfl) rfl <| nl <| nT <| sq <| ?_
    refine clt rfl (fun h_6 => ?_) (fun h_6 => ?_)
    · obtain ⟨x1, hx1⟩ := get_of (l := l) (i := k) (by omega)
      obtain ⟨y1, hy1⟩ := get_of (l := m) (i := k) (by omega)
      refine sk <| nT <| sq <| bk <| sq <| rg <| vl (mv rfl) rfl <| vl (as_ rfl) rfl <| nl <| nT <| sq <| ?_
      refine rd [(3, 0), (7, 0)] [0, 1, 2, 3, 4, 5, 6, 7, 8] (by kernel_rfl) (by kernel_rfl) ?_
      refine fw rfl rfl (fun _ => mv rfl) rfl <| fw rfl rfl (fun _ => mv rfl) rfl <| fw rfl rfl (fun _ => iA k Try.underlying47 Eql_sz_api_Troop rfl rfl ((h1.keep z_2).adr (Nat.zero_lt_of_lt (show k < _ from (by omega)))) rfl (by omega)) rfl <| fq rfl rfl (fun _ x => ld rfl (Rep.SHas.elt hcT (by rw [← (h1.keep (Ext.tr z_2 x)).adr (Nat.zero_lt_of_lt (show k < _ from (by omega)))]; exact (h1.keep (Ext.tr z_2 x))) hx1 Eql_ag_api_Troop Eql_sz_api_Troop)) rfl <| fw rfl rfl (fun _ => mv rfl) rfl <| fw rfl rfl (fun _ => mv rfl) rfl <| fw rfl rfl (fun _ => iA k Try.underlying47 Eql_sz_api_Troop rfl rfl ((h2.keep z_2).adr (Nat.zero_lt_of_lt (show k < _ from (by omega)))) rfl (by omega)) rfl <| fq rfl rfl (fun _ x => ld rfl (Rep.SHas.elt hcT (by rw [← (h2.keep (Ext.tr z_2 x)).adr (Nat.zero_lt_of_lt (show k < _ from (by omega)))]; exact (h2.keep (Ext.tr z_2 x))) hy1 Eql_ag_api_Troop Eql_sz_api_Troop)) rfl <| fw rfl rfl (fun _ => bnS Eql_eqs_api_Troop Eql_eqg_api_Troop (p := x1) (q := y1) rfl rfl) rfl <| fn fun w_7 x_8 => ?_
      have q_9 := x_8.size
      have z_7 := Ext.tr z_2 x_8
      refine nT <| ?_
      refine cb rfl (fun h_10 => ?_) (fun h_10 => ?_)
      · refine sq <| rg <| vl (as_ rfl) rfl <| nl <| nT <| rt <| tB <| tT <| tK <| tB <| tT <| tR (.tmp rfl .nil) <| ?_
        rw [decide_eq_false (fun e => by rw [e, hy1] at hx1; injection hx1 with hx1; exact absurd hx1.symm (by first | exact ne_of_nb h_10 | exact h_10))]
        exact ⟨rfl, z_7⟩
      · refine sk <| nB <| nT <| rg <| vl (bad rfl rfl (inI (by omega))) rfl <| vl (mv rfl) rfl <| nl <| ?_
        exact nI _ _ ⟨k + 1, rfl, rfl, z_7, by omega, lt_succ_all hk2 (by rw [hx1, hy1, (by first | exact eq_of_nb h_10 | exact h_10 : x1 = y1)])⟩ (by omega) (.cons rfl (.cons rfl (.cons rfl (.cons (loI rfl (by first | omega | rfl | (simp <;> omega))) .nil))))
    · refine xt <| xT <| xK <| xB <| nT <| sq <| rg <| vl (as_ rfl) rfl <| nl <| nT <| rt <| tR (.tmp rfl .nil) <| ?_
      rw [decide_eq_true (eq_all (by omega) (by omega) hk2)]
      exact ⟨rfl, z_2⟩
set_option maxRecDepth 100000 in
set_option maxHeartbeats 400000 in
theorem equal_Z (A B : Option Addr) (c d b1 b2 : Nat) (l m : List Int) (w : World) (h1 : repI.SHas b1 w A c l) (h2 : repI.SHas b2 w B d m) :
    Calls Try.prog 33 #[.slice A l.length c, .slice B m.length d] w (fun e w' => e = .returned (.bool (decide (l = m))) ∧ Ext w w') := by
  have hle := h1.len_le
  refine calls_W (n := 26) Try.func33 rfl rfl rfl ?_
  refine sq <| rg <| vl (as_ rfl) rfl <| nl <| nT <| sq <| sq <| rg <| vl (mv rfl) rfl <| vl (ln Try.underlying22 rfl) rfl <| vl (mv rfl) rfl <| vl (ln Try.underlying22 rfl) rfl <| vl (bne rfl rfl) rfl <| nl <| nT <| ?_
  refine cne rfl (fun h_1 => ?_) (fun h_1 => ?_)
  · refine sq <| rg <| vl (as_ rfl) rfl <| nl <| nT <| rt <| tT <| tR (.tmp rfl .nil) <| ?_
    rw [decide_eq_false (fun e => h_1 (by rw [e]))]
    exact ⟨rfl, (Ext.rf w)⟩
  · refine sk <| nT <| sq <| sq <| rg <| vl (mv rfl) rfl <| vl (ln Try.underlying22 rfl) rfl <| vl (mv rfl) rfl <| nl <| nT <| bk <| ?_
    refine lp (fun mI EI wI => ∃ k : Nat, EI = [(0, .slice A l.length c), (1, .slice B m.length d), (12, .int .i64 (l.length : Int)), (13, .int .i64 (k : Int))] ∧ mI = l.length - k ∧ Ext w wI ∧ (k ≤ l.length) ∧ (∀ j, j < k → l[j]? = m[j]?)) _ _ ⟨0, rfl, rfl, (Ext.rf w), by omega, fun j hj => absurd hj (by omega)⟩ (.cons rfl (.cons rfl (.cons rfl (.cons (loI rfl (by first | omega | rfl | (simp <;> omega))) .nil)))) ?_
    rintro m_3 E_4 w_2 ⟨k, rfl, rfl, z_2, hk, hk2⟩
    have q_5 := z_2.size
    have hle := h1.len_le
    have hle2 := h2.len_le
    refine sq <| rg <| vl (blt rfl rfl) rfl <| nl <| nT <| sq <| ?_
    refine clt rfl (fun h_6 => ?_) (fun h_6 => ?_)
    · obtain ⟨x1, hx1⟩ := get_of (l := l) (i := k) (by omega)
      obtain ⟨y1, hy1⟩ := get_of (l := m) (i := k) (by omega)
      refine sk <| nT <| sq <| bk <| sq <| rg <| vl (mv rfl) rfl <| vl (as_ rfl) rfl <| nl <| nT <| sq <| ?_
      refine rd [(3, 0), (7, 0)] [0, 1, 2, 3, 4, 5, 6, 7, 8] (by kernel_rfl) (by kernel_rfl) ?_
      refine fw rfl rfl (fun _ => mv rfl) rfl <| fw rfl rfl (fun _ => mv rfl) rfl <| fw rfl rfl (fun _ => iA k Try.underlying22 Eql_sz_int rfl rfl ((h1.keep z_2).adr (Nat.zero_lt_of_lt (show k < _ from (by omega)))) rfl (by omega)) rfl <| fq rfl rfl (fun _ x => ld rfl (Rep.SHas.one' hcI (by rw [← (h1.keep (Ext.tr z_2 x)).adr (Nat.zero_lt_of_lt (show k < _ from (by omega)))]; exact (h1.keep (Ext.tr z_2 x))) hx1 rfl Eql_ag_int)) rfl <| fw rfl rfl (fun _ => mv rfl) rfl <| fw rfl rfl (fun _ => mv rfl) rfl <| fw rfl rfl (fun _ => iA k Try.underlying22 Eql_sz_int rfl rfl ((h2.keep z_2).adr (Nat.zero_lt_of_lt (show k < _ from (by omega)))) rfl (by omega)) rfl <| fq rfl rfl (fun _ x => ld rfl (Rep.SHas.one' hcI (by rw [← (h2.keep (Ext.tr z_2 x)).adr (Nat.zero_lt_of_lt (show k < _ from (by omega)))]; exact (h2.keep (Ext.tr z_2 x))) hy1 rfl Eql_ag_int)) rfl <| fw rfl rfl (fun _ => bne rfl rfl) rfl <| fn fun w_7 x_8 => ?_
      have q_9 := x_8.size
      have z_7 := Ext.tr z_2 x_8
      refine nT <| ?_
      refine cne rfl (fun h_10 => ?_) (fun h_10 => ?_)
      · refine sq <| rg <| vl (as_ rfl) rfl <| nl <| nT <| rt <| tB <| tT <| tK <| tB <| tT <| tR (.tmp rfl .nil) <| ?_
        rw [decide_eq_false (fun e => by rw [e, hy1] at hx1; injection hx1 with hx1; exact absurd hx1.symm (by first | exact ne_of_nb h_10 | exact h_10))]
        exact ⟨rfl, z_7⟩
      · refine sk <| nB <| nT <| rg <| vl (bad rfl rfl (inI (by omega))) rfl <| vl (mv rfl) rfl <| nl <| ?_
        exact nI _ _ ⟨k + 1, rfl, rfl, z_7, by omega, lt_succ_all hk2 (by rw [hx1, hy1, (by first | exact eq_of_nb h_10 | exact h_10 : x1 = y1)])⟩ (by omega) (.cons rfl (.cons rfl (.cons rfl (.cons (loI rfl (by first | omega | rfl | (simp <;> omega))) .nil))))
    · refine xt <| xT <| xK <| xB <| nT <| sq <| rg <| vl (as_ rfl) rfl <| nl <| nT <| rt <| tR (.tmp rfl .nil) <| ?_
      rw [decide_eq_true (eq_all (by omega) (by omega) hk2)]
      exact ⟨rfl, z_2⟩
end Go.Proofs.Ytffjpfpbpnhmcaa
set_option linter.unusedVariables false
set_option linter.unusedSimpArgs false
namespace Go.Proofs.Ytffjpfpbpnhmcaa
open Go.RowKit

theorem LawA_fd_api_Field_0 : Fd Try.prog 24 0 0 := fun _ _ _ => by kernel_rfl
theorem LawA_ag_int : Ag Try.prog 3 false := fun _ => by kernel_rfl
theorem LawA_fd_api_Field_1 : Fd Try.prog 24 1 1 := fun _ _ _ => by kernel_rfl
theorem LawA_fd_api_Field_2 : Fd Try.prog 24 2 2 := fun _ _ _ => by kernel_rfl
theorem LawA_ag_S_int : Ag Try.prog 22 false := fun _ => by kernel_rfl
theorem LawA_en_slices_Equal_S_int_int_ : Enters Try.prog 33 := en Try.func33 (by kernel_rfl) (by kernel_rfl)
theorem LawA_fd_api_World_0 : Fd Try.prog 49 0 0 := fun _ _ _ => by kernel_rfl
theorem LawA_ag_api_Field : Ag Try.prog 24 true := fun _ => by kernel_rfl
theorem LawA_sz_api_Field : Sz Try.prog 24 3 := fun _ => by kernel_rfl
theorem LawA_en_mustref_SameField : Enters Try.prog 65 := en Try.func65 (by kernel_rfl) (by kernel_rfl)
theorem LawA_fd_api_World_1 : Fd Try.prog 49 1 3 := fun _ _ _ => by kernel_rfl
theorem LawA_ag_S_api_Cell : Ag Try.prog 25 false := fun _ => by kernel_rfl
theorem LawA_en_slices_Equal_S_api_Cell_api_Cell_ : Enters Try.prog 23 := en Try.func23 (by kernel_rfl) (by kernel_rfl)
theorem LawA_fd_api_World_2 : Fd Try.prog 49 2 4 := fun _ _ _ => by kernel_rfl
theorem LawA_fd_api_World_3 : Fd Try.prog 49 3 5 := fun _ _ _ => by kernel_rfl
theorem LawA_fd_api_World_4 : Fd Try.prog 49 4 6 := fun _ _ _ => by kernel_rfl
theorem LawA_ag_S_api_Troop : Ag Try.prog 47 false := fun _ => by kernel_rfl
theorem LawA_en_slices_Equal_S_api_Troop_api_Troop_ : Enters Try.prog 43 := en Try.func43 (by kernel_rfl) (by kernel_rfl)
theorem LawA_fd_api_World_5 : Fd Try.prog 49 5 7 := fun _ _ _ => by kernel_rfl
theorem LawA_fd_api_World_6 : Fd Try.prog 49 6 8 := fun _ _ _ => by kernel_rfl
theorem LawA_zv_api_World : Zv Try.prog 49 (.agg #[.int .i64 0, .int .i64 0, .slice none 0 0, .slice none 0 0, .slice none 0 0, .slice none 0 0, .slice none 0 0, .int .i64 0, .int .i64 0]) := fun _ => by kernel_rfl
theorem LawA_sz_api_World : Sz Try.prog 49 9 := fun _ => by kernel_rfl
theorem LawA_ag_api_World : Ag Try.prog 49 true := fun _ => by kernel_rfl
theorem same_world {W V : Wd} : (((((( decide (W.field = V.field) && decide (W.bases = V.bases)) && decide (W.stocks = V.stocks)) && decide (W.mines = V.mines)) && decide (W.troops = V.troops)) && (W.next == V.next)) && (W.now == V.now)) = decide (W = V) := by
  obtain ⟨f, b, s, m, t, n, o⟩ := W
  obtain ⟨f', b', s', m', t', n', o'⟩ := V
  rw [Bool.eq_iff_iff]
  simp [and_assoc]
theorem same_field {f g : Fld} : (((f.wide == g.wide) && (f.high == g.high)) && decide (f.places = g.places)) = decide (f = g) := by
  obtain ⟨a, b, c⟩ := f
  obtain ⟨a', b', c'⟩ := g
  rw [Bool.eq_iff_iff]
  simp [and_assoc]
def smallW : Wd := ⟨⟨3, 1, [0, 0, 3]⟩, [⟨0, 0⟩], [20], [0, 0, 9], [⟨1, 0, 1, ⟨1, 0⟩, 10, 0⟩], 2, 0⟩
def smallL : List Ded := [(⟨1, 1, ⟨2, 0⟩, 0⟩ : Ded), (⟨3, 0, ⟨0, 0⟩, 2⟩ : Ded)]
def smallV : Wd := smallW.doW smallL
set_option maxRecDepth 100000 in
set_option maxHeartbeats 400000 in
theorem sameField_any (f g : Fld) (A B : Option Addr) (c d : Nat) (w : World) (h1 : repI.SHas 8 w A c f.places) (h2 : repI.SHas 8 w B d g.places) :
    Calls Try.prog 65 #[.agg #[.int .i64 f.wide, .int .i64 f.high, .slice A f.places.length c], .agg #[.int .i64 g.wide, .int .i64 g.high, .slice B g.places.length d]] w (fun e w' => e = .returned (.bool (decide (f = g))) ∧ Ext w w') := by
  refine calls_W (n := 24) Try.func65 rfl rfl rfl ?_
  refine sq <| rg <| bx rfl rfl rfl rfl fun w_1 b_2 x_3 l_4 B_5 => ?_
  have q_6 := x_3.size
  have z_1 := Ext.tr (Ext.rf w) x_3
  have q_7 := B_5.lt
  refine bx rfl rfl rfl rfl fun w_8 b_9 x_10 l_11 B_12 => ?_
  have q_13 := x_10.size
  have z_8 := Ext.tr z_1 x_10
  have q_14 := B_12.lt
  refine vl (as_ rfl) rfl <| nl <| nT <| sq <| rg <| vl (fa LawA_fd_api_Field_0 rfl) rfl <| ?_
  have B_5 := B_5.later x_10
  refine vl (ld rfl (B_5.one LawA_ag_int rfl)) rfl <| vl (fa LawA_fd_api_Field_0 rfl) rfl <| vl (ld rfl (B_12.one LawA_ag_int rfl)) rfl <| vl (beq rfl rfl) rfl <| vl (mv rfl) rfl <| vQ rfl rfl rfl rfl (fun hc => fa LawA_fd_api_Field_1 rfl) rfl <| vQ rfl rfl rfl rfl (fun hc => ld (gt hc rfl) (B_5.one LawA_ag_int rfl)) rfl <| vQ rfl rfl rfl rfl (fun hc => fa LawA_fd_api_Field_1 rfl) rfl <| vQ rfl rfl rfl rfl (fun hc => ld (gt hc rfl) (B_12.one LawA_ag_int rfl)) rfl <| vQ rfl rfl rfl rfl (fun hc => beq (gt hc rfl) (gt hc rfl)) rfl <| vl (pA rfl rfl rfl rfl) rfl <| vl (mv rfl) rfl <| vQ rfl rfl rfl rfl (fun hc => fa LawA_fd_api_Field_2 rfl) rfl <| vQ rfl rfl rfl rfl (fun hc => ld (gt hc rfl) (B_5.one LawA_ag_S_int rfl)) rfl <| vQ rfl rfl rfl rfl (fun hc => fa LawA_fd_api_Field_2 rfl) rfl <| vQ rfl rfl rfl rfl (fun hc => ld (gt hc rfl) (B_12.one LawA_ag_S_int rfl)) rfl <| vC rfl rfl rfl rfl LawA_en_slices_Equal_S_int_int_ (fun hc => ec (gt hc rfl) (ec (gt hc rfl) rfl)) (fun hc => equal_Z _ _ _ _ _ _ f.places g.places _ (h1.keep z_8) (h2.keep z_8)) rfl fun w_15 x_16 => ?_
  have q_17 := x_16.size
  have z_15 := Ext.tr z_8 x_16
  refine vl (pA rfl rfl rfl rfl) rfl <| vl (as_ rfl) rfl <| nl <| nT <| rt <| tR (.tmp rfl .nil) <| ?_
  exact ⟨by rw [← same_field]; rfl, z_15⟩
set_option maxRecDepth 100000 in
set_option maxHeartbeats 400000 in
theorem sameWorld_any  (w : World) (a : Wd.At) (W : Wd) (b : Wd.At) (V : Wd) (hW : Wd.Has w a W) (hV : Wd.Has w b V) :
    Calls Try.prog 32 #[.agg ((Wd.cells a W).toArray), .agg ((Wd.cells b V).toArray)] w (fun e w' => e = .returned (.bool (decide (W = V))) ∧ Ext w w') := by
  refine calls_W (n := 52) Try.func32 rfl rfl rfl ?_
  refine sq <| rg <| bx rfl rfl rfl rfl fun w_1 b_2 x_3 l_4 B_5 => ?_
  have q_6 := x_3.size
  have z_1 := Ext.tr (Ext.rf w) x_3
  have q_7 := B_5.lt
  refine bx rfl rfl rfl rfl fun w_8 b_9 x_10 l_11 B_12 => ?_
  have q_13 := x_10.size
  have z_8 := Ext.tr z_1 x_10
  have q_14 := B_12.lt
  refine vl (as_ rfl) rfl <| nl <| nT <| sq <| rg <| vl (fa LawA_fd_api_World_0 rfl) rfl <| ?_
  have B_5 := B_5.later x_10
  refine vl (ld rfl (B_5.par [.int .i64 W.field.wide, .int .i64 W.field.high, .slice a.P W.field.places.length a.p] LawA_ag_api_Field LawA_sz_api_Field rfl)) rfl <| vl (fa LawA_fd_api_World_0 rfl) rfl <| vl (ld rfl (B_12.par [.int .i64 V.field.wide, .int .i64 V.field.high, .slice b.P V.field.places.length b.p] LawA_ag_api_Field LawA_sz_api_Field rfl)) rfl <| ca LawA_en_mustref_SameField rfl rfl ((sameField_any W.field V.field _ _ _ _ _ (hW.P.keep z_8) (hV.P.keep z_8)).mono ?_)
  rintro e w_15 ⟨rfl, x_16⟩
  refine ⟨_, rfl, ?_⟩
  have q_17 := x_16.size
  have z_15 := Ext.tr z_8 x_16
  refine vl (mv rfl) rfl <| vQ rfl rfl rfl rfl (fun hc => fa LawA_fd_api_World_1 rfl) rfl <| ?_
  have B_5 := B_5.later x_16
  refine vQ rfl rfl rfl rfl (fun hc => ld (gt hc rfl) (B_5.one LawA_ag_S_api_Cell rfl)) rfl <| vQ rfl rfl rfl rfl (fun hc => fa LawA_fd_api_World_1 rfl) rfl <| ?_
  have B_12 := B_12.later x_16
  refine vQ rfl rfl rfl rfl (fun hc => ld (gt hc rfl) (B_12.one LawA_ag_S_api_Cell rfl)) rfl <| vC rfl rfl rfl rfl LawA_en_slices_Equal_S_api_Cell_api_Cell_ (fun hc => ec (gt hc rfl) (ec (gt hc rfl) rfl)) (fun hc => equal_C _ _ _ _ _ _ W.bases V.bases _ (hW.B.keep z_15) (hV.B.keep z_15)) rfl fun w_18 x_19 => ?_
  have q_20 := x_19.size
  have z_18 := Ext.tr z_15 x_19
  refine vl (pA rfl rfl rfl rfl) rfl <| vl (mv rfl) rfl <| vQ rfl rfl rfl rfl (fun hc => fa LawA_fd_api_World_2 rfl) rfl <| ?_
  have B_5 := B_5.later x_19
  refine vQ rfl rfl rfl rfl (fun hc => ld (gt hc rfl) (B_5.one LawA_ag_S_int rfl)) rfl <| vQ rfl rfl rfl rfl (fun hc => fa LawA_fd_api_World_2 rfl) rfl <| ?_
  have B_12 := B_12.later x_19
  refine vQ rfl rfl rfl rfl (fun hc => ld (gt hc rfl) (B_12.one LawA_ag_S_int rfl)) rfl <| vC rfl rfl rfl rfl LawA_en_slices_Equal_S_int_int_ (fun hc => ec (gt hc rfl) (ec (gt hc rfl) rfl)) (fun hc => equal_Z _ _ _ _ _ _ W.stocks V.stocks _ (hW.S.keep z_18) (hV.S.keep z_18)) rfl fun w_21 x_22 => ?_
  have q_23 := x_22.size
  have z_21 := Ext.tr z_18 x_22
  refine vl (pA rfl rfl rfl rfl) rfl <| vl (mv rfl) rfl <| vQ rfl rfl rfl rfl (fun hc => fa LawA_fd_api_World_3 rfl) rfl <| ?_
  have B_5 := B_5.later x_22
  refine vQ rfl rfl rfl rfl (fun hc => ld (gt hc rfl) (B_5.one LawA_ag_S_int rfl)) rfl <| vQ rfl rfl rfl rfl (fun hc => fa LawA_fd_api_World_3 rfl) rfl <| ?_
  have B_12 := B_12.later x_22
  refine vQ rfl rfl rfl rfl (fun hc => ld (gt hc rfl) (B_12.one LawA_ag_S_int rfl)) rfl <| vC rfl rfl rfl rfl LawA_en_slices_Equal_S_int_int_ (fun hc => ec (gt hc rfl) (ec (gt hc rfl) rfl)) (fun hc => equal_Z _ _ _ _ _ _ W.mines V.mines _ (hW.M.keep z_21) (hV.M.keep z_21)) rfl fun w_24 x_25 => ?_
  have q_26 := x_25.size
  have z_24 := Ext.tr z_21 x_25
  refine vl (pA rfl rfl rfl rfl) rfl <| vl (mv rfl) rfl <| vQ rfl rfl rfl rfl (fun hc => fa LawA_fd_api_World_4 rfl) rfl <| ?_
  have B_5 := B_5.later x_25
  refine vQ rfl rfl rfl rfl (fun hc => ld (gt hc rfl) (B_5.one LawA_ag_S_api_Troop rfl)) rfl <| vQ rfl rfl rfl rfl (fun hc => fa LawA_fd_api_World_4 rfl) rfl <| ?_
  have B_12 := B_12.later x_25
  refine vQ rfl rfl rfl rfl (fun hc => ld (gt hc rfl) (B_12.one LawA_ag_S_api_Troop rfl)) rfl <| vC rfl rfl rfl rfl LawA_en_slices_Equal_S_api_Troop_api_Troop_ (fun hc => ec (gt hc rfl) (ec (gt hc rfl) rfl)) (fun hc => equal_T _ _ _ _ _ _ W.troops V.troops _ (hW.T.keep z_24) (hV.T.keep z_24)) rfl fun w_27 x_28 => ?_
  have q_29 := x_28.size
  have z_27 := Ext.tr z_24 x_28
  refine vl (pA rfl rfl rfl rfl) rfl <| vl (mv rfl) rfl <| vQ rfl rfl rfl rfl (fun hc => fa LawA_fd_api_World_5 rfl) rfl <| ?_
  have B_5 := B_5.later x_28
  refine vQ rfl rfl rfl rfl (fun hc => ld (gt hc rfl) (B_5.one LawA_ag_int rfl)) rfl <| vQ rfl rfl rfl rfl (fun hc => fa LawA_fd_api_World_5 rfl) rfl <| ?_
  have B_12 := B_12.later x_28
  refine vQ rfl rfl rfl rfl (fun hc => ld (gt hc rfl) (B_12.one LawA_ag_int rfl)) rfl <| vQ rfl rfl rfl rfl (fun hc => beq (gt hc rfl) (gt hc rfl)) rfl <| vl (pA rfl rfl rfl rfl) rfl <| vl (mv rfl) rfl <| vQ rfl rfl rfl rfl (fun hc => fa LawA_fd_api_World_6 rfl) rfl <| vQ rfl rfl rfl rfl (fun hc => ld (gt hc rfl) (B_5.one LawA_ag_int rfl)) rfl <| vQ rfl rfl rfl rfl (fun hc => fa LawA_fd_api_World_6 rfl) rfl <| vQ rfl rfl rfl rfl (fun hc => ld (gt hc rfl) (B_12.one LawA_ag_int rfl)) rfl <| vQ rfl rfl rfl rfl (fun hc => beq (gt hc rfl) (gt hc rfl)) rfl <| vl (pA rfl rfl rfl rfl) rfl <| vl (as_ rfl) rfl <| nl <| nT <| rt <| tR (.tmp rfl .nil) <| ?_
  exact ⟨by rw [← same_world]; rfl, z_27⟩
set_option maxRecDepth 100000 in
set_option maxHeartbeats 400000 in
theorem small_any  (w : World) :
    Calls Try.prog 64 #[] w (fun e w' => ∃ a, e = .returned (.agg (Wd.cells a smallW).toArray) ∧ WOwn w' w.heap.size a smallW ∧ Ext w w') := by
  refine calls_W (n := 11) Try.func64 rfl rfl rfl ?_
  refine sq <| rg <| al rfl LawA_zv_api_World rfl rfl fun w_1 b_2 x_3 l_4 B_5 => ?_
  have q_6 := x_3.size
  have z_1 := Ext.tr (Ext.rf w) x_3
  have q_7 := B_5.lt
  refine nl <| nT <| sq <| rg <| bs (e := 3) (cs := [.int .i64 0, .int .i64 0, .int .i64 3]) rfl (fun _ => by kernel_rfl) rfl fun w_8 b_9 x_10 l_11 B_12 => ?_
  have q_13 := x_10.size
  have z_8 := Ext.tr z_1 x_10
  have q_14 := B_12.lt
  refine vl (v := .agg #[.int .i64 3, .int .i64 1, .slice (some ⟨b_9, 0, none⟩) 3 3]) (bd rfl (by kernel_rfl)) rfl <| vl (v := .agg #[.int .i64 0, .int .i64 0]) (bd rfl (by kernel_rfl)) rfl <| bs (e := 32) (cs := [.int .i64 0, .int .i64 0]) rfl (fun _ => by kernel_rfl) rfl fun w_15 b_16 x_17 l_18 B_19 => ?_
  have q_20 := x_17.size
  have z_15 := Ext.tr z_8 x_17
  have q_21 := B_19.lt
  refine bs (e := 3) (cs := [.int .i64 20]) rfl (fun _ => by kernel_rfl) rfl fun w_22 b_23 x_24 l_25 B_26 => ?_
  have q_27 := x_24.size
  have z_22 := Ext.tr z_15 x_24
  have q_28 := B_26.lt
  refine bs (e := 3) (cs := [.int .i64 0, .int .i64 0, .int .i64 9]) rfl (fun _ => by kernel_rfl) rfl fun w_29 b_30 x_31 l_32 B_33 => ?_
  have q_34 := x_31.size
  have z_29 := Ext.tr z_22 x_31
  have q_35 := B_33.lt
  refine vl (v := .agg #[.int .i64 1, .int .i64 0]) (bd rfl (by kernel_rfl)) rfl <| vl (v := .agg #[.int .i64 1, .int .i64 0, .int .i64 1, .int .i64 1, .int .i64 0, .int .i64 10, .int .i64 0]) (bd rfl (by kernel_rfl)) rfl <| bs (e := 65) (cs := [.int .i64 1, .int .i64 0, .int .i64 1, .int .i64 1, .int .i64 0, .int .i64 10, .int .i64 0]) rfl (fun _ => by kernel_rfl) rfl fun w_36 b_37 x_38 l_39 B_40 => ?_
  have q_41 := x_38.size
  have z_36 := Ext.tr z_29 x_38
  have q_42 := B_40.lt
  refine vl (v := .agg #[.int .i64 3, .int .i64 1, .slice (some ⟨b_9, 0, none⟩) 3 3, .slice (some ⟨b_16, 0, none⟩) 1 1, .slice (some ⟨b_23, 0, none⟩) 1 1, .slice (some ⟨b_30, 0, none⟩) 3 3, .slice (some ⟨b_37, 0, none⟩) 1 1, .int .i64 2, .int .i64 0]) (bd rfl (by kernel_rfl)) rfl <| ?_
  have B_5 := B_5.later (Ext.tr x_10 (Ext.tr x_17 (Ext.tr x_24 (Ext.tr x_31 x_38))))
  refine st (new := [.int .i64 3, .int .i64 1, .slice (some ⟨b_9, 0, none⟩) 3 3, .slice (some ⟨b_16, 0, none⟩) 1 1, .slice (some ⟨b_23, 0, none⟩) 1 1, .slice (some ⟨b_30, 0, none⟩) 3 3, .slice (some ⟨b_37, 0, none⟩) 1 1, .int .i64 2, .int .i64 0]) rfl rfl B_5 rfl LawA_sz_api_World rfl rfl rfl fun w_43 m_44 B_5 => ?_
  have q_46 := m_44.size
  have z_43 := Ext.mod z_36 m_44 (by simp only [List.mem_singleton, forall_eq]; omega)
  have q_45 := m_44.size
  refine nl <| nT <| rt <| tR (.cell rfl (B_5.all LawA_ag_api_World LawA_sz_api_World) .nil) <| ?_
  have B_12 := B_12.later (Ext.tr x_17 (Ext.tr x_24 (Ext.tr x_31 x_38)))
  have B_12 := B_12.mod m_44 (by simp only [List.mem_singleton]; omega)
  have B_19 := B_19.later (Ext.tr x_24 (Ext.tr x_31 x_38))
  have B_19 := B_19.mod m_44 (by simp only [List.mem_singleton]; omega)
  have B_26 := B_26.later (Ext.tr x_31 x_38)
  have B_26 := B_26.mod m_44 (by simp only [List.mem_singleton]; omega)
  have B_33 := B_33.later x_38
  have B_33 := B_33.mod m_44 (by simp only [List.mem_singleton]; omega)
  have B_40 := B_40.mod m_44 (by simp only [List.mem_singleton]; omega)
  exact ⟨⟨some ⟨b_9, 0, none⟩, some ⟨b_16, 0, none⟩, some ⟨b_23, 0, none⟩, some ⟨b_30, 0, none⟩, some ⟨b_37, 0, none⟩, 3, 1, 1, 3, 1⟩, rfl, ⟨Blk.ownN (R := repI) (by_ := 8) (B := w.heap.size) (k := [0, 0, 3]) B_12 [[.int .i64 0], [.int .i64 0], [.int .i64 3]] rfl ⟨⟨rfl, okI_iff.2 (by decide)⟩, ⟨rfl, okI_iff.2 (by decide)⟩, ⟨rfl, okI_iff.2 (by decide)⟩, trivial⟩ (by simp) (by simp) (by decide) (by omega), Blk.ownN (R := Cel.rep) (by_ := 16) (B := w.heap.size) (k := [⟨0, 0⟩]) B_19 [[.int .i64 0, .int .i64 0]] rfl ⟨⟨rfl, okI_iff.2 (by decide), okI_iff.2 (by decide)⟩, trivial⟩ (by simp) (by simp) (by decide) (by omega), Blk.ownN (R := repI) (by_ := 8) (B := w.heap.size) (k := [20]) B_26 [[.int .i64 20]] rfl ⟨⟨rfl, okI_iff.2 (by decide)⟩, trivial⟩ (by simp) (by simp) (by decide) (by omega), Blk.ownN (R := repI) (by_ := 8) (B := w.heap.size) (k := [0, 0, 9]) B_33 [[.int .i64 0], [.int .i64 0], [.int .i64 9]] rfl ⟨⟨rfl, okI_iff.2 (by decide)⟩, ⟨rfl, okI_iff.2 (by decide)⟩, ⟨rfl, okI_iff.2 (by decide)⟩, trivial⟩ (by simp) (by simp) (by decide) (by omega), Blk.ownN (R := Trp.rep) (by_ := 56) (B := w.heap.size) (k := [⟨1, 0, 1, ⟨1, 0⟩, 10, 0⟩]) B_40 [[.int .i64 1, .int .i64 0, .int .i64 1, .int .i64 1, .int .i64 0, .int .i64 10, .int .i64 0]] rfl ⟨⟨rfl, okI_iff.2 (by decide), okI_iff.2 (by decide), okI_iff.2 (by decide), okI_iff.2 (by decide), okI_iff.2 (by decide), okI_iff.2 (by decide), okI_iff.2 (by decide)⟩, trivial⟩ (by simp) (by simp) (by decide) (by omega), by simp [Rep.blkOf]; omega, okI_iff.2 (by decide), okI_iff.2 (by decide), okI_iff.2 (by decide), okI_iff.2 (by decide)⟩, z_43⟩
end Go.Proofs.Ytffjpfpbpnhmcaa
set_option linter.unusedVariables false
set_option linter.unusedSimpArgs false
namespace Go.Proofs.Ytffjpfpbpnhmcaa
open Go.RowKit

/-- No more things than there are places for them. -/
theorem nodup_le : ∀ (n : Nat) (l : List Nat), l.Nodup → (∀ x ∈ l, x < n) → l.length ≤ n := by
  intro n
  induction n with
  | zero =>
    intro l _ h
    cases l with
    | nil => exact Nat.le_refl _
    | cons x r => exact absurd (h x List.mem_cons_self) (by omega)
  | succ n ih =>
    intro l hn h
    by_cases hm : n ∈ l
    · have h1 := ih (l.erase n) (hn.erase _) (fun x hx => by
        have := h x (List.mem_of_mem_erase hx)
        have hne : x ≠ n := fun e => by subst e; exact (List.Nodup.not_mem_erase hn) hx
        omega)
      rw [List.length_erase_of_mem hm] at h1
      omega
    · have := ih l hn (fun x hx => by
        have := h x hx
        have hne : x ≠ n := fun e => hm (by rw [← e]; exact hx)
        omega)
      omega
section
variable {f : Fld} {a b c x y : Cel} {d D : Int} {far : List Int} {fr : Cel → Int}
theorem cells_le (hf : f.chk = 0) {l : List Cel} (hn : l.Nodup) (hi : ∀ x ∈ l, f.isIn x = true) : l.length ≤ f.places.length := by
  have h1 : (l.map f.at_).Nodup := by
    have : ∀ l : List Cel, l.Nodup → (∀ x ∈ l, f.isIn x = true) → (l.map f.at_).Nodup := by
      intro l
      induction l with
      | nil => intro _ _; exact List.nodup_nil
      | cons x r ih =>
        intro hn hi
        rw [List.nodup_cons] at hn
        rw [List.map_cons, List.nodup_cons]
        refine ⟨fun hm => ?_, ih hn.2 fun y hy => hi y (List.mem_cons_of_mem _ hy)⟩
        obtain ⟨y, hy, e⟩ := List.mem_map.1 hm
        have := Fld.at_inj hf (hi y (List.mem_cons_of_mem _ hy)) (hi x List.mem_cons_self) e
        subst this; exact hn.1 hy
    exact this l hn hi
  have := nodup_le f.places.length _ h1 (fun i hm => by
    obtain ⟨y, hy, rfl⟩ := List.mem_map.1 hm
    exact (Fld.at_lt hf (hi y hy)).1)
  rwa [List.length_map] at this
abbrev RchF (f : Fld) (a : Cel) : Cel → Int → Prop := Gra.Rch f.adj f.kost (fun s => s = a)
abbrev DstF (f : Fld) (a : Cel) : Cel → Int → Prop := Gra.IsD f.adj f.kost (fun s => s = a)
theorem RchF.nn (r : RchF f a x d) : 0 ≤ d := Gra.Rch.nn (Fld.okZ f) r
theorem RchF.ground (ha : f.ground a = true) (r : RchF f a x d) : f.ground x = true := by
  induction r with
  | start hs => rw [hs]; exact ha
  | step _ hy _ => exact (Fld.mem_adj.1 hy).2
theorem RchF.tr (r : RchF f a x d) {e : Int} (q : RchF f x y e) : RchF f a y (d + e) := by
  induction q with
  | start hs => rw [hs, Int.add_zero]; exact r
  | step _ hy ih => rw [← Int.add_assoc]; exact .step ih hy
theorem DstF.pred (h : DstF f a x d) : (x = a ∧ d = 0) ∨ ∃ p e, DstF f a p e ∧ x ∈ f.adj p ∧ d = e + f.kost x := by
  obtain ⟨r, hm⟩ := h
  cases r with
  | start hs => exact .inl ⟨hs, rfl⟩
  | @step p _ e hp hy =>
    obtain ⟨e', he⟩ := Gra.Rch.isD (Fld.okZ f) hp
    have h1 := he.2 _ hp
    have h2 := hm _ (.step he.1 hy)
    have : e = e' := by omega
    subst this
    exact .inr ⟨p, e, he, hy, rfl⟩
/-- A cell at a distance: a chain of cells towards it, none twice. -/
theorem DstF.chain (hf : f.chk = 0) (ha : f.ground a = true) : ∀ (n : Nat) (x : Cel) (d : Int), DstF f a x d → d.toNat = n → ∃ l : List Cel, l.Nodup ∧ (∀ y ∈ l, f.isIn y = true ∧ ∃ e, DstF f a y e ∧ e ≤ d) ∧ d + 3 ≤ 3 * (l.length : Int) := by
  intro n
  induction n using Nat.strongRecOn with
  | ind n ih =>
    intro x d h hn
    have hx := Fld.ground_in (RchF.ground ha h.1)
    rcases h.pred with ⟨h1, h2⟩ | ⟨p, e, h1, h2, h3⟩
    · refine ⟨[x], by simp, fun y hy => ?_, by rw [h2]; simp⟩
      rw [List.mem_singleton.1 hy]; exact ⟨hx, d, h, Int.le_refl _⟩
    · have hk := f.kost_bd (c := x)
      have he := RchF.nn h1.1
      obtain ⟨l, l1, l2, l3⟩ := ih e.toNat (by omega) p e h1 rfl
      refine ⟨x :: l, List.nodup_cons.2 ⟨fun hm => ?_, l1⟩, fun y hy => ?_, by rw [List.length_cons]; omega⟩
      · obtain ⟨_, e', h4, h5⟩ := l2 x hm
        have := h4.uniq h; omega
      · rcases List.mem_cons.1 hy with rfl | hy
        · exact ⟨hx, d, h, Int.le_refl _⟩
        · obtain ⟨h4, e', h5, h6⟩ := l2 y hy
          exact ⟨h4, e', h5, by omega⟩
theorem DstF.bd (hf : f.chk = 0) (ha : f.ground a = true) (h : DstF f a x d) : d + 3 ≤ 3 * (f.places.length : Int) := by
  obtain ⟨l, l1, l2, l3⟩ := h.chain hf ha _ x d rfl
  have := cells_le hf l1 fun y hy => (l2 y hy).1
  omega
/-- The cell of a place. -/
def cellAt (f : Fld) (i : Nat) : Cel := ⟨(i : Int) % f.wide, (i : Int) / f.wide⟩
end
end Go.Proofs.Ytffjpfpbpnhmcaa
set_option linter.unusedVariables false
set_option linter.unusedSimpArgs false
namespace Go.Proofs.Ytffjpfpbpnhmcaa
open Go.RowKit

theorem find_march : findE ⟨3, 1, [0, 0, 3]⟩ ⟨1, 0⟩ ⟨2, 0⟩ = 0 ∧ findP ⟨3, 1, [0, 0, 3]⟩ ⟨1, 0⟩ ⟨2, 0⟩ = [⟨1, 0⟩, ⟨2, 0⟩] := by
  obtain ⟨h1, h2, h3⟩ := find_by (f := ⟨3, 1, [0, 0, 3]⟩) (a := ⟨1, 0⟩) (b := ⟨2, 0⟩) (far := [-1, 0, 2]) (cert (dl := [2, 0, 2]) (by decide)) (by decide) (by decide) (by decide) (by decide)
  exact ⟨h1, h3.trans (by decide)⟩
def marchT : List Trp := [⟨1, 0, 1, ⟨2, 0⟩, 10, 0⟩]
def marchG : List Gox := [⟨1, ⟨2, 0⟩⟩]
theorem march_small : marchE smallW marchG = 0 ∧ marchM smallW marchG = [1] ∧ marchW smallW marchG = { smallW with troops := marchT } := by
  have h1 : step1 smallW.field marchG smallW.troops 0 = some ⟨2, 0⟩ := by
    have hg : goK marchG (smallW.troops.getD 0 default).id = 0 := by decide
    have e1 : findE smallW.field (smallW.troops.getD 0 default).spot (marchG.getD 0 default).to = 0 := find_march.1
    have e2 : findP smallW.field (smallW.troops.getD 0 default).spot (marchG.getD 0 default).to = [⟨1, 0⟩, ⟨2, 0⟩] := find_march.2
    have h0 : 0 ≤ goK marchG (smallW.troops.getD 0 default).id := by omega
    have := step1_some (f := smallW.field) (l := marchG) (T := smallW.troops) (k := 0) h0
    rw [hg] at this
    simp only [Int.toNat_zero] at this
    rw [e1, e2] at this
    exact this ⟨⟨rfl, by decide⟩, by decide⟩
  have h2 : stS smallW.field marchG smallW.troops 1 = (marchT, [1]) := stS_some (f := smallW.field) (l := marchG) (T := smallW.troops) (U := smallW.troops) (M := []) (k := 0) rfl h1
  obtain ⟨e1, e2, e3⟩ := march_ok (W := smallW) (l := marchG) (by decide +kernel) (by decide)
  refine ⟨e1, ?_, ?_⟩
  · rw [e3]; show (stS smallW.field marchG smallW.troops 1).2 = _; rw [h2]
  · rw [e2]; show ({ smallW with troops := (stS smallW.field marchG smallW.troops 1).1 } : Wd) = _; rw [h2]
end Go.Proofs.Ytffjpfpbpnhmcaa
set_option linter.unusedVariables false
set_option linter.unusedSimpArgs false
namespace Go.Proofs.Ytffjpfpbpnhmcaa
open Go.RowKit

theorem MrL_en_mustkeep_small : Enters Try.prog 64 := en Try.func64 (by kernel_rfl) (by kernel_rfl)
theorem MrL_en_march_Step : Enters Try.prog 28 := en Try.func28 (by kernel_rfl) (by kernel_rfl)
theorem MrL_zv_api_World : Zv Try.prog 49 (.agg #[.int .i64 0, .int .i64 0, .slice none 0 0, .slice none 0 0, .slice none 0 0, .slice none 0 0, .slice none 0 0, .int .i64 0, .int .i64 0]) := fun _ => by kernel_rfl
theorem MrL_sz_api_World : Sz Try.prog 49 9 := fun _ => by kernel_rfl
theorem MrL_en_slices_Equal_S_int_int_ : Enters Try.prog 33 := en Try.func33 (by kernel_rfl) (by kernel_rfl)
theorem MrL_fd_api_World_4 : Fd Try.prog 49 4 6 := fun _ _ _ => by kernel_rfl
theorem MrL_ag_S_api_Troop : Ag Try.prog 47 false := fun _ => by kernel_rfl
theorem MrL_sz_api_Troop : Sz Try.prog 65 7 := fun _ => by kernel_rfl
theorem MrL_fd_api_Troop_3 : Fd Try.prog 65 3 3 := fun _ _ _ => by kernel_rfl
theorem MrL_ag_api_Cell : Ag Try.prog 32 true := fun _ => by kernel_rfl
theorem MrL_sz_api_Cell : Sz Try.prog 32 2 := fun _ => by kernel_rfl
theorem MrL_eqs_api_Cell : EqS Try.prog Cel.cells 32 := by
  intro a b w
  obtain ⟨a0, a1⟩ := a
  obtain ⟨b0, b1⟩ := b
  simp only [Cel.cells, Cel.mk.injEq]
  constructor
  · go_simp
    repeat' split
    all_goals simp_all
  · go_simp
    repeat' split
    all_goals simp_all
theorem MrL_eqg_api_Cell : (Try.prog).eqGuardType (Try.prog).depth 32 = false := by kernel_rfl
def marchV : Wd := { smallW with troops := marchT }
theorem mstep_small (A : Option Addr) (c : Nat) (w : World) (a : Wd.At) (hW : Wd.Has w a smallW) (hl : Gox.rep.SHas 24 w A c [(⟨1, ⟨2, 0⟩⟩ : Gox)]) :
    Calls Try.prog 28 #[.agg ((Wd.cells a smallW).toArray), .slice A 1 c] w (fun e w' => ∃ a' A' c', e = .returned (.tuple #[.agg ((Wd.cells a' marchV).toArray), .slice A' 1 c', .int .i64 0]) ∧ WOwn w' w.heap.size a' marchV ∧ repI.SOwn 3 8 w' w.heap.size (Rep.blkOf A') A' c' [1] ∧ (∀ q ∈ Rep.blkOf A', q ∈ WOwn.foot a' → False) ∧ Ext w w') := by
  refine (mstep_any a smallW A c marchG w hW hl).mono ?_
  rintro e w' ⟨a', A', c', rfl, h1, h2, h3, h4⟩
  obtain ⟨e1, e2, e3⟩ := march_small
  rw [e1, e2, e3]
  rw [e3] at h1
  rw [e2] at h2
  exact ⟨a', A', c', rfl, h1, h2, h3, h4⟩
set_option maxRecDepth 100000 in
set_option maxHeartbeats 400000 in
theorem marchLives_any  (w : World) :
    Calls Try.prog 29 #[] w (fun e w' => e = .returned (.bool true) ∧ Ext w w') := by
  refine calls_W (n := 29) Try.func29 rfl rfl rfl ?_
  refine sq <| rg <| vl (as_ rfl) rfl <| nl <| nT <| sq <| rg <| ca MrL_en_mustkeep_small rfl rfl ((small_any _).mono ?_)
  rintro e w_4 ⟨a_1, rfl, HO_1, x_5⟩
  refine ⟨_, rfl, ?_⟩
  have q_6 := x_5.size
  have z_4 := Ext.tr (Ext.rf w) x_5
  have u_2 := fun q hq => (HO_1.lt q hq).2
  have lo_3 := fun q hq => (HO_1.lt q hq).1
  refine vl (v := .agg #[.int .i64 2, .int .i64 0]) (bd rfl (by kernel_rfl)) rfl <| vl (v := .agg #[.int .i64 1, .int .i64 2, .int .i64 0]) (bd rfl (by kernel_rfl)) rfl <| bs (e := 53) (cs := [.int .i64 1, .int .i64 2, .int .i64 0]) rfl (fun _ => by kernel_rfl) rfl fun w_7 b_8 x_9 l_10 B_11 => ?_
  have q_12 := x_9.size
  have z_7 := Ext.tr z_4 x_9
  have q_13 := B_11.lt
  have HO_1 := HO_1.later x_9
  refine ca MrL_en_march_Step rfl rfl ((mstep_small _ _ _ _ HO_1.has (Blk.hasN (R := Gox.rep) (by_ := 24) (k := [(⟨1, ⟨2, 0⟩⟩ : Gox)]) B_11 [[.int .i64 1, .int .i64 2, .int .i64 0]] rfl (⟨⟨rfl, ⟨okI_iff.2 (by (try dsimp only); omega), okI_iff.2 (by (try dsimp only); omega), okI_iff.2 (by (try dsimp only); omega)⟩⟩, trivial⟩) (by simp) (by simp))).mono ?_)
  rintro e w_23 ⟨a14, A14, c14, rfl, HO14, OM14, hd14, x_24⟩
  refine ⟨_, rfl, ?_⟩
  have q_25 := x_24.size
  have z_23 := Ext.tr z_7 x_24
  have u_15 := fun q hq => (HO14.lt q hq).2
  have lo_16 := fun q hq => (HO14.lt q hq).1
  have u_17 := fun q hq => (OM14.lt q hq).2
  have lo_18 := fun q hq => (OM14.lt q hq).1
  have dd14 : ∀ q ∈ Rep.blkOf A14, q ∈ WOwn.foot a14 → False := hd14
  have dw14 : ∀ q ∈ WOwn.foot a14, q ∈ Rep.blkOf A14 → False := fun q h1 h2 => hd14 q h2 h1
  refine vl (mv rfl) rfl <| vl (ex rfl rfl) rfl <| vl (ex rfl rfl) rfl <| vl (ex rfl rfl) rfl <| al rfl MrL_zv_api_World rfl rfl fun w_26 b_27 x_28 l_29 B_30 => ?_
  have q_31 := x_28.size
  have z_26 := Ext.tr z_23 x_28
  have q_32 := B_30.lt
  refine st rfl rfl B_30 rfl MrL_sz_api_World rfl rfl rfl fun w_33 m_34 B_30 => ?_
  have q_36 := m_34.size
  have z_33 := Ext.mod z_26 m_34 (by simp only [List.mem_singleton, forall_eq]; omega)
  have q_35 := m_34.size
  refine vl (as_ rfl) rfl <| vl (as_ rfl) rfl <| nl <| nT <| sq <| rg <| vl (mv rfl) rfl <| vl (beq rfl rfl) rfl <| vl (mv rfl) rfl <| ug rfl rfl rfl <| vl (mv rfl) rfl <| ug rfl rfl rfl <| bs (e := 3) (cs := [.int .i64 1]) rfl (fun _ => by kernel_rfl) rfl fun w_37 b_38 x_39 l_40 B_41 => ?_
  have q_42 := x_39.size
  have z_37 := Ext.tr z_33 x_39
  have q_43 := B_41.lt
  refine ug rfl rfl rfl <| ?_
  have OM14 := OM14.later x_28
  have OM14 := OM14.mod m_34 (fun q hq h => by have hb := List.mem_singleton.1 h; exfalso; (have := u_17 q hq; omega))
  have OM14 := OM14.later x_39
  refine ca MrL_en_slices_Equal_S_int_int_ rfl rfl ((equal_Z _ _ _ _ _ _ ([1]) ([1]) _ OM14.has (Blk.hasN (R := repI) (by_ := 8) (k := [1]) B_41 [[.int .i64 1]] rfl (⟨⟨rfl, okI_iff.2 (by (try dsimp only); omega)⟩, trivial⟩) (by simp) (by simp))).mono ?_)
  rintro e w_44 ⟨rfl, x_45⟩
  refine ⟨_, rfl, ?_⟩
  have q_46 := x_45.size
  have z_44 := Ext.tr z_37 x_45
  refine vl (pkT rfl rfl) rfl <| vl (mv rfl) rfl <| vQ rfl rfl rfl rfl (fun hc => fa MrL_fd_api_World_4 rfl) rfl <| ?_
  have B_30 := B_30.later (Ext.tr x_39 x_45)
  refine vQ rfl rfl rfl rfl (fun hc => ld (gt hc rfl) (B_30.one MrL_ag_S_api_Troop rfl)) rfl <| ?_
  have HO14 := HO14.later x_28
  have HO14 := HO14.mod m_34 (fun q hq h => by have hb := List.mem_singleton.1 h; exfalso; (have := u_15 q hq; omega))
  have HO14 := HO14.later (Ext.tr x_39 x_45)
  refine vQ rfl rfl rfl rfl (fun hc => iA 0 Try.underlying47 MrL_sz_api_Troop (gt hc rfl) rfl (HO14.T.has.adr (Nat.zero_lt_of_lt (show 0 < _ from (by decide +kernel : 0 < (marchV.troops).length)))) rfl (by decide +kernel : 0 < (marchV.troops).length)) rfl <| vQ rfl rfl rfl rfl (fun hc => fa MrL_fd_api_Troop_3 (gt hc rfl)) rfl <| vQ rfl rfl rfl rfl (fun hc => ld (gt hc rfl) (Rep.SHas.part hcT (HO14.T.has.adh (Nat.zero_lt_of_lt (show 0 < _ from (by decide +kernel : 0 < (marchV.troops).length)))) 3 (ds := [.int .i64 ((marchV.troops.getD 0 default).spot.x), .int .i64 ((marchV.troops.getD 0 default).spot.y)]) (get_d (l := marchV.troops) (u := default) (by decide +kernel : 0 < (marchV.troops).length)) rfl MrL_ag_api_Cell MrL_sz_api_Cell)) rfl <| vQ (v := .agg #[.int .i64 2, .int .i64 0]) rfl rfl rfl rfl (fun hc => bd rfl (by kernel_rfl)) rfl <| vQ rfl rfl rfl rfl (fun hc => bqS MrL_eqs_api_Cell MrL_eqg_api_Cell (p := (marchV.troops.getD 0 default).spot) (q := (⟨2, 0⟩ : Cel)) (gt hc rfl) (gt hc rfl)) rfl <| vl (pA rfl rfl rfl rfl) rfl <| vl (as_ rfl) rfl <| nl <| nT <| rt <| tR (.tmp rfl .nil) <| ?_
  exact ⟨ret_true (by decide +kernel), z_44⟩
end Go.Proofs.Ytffjpfpbpnhmcaa
