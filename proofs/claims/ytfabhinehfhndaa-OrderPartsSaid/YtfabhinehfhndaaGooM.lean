/-
  Deeds, as plain mathematics: what one deed makes of a world; a right world stays right.
-/
import Derived.Test.YtfabhinehfhndaaWOwn2
import Derived.Test.YtfabhinehfhndaaWld
import Derived.Test.YtfabhinehfhndaaDed
set_option linter.unusedVariables false
set_option linter.unusedSimpArgs false
namespace Go.Proofs.Ytfabhinehfhndaa
open Go.RowKit

def beside (a b : Cel) : Bool := inB b.x (a.x - 1) (a.x + 1) && inB b.y (a.y - 1) (a.y + 1)
namespace Wd
def place (W : Wd) (c : Cel) : Nat := (c.y * W.field.wide + c.x).toNat
def addLoad (t : Trp) (n : Int) : Trp := { t with load := t.load + n }
/-- A load is mined. -/
def mine (W : Wd) (d : Ded) : Option Wd :=
  match W.troops.findIdx? (isId d.who) with
  | none => none
  | some k =>
    let t := W.troops.getD k default
    let m := W.mines.getD (W.place d.spot) 0
    if t.kind == 1 && decide (t.load < 5) && beside t.spot d.spot && W.field.isIn d.spot && m != 0 then
      some { W with mines := W.mines.set (W.place d.spot) (m - 1), troops := W.troops.set k (addLoad t 1) }
    else none
/-- What is carried is brought in. -/
def drop (W : Wd) (d : Ded) : Option Wd :=
  match W.troops.findIdx? (isId d.who) with
  | none => none
  | some k =>
    let t := W.troops.getD k default
    let o := t.owner.toNat
    let s := W.stocks.getD o 0
    let n := min t.load (1000000 - s)
    if t.load != 0 && beside (W.bases.getD o default) t.spot && decide (0 < n) then
      some { W with stocks := W.stocks.set o (s + n), troops := W.troops.set k (addLoad t (-n)) }
    else none
/-- The cells around one, itself first. -/
def around (c : Cel) : List Cel :=
  [c, ⟨c.x - 1, c.y - 1⟩, ⟨c.x, c.y - 1⟩, ⟨c.x + 1, c.y - 1⟩, ⟨c.x - 1, c.y⟩, ⟨c.x, c.y⟩, ⟨c.x + 1, c.y⟩, ⟨c.x - 1, c.y + 1⟩, ⟨c.x, c.y + 1⟩, ⟨c.x + 1, c.y + 1⟩]
def openTo (W : Wd) (c : Cel) : Bool := W.field.ground c && !W.troops.any (isAt c)
def free (W : Wd) (c : Cel) : Option Cel := (around c).find? W.openTo
/-- A troop is made. -/
def hire (W : Wd) (d : Ded) : Option Wd :=
  let s := W.stocks.getD d.who.toNat 0
  if inB d.who 0 ((W.bases.length : Int) - 1) && inB d.what 1 2 && decide (priceOf d.what ≤ s) && decide (W.troops.length < 100) && decide (W.next < 1000000) then
    match W.free (W.bases.getD d.who.toNat default) with
    | none => none
    | some c => some { W with troops := W.troops ++ [⟨W.next, d.who, d.what, c, lifeOf d.what, 0⟩], next := W.next + 1, stocks := W.stocks.set d.who.toNat (s - priceOf d.what) }
  else none
def deed (W : Wd) (d : Ded) : Option Wd := if d.kind = 1 then W.mine d else if d.kind = 2 then W.drop d else if d.kind = 3 then W.hire d else none
def deeds (W : Wd) : List Ded → Wd × List Bool
  | [] => (W, [])
  | d :: l => match W.deed d with
    | some V => ((V.deeds l).1, true :: (V.deeds l).2)
    | none => ((W.deeds l).1, false :: (W.deeds l).2)
end Wd
theorem findId {l : List Trp} {id : Int} {k : Nat} (h : l.findIdx? (isId id) = some k) : ∃ t, l[k]? = some t ∧ t.id = id ∧ l.getD k default = t := by
  obtain ⟨h1, h2, _⟩ := List.findIdx?_eq_some_iff_getElem.1 h
  exact ⟨l[k], List.getElem?_eq_getElem h1, by simpa [isId] using h2, by rw [List.getD_eq_getElem?_getD, List.getElem?_eq_getElem h1]; rfl⟩
/-- A troop's load is other: all that a world asks of its troops stays. -/
theorem spots_set {W V : Wd} {k : Nat} {t u : Trp} (hV : V.troops = W.troops.set k u) (ht : W.troops[k]? = some t) (hs : u.spot = t.spot) (i : Nat) : V.spots i = W.spots i := by
  unfold Wd.spots
  rw [hV, List.take_set, List.map_set]
  by_cases hki : k < i
  · have h1 : ((W.troops.take i).map (·.spot))[k]? = some t.spot := by rw [List.getElem?_map, List.getElem?_take, if_pos hki, ht]; rfl
    obtain ⟨h2, h3⟩ := List.getElem?_eq_some_iff.1 h1
    rw [hs, ← h3]
    exact List.set_getElem_self _
  · rw [List.set_eq_of_length_le (by rw [List.length_map, List.length_take]; omega)]
theorem last_set {W V : Wd} {k : Nat} {t u : Trp} (hV : V.troops = W.troops.set k u) (ht : W.troops[k]? = some t) (hs : u.id = t.id) (i : Nat) : V.lastId i = W.lastId i := by
  unfold Wd.lastId
  by_cases hi : i = 0
  · rw [if_pos hi, if_pos hi]
  · rw [if_neg hi, if_neg hi, hV, List.getD_eq_getElem?_getD, List.getD_eq_getElem?_getD]
    by_cases hk : k = i - 1
    · subst hk
      rw [List.getElem?_set_self (List.getElem?_eq_some_iff.1 ht).1, ht]
      exact hs
    · rw [List.getElem?_set_ne hk]
theorem at_set {W V : Wd} {k : Nat} {t u : Trp} (hV : V.troops = W.troops.set k u) (ht : W.troops[k]? = some t) {i : Nat} {x : Trp} (hx : V.troops[i]? = some x) : (i = k ∧ x = u) ∨ (i ≠ k ∧ W.troops[i]? = some x) := by
  rw [hV] at hx
  by_cases hk : k = i
  · subst hk
    rw [List.getElem?_set_self (List.getElem?_eq_some_iff.1 ht).1] at hx
    exact .inl ⟨rfl, (Option.some.inj hx).symm⟩
  · rw [List.getElem?_set_ne hk] at hx
    exact .inr ⟨Ne.symm hk, hx⟩
/-- A world of which one troop carries other loads, and mines and stocks are other, is right. -/
theorem Good.turned {W V : Wd} (h : Good W) {k : Nat} {t : Trp} {n : Int} (ht : W.troops[k]? = some t) (hV : V.troops = W.troops.set k (Wd.addLoad t n)) (hl : 0 ≤ t.load + n ∧ t.load + n ≤ Wd.mostOf t.kind)
    (hf : V.field = W.field) (hb : V.bases = W.bases) (hn : V.next = W.next) (hw : V.now = W.now)
    (hsl : V.stocks.length = W.stocks.length) (hs : ∀ (i : Nat) s, V.stocks[i]? = some s → 0 ≤ s ∧ s ≤ 1000000)
    (hml : V.mines.length = W.mines.length) (hm : ∀ (i : Nat) m, V.mines[i]? = some m → 0 ≤ m ∧ m ≤ 1000000 ∧ (m ≤ 0 ∨ W.field.places.getD i 0 = 3)) : Good V := by
  have h1 := h.troops k t ht
  have hlen : V.troops.length = W.troops.length := by rw [hV, List.length_set]
  refine ⟨by rw [hf]; exact h.field, by rw [hb]; exact h.nb, by rw [hlen]; exact h.nt, by rw [hsl, hb]; exact h.sl, ?_, hs, by rw [hml, hf]; exact h.ml, by rw [hf]; exact hm, fun i x hx => ?_, fun i x hx => ?_, fun i x hx => ?_, by rw [hn]; exact h.next, by rw [hw]; exact h.now⟩
  · rw [hb, hf]; exact h.bases
  · rw [hf, hb]
    rcases at_set hV ht hx with ⟨rfl, rfl⟩ | ⟨_, hx⟩
    · exact ⟨h1.kind, h1.owner, h1.ground, h1.life, hl⟩
    · exact h.troops i x hx
  · rw [last_set hV ht rfl, hn]
    rcases at_set hV ht hx with ⟨rfl, rfl⟩ | ⟨_, hx⟩
    · exact h.ids i t ht
    · exact h.ids i x hx
  · rw [spots_set hV ht rfl]
    rcases at_set hV ht hx with ⟨rfl, rfl⟩ | ⟨_, hx⟩
    · exact h.spots i t ht
    · exact h.spots i x hx
theorem drop_some {W V : Wd} {d : Ded} (h : W.drop d = some V) : ∃ (k : Nat) (t : Trp) (n : Int), W.troops.findIdx? (isId d.who) = some k ∧ W.troops[k]? = some t ∧ t.id = d.who ∧ t.load ≠ 0 ∧ beside (W.bases.getD t.owner.toNat default) t.spot = true ∧ n = min t.load (1000000 - W.stocks.getD t.owner.toNat 0) ∧ 0 < n ∧
    V = { W with stocks := W.stocks.set t.owner.toNat (W.stocks.getD t.owner.toNat 0 + n), troops := W.troops.set k (Wd.addLoad t (-n)) } := by
  unfold Wd.drop at h
  cases hf : W.troops.findIdx? (isId d.who) with
  | none => rw [hf] at h; cases h
  | some k =>
    rw [hf] at h
    obtain ⟨t, ht, hid, hg⟩ := findId hf
    simp only [hg] at h
    split at h
    · rename_i hc
      simp only [Bool.and_eq_true, decide_eq_true_eq, bne_iff_ne] at hc
      exact ⟨k, t, _, rfl, ht, hid, hc.1.1, hc.1.2, rfl, hc.2, (Option.some.inj h).symm⟩
    · cases h
theorem Good.drop {W V : Wd} {d : Ded} (h : Good W) (hd : W.drop d = some V) : Good V := by
  obtain ⟨k, t, n, _, ht, _, hl, _, hn, hn0, rfl⟩ := drop_some hd
  have h1 := h.troops k t ht
  have hlt : t.owner.toNat < W.stocks.length := by rw [h.sl]; have := h1.owner; omega
  obtain ⟨s, hs⟩ := get_of hlt
  have h2 := h.stocks _ s hs
  have hg : W.stocks.getD t.owner.toNat 0 = s := by rw [List.getD_eq_getElem?_getD, hs]; rfl
  rw [hg] at hn ⊢
  refine h.turned ht rfl (by have := h1.load; omega) rfl rfl rfl rfl (by simp) (fun i x hx => ?_) rfl h.mines
  simp only at hx
  by_cases hi : t.owner.toNat = i
  · subst hi
    rw [List.getElem?_set_self hlt] at hx
    obtain rfl := Option.some.inj hx
    omega
  · rw [List.getElem?_set_ne hi] at hx
    exact h.stocks i x hx
end Go.Proofs.Ytfabhinehfhndaa
