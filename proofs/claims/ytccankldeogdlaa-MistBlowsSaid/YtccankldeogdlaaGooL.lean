import Derived.Test.YtccankldeogdlaaGolC
import Derived.Test.YtccankldeogdlaaLinG
import Derived.Test.YtccankldeogdlaaGol
import Derived.Test.YtccankldeogdlaaFldR
import Derived.Test.YtccankldeogdlaaBas
import Derived.Test.YtccankldeogdlaaProg
set_option linter.unusedVariables false
set_option linter.unusedSimpArgs false
set_option maxRecDepth 100000
set_option maxHeartbeats 4000000
namespace Go.Proofs.Ytccankldeogdlaa
section
open Go.RowKit
def sightF : Fld := ⟨3, 2, [0, 1, 0, 0, 0, 0]⟩
end
section
open Go.RowKit
theorem Fld.opens (w : World) (cs : List Value) (h : Wd.fsh.Ok w cs) : ∃ (f : Fld) (A : Option Addr) (c : Nat), cs = [.int .i64 f.wide, .int .i64 f.high, .slice A f.places.length c] ∧ repI.SHas 8 w A c f.places ∧ okI f.wide ∧ okI f.high := by
 obtain ⟨_, _, rfl, _, _, ⟨x0, rfl, k0⟩, _, _, rfl, _, _, ⟨x1, rfl, k1⟩, _, _, rfl, _, _, hP, rfl⟩ := h
 obtain ⟨aP, cP, lP, rfl, HP⟩ := Rep.opens_slice (R := repI) repI_opens rfl (by decide) hP
 exact ⟨⟨x0, x1, lP⟩, aP, cP, rfl, HP, k0, k1⟩
theorem seesE_ok {f : Fld} {a b : Cel} (h : seesE f a b = 0) : f.atE a = 0 ∧ f.atE b = 0 := by
 unfold seesE at h
 split at h
 ·contradiction
 ·rename_i h1; exact ⟨by simpa using h1, h⟩
theorem seesE_mk {f : Fld} {a b : Cel} (h : f.atE a = 0) (h2 : f.atE b = 0) : seesE f a b = 0 := by unfold seesE; rw [if_neg (by simpa using h)]; exact h2
theorem seesV_ok {f : Fld} {a b : Cel} (h : seesE f a b = 0) : seesV f a b = seenB f a b := by unfold seesV; rw [if_neg (by simpa using h)]; rfl
theorem seenE_ok {f : Fld} {c : Cel} {r : Int} (h : seenE f c r = 0) : f.atE c = 0 ∧ 0 ≤ r ∧ r ≤ 12 := by
 unfold seenE at h
 split at h
 ·contradiction
 ·rename_i h1
  split at h
  ·exact nomatch h
  ·exact ⟨by simpa using h1, by omega⟩
theorem seen_mem {f : Fld} {c n : Cel} {r : Int} (h0 : f.atE c = 0) (hr : 0 ≤ r ∧ r ≤ 12) : n ∈ seenL f c r ↔ (max 0 (c.x - r) ≤ n.x ∧ n.x ≤ min (f.wide - 1) (c.x + r) ∧ max 0 (c.y - r) ≤ n.y ∧ n.y ≤ min (f.high - 1) (c.y + r)) ∧ seenB f c n = true := by
 rw [(seen_ok h0 hr).2]
 unfold seenTo seenRow
 simp only [List.mem_flatMap, List.mem_range, List.mem_filter, List.mem_map]
 constructor
 ·rintro ⟨i, hi, ⟨j, hj, rfl⟩, hb⟩
  unfold seenH at hi
  unfold seenW at hj
  refine ⟨?_, hb⟩
  unfold seenAt
  simp only
  omega
 ·rintro ⟨⟨a1, a2, a3, a4⟩, hb⟩
  refine ⟨(n.y - max 0 (c.y - r)).toNat, by unfold seenH; omega, ⟨(n.x - max 0 (c.x - r)).toNat, by unfold seenW; omega, ?_⟩, hb⟩
  obtain ⟨x, y⟩ := n
  unfold seenAt
  simp only at *
  congr 1 <;> omega
theorem atE_in {f : Fld} (hc : f.chk = 0) {n : Cel} (h : 0 ≤ n.x ∧ n.x ≤ f.wide - 1 ∧ 0 ≤ n.y ∧ n.y ≤ f.high - 1) : f.atE n = 0 := by
 refine (Fld.at_in hc ?_).1
 unfold Fld.isIn
 rw [inB_mk h.1 h.2.1, inB_mk h.2.2.1 h.2.2.2]; rfl
theorem seen_sees {f : Fld} {c n : Cel} {r : Int} (h : seenE f c r = 0) (hn : n ∈ seenL f c r) : seesE f c n = 0 ∧ seesV f c n = true := by
 obtain ⟨h0, hr⟩ := seenE_ok h
 obtain ⟨a, b⟩ := (seen_mem h0 hr).1 hn
 have e := seesE_mk h0 (atE_in (atE_chk h0).1 (n := n) (by omega))
 exact ⟨e, by rw [seesV_ok e]; exact b⟩
def Fld.plainAt (f : Fld) (i : Nat) : Fld := { f with places := f.places.set i 0 }
end
section
open Go.RowKit
structure Ded where
 kind : Int
 who : Int
 spot : Cel
 what : Int
 deriving DecidableEq, Inhabited
namespace Ded
def cells (a : Ded) : List Value := [.int .i64 (a.kind), .int .i64 (a.who), .int .i64 (a.spot.x), .int .i64 (a.spot.y), .int .i64 (a.what)]
def ok (a : Ded) : Prop := (Lit.int .i64 a.kind).wf = true ∧ (Lit.int .i64 a.who).wf = true ∧ (Lit.int .i64 a.spot.x).wf = true ∧ (Lit.int .i64 a.spot.y).wf = true ∧ (Lit.int .i64 a.what).wf = true
def raw (j : Nat) (u : Value) : Prop := match j with
 | 0 => ∃ n : Int, u = .int .i64 n
 | 1 => ∃ n : Int, u = .int .i64 n
 | 2 => ∃ n : Int, u = .int .i64 n
 | 3 => ∃ n : Int, u = .int .i64 n
 | 4 => ∃ n : Int, u = .int .i64 n
 | _ => True
theorem cells_raw (a : Ded) : ∀ (j : Nat) u, a.cells[j]? = some u → raw j u := by
 intro j u hu
 match j, hu with
 | 0, hu => exact ⟨_, (Option.some.inj hu).symm⟩
 | 1, hu => exact ⟨_, (Option.some.inj hu).symm⟩
 | 2, hu => exact ⟨_, (Option.some.inj hu).symm⟩
 | 3, hu => exact ⟨_, (Option.some.inj hu).symm⟩
 | 4, hu => exact ⟨_, (Option.some.inj hu).symm⟩
 | j + 5, hu => exact trivial
theorem cells_one (a : Ded) : ∀ u ∈ a.cells, u.oneCell' = true := by
 intro u hu
 unfold cells at hu
 simp only [List.mem_cons, List.not_mem_nil, or_false] at hu
 rcases hu with rfl | rfl | rfl | rfl | rfl <;> rfl
def rep : Rep Ded := Rep.flat 5 cells ok raw (λ _ => rfl) cells_one cells_raw
theorem plain : rep.Plain := Rep.flat_plain
def zero : Value := .agg #[.int .i64 0, .int .i64 0, .int .i64 0, .int .i64 0, .int .i64 0]
theorem zero_raw : ∀ (j : Nat) u, zero.cells[j]? = some u → rep.raw j u := by
 intro j u hu
 have hu : (#[(.int .i64 0 : Value), (.int .i64 0 : Value), (.int .i64 0 : Value), (.int .i64 0 : Value), (.int .i64 0 : Value)] : Array Value)[j]? = some u := hu
 match j, hu with
 | 0, hu => exact ⟨_, (Option.some.inj hu).symm⟩
 | 1, hu => exact ⟨_, (Option.some.inj hu).symm⟩
 | 2, hu => exact ⟨_, (Option.some.inj hu).symm⟩
 | 3, hu => exact ⟨_, (Option.some.inj hu).symm⟩
 | 4, hu => exact ⟨_, (Option.some.inj hu).symm⟩
 | j + 5, hu => cases hu
theorem info : (Try.prog.info? 159).map (λ i => (i.zero, i.size, i.bytes)) = some (some zero, 5, 40) := by kernel_rfl
theorem at_ {by_ : Nat} {w : World} {A : Option Addr} {c : Nat} {l : List Ded} (h : rep.SHas by_ w A c l) (h0 : 0 < l.length) :
  ∃ b o, A = some ⟨b, o, none⟩ ∧ ∀ (i : Nat) (a : Ded), l[i]? = some a → w.cell? ⟨b, o + i * 5, none⟩ = some (.int .i64 (a.kind)) ∧ w.cell? ⟨b, o + i * 5 + 1, none⟩ = some (.int .i64 (a.who)) ∧ w.cell? ⟨b, o + i * 5 + 2, none⟩ = some (.int .i64 (a.spot.x)) ∧ w.cell? ⟨b, o + i * 5 + 3, none⟩ = some (.int .i64 (a.spot.y)) ∧ w.cell? ⟨b, o + i * 5 + 4, none⟩ = some (.int .i64 (a.what)) := by
 obtain ⟨b, o, e, hc⟩ := h.at_ h0
 refine ⟨b, o, e, λ i a ha => ?_⟩
 obtain ⟨es, ⟨rfl, _⟩, hj⟩ := hc i a ha
 exact ⟨hj 0 _ rfl, hj 1 _ rfl, hj 2 _ rfl, hj 3 _ rfl, hj 4 _ rfl⟩
theorem all_ok {by_ : Nat} {w : World} {A : Option Addr} {c : Nat} {l : List Ded} (h : rep.SHas by_ w A c l) : ∀ a ∈ l, a.ok := Rep.SHas.all_ (R := rep) (Q := ok) (fun {w cs a} (h : rep.has w cs a) => (show cs = a.cells ∧ a.ok from h).2) h
theorem blk {w : World} {g : Nat} {t : TypeId} {fr : Nat × Nat} {a : Ded} (h : Blk w g a.cells t fr) : w.cell? ⟨g, 0, none⟩ = some (.int .i64 (a.kind)) ∧ w.cell? ⟨g, 1, none⟩ = some (.int .i64 (a.who)) ∧ w.cell? ⟨g, 2, none⟩ = some (.int .i64 (a.spot.x)) ∧ w.cell? ⟨g, 3, none⟩ = some (.int .i64 (a.spot.y)) ∧ w.cell? ⟨g, 4, none⟩ = some (.int .i64 (a.what)) :=
 ⟨h.cell 0, h.cell 1, h.cell 2, h.cell 3, h.cell 4⟩
def sh : Sh := (.cons (.int .i64) (.cons (.int .i64) (.cons (.cons (.int .i64) (.cons (.int .i64) .nil)) (.cons (.int .i64) .nil))))
theorem opens (w : World) (cs : List Value) (h : sh.Ok w cs) : ∃ a, rep.has w cs a := by
 obtain ⟨_, _, rfl, _, _, ⟨x0, rfl, k0⟩, ⟨_, _, rfl, _, _, ⟨x1, rfl, k1⟩, ⟨_, _, rfl, _, _, ⟨_, _, rfl, _, _, ⟨x2, rfl, k2⟩, ⟨_, _, rfl, _, _, ⟨x3, rfl, k3⟩, rfl⟩⟩, ⟨_, _, rfl, _, _, ⟨x4, rfl, k4⟩, rfl⟩⟩⟩⟩ := h
 exact ⟨⟨x0, x1, ⟨x2, x3⟩, x4⟩, rfl, k0, k1, k2, k3, k4⟩
end Ded
theorem hcD {w : World} {cs : List Value} {a : Ded} (h : Ded.rep.has w cs a) : cs = a.cells := And.left (show cs = a.cells ∧ a.ok from h)
end
section
open Go.RowKit
def beside (a b : Cel) : Bool := inB b.x (a.x - 1) (a.x + 1) && inB b.y (a.y - 1) (a.y + 1)
namespace Wd
def place (W : Wd) (c : Cel) : Nat := (c.y * W.field.wide + c.x).toNat
def addLoad (t : Trp) (n : Int) : Trp := { t with load := t.load + n }
def mine (W : Wd) (d : Ded) : Option Wd :=
 match W.troops.findIdx? (isId d.who) with
 | none => none
 | some k =>
  let t := W.troops.getD k default
  let m := W.mines.getD (W.place d.spot) 0
  if t.kind == 1 && decide (t.load < 5) && beside t.spot d.spot && W.field.isIn d.spot && m != 0 then
   some { W with mines := W.mines.set (W.place d.spot) (m - 1), troops := W.troops.set k (addLoad t 1) }
  else none
def drop (W : Wd) (d : Ded) : Option Wd :=
 match W.troops.findIdx? (isId d.who) with
 | none => none
 | some k =>
  let t := W.troops.getD k default
  let o := t.owner.toNat
  let s := W.stocks.getD o 0
  let n := min t.load (1000000 - s)
  if t.load != 0 && beside (W.bases.getD o default) t.spot && decide (0 < n) then
   some { W with stocks := W.stocks.set o (s + n), troops := W.troops.set k (addLoad t (-n)) }
  else none
def around (c : Cel) : List Cel :=
 [c, ⟨c.x - 1, c.y - 1⟩, ⟨c.x, c.y - 1⟩, ⟨c.x + 1, c.y - 1⟩, ⟨c.x - 1, c.y⟩, ⟨c.x, c.y⟩, ⟨c.x + 1, c.y⟩, ⟨c.x - 1, c.y + 1⟩, ⟨c.x, c.y + 1⟩, ⟨c.x + 1, c.y + 1⟩]
def openTo (W : Wd) (c : Cel) : Bool := W.field.ground c && !W.troops.any (isAt c)
def free (W : Wd) (c : Cel) : Option Cel := (around c).find? W.openTo
def hire (W : Wd) (d : Ded) : Option Wd :=
 let s := W.stocks.getD d.who.toNat 0
 if inB d.who 0 ((W.bases.length : Int) - 1) && inB d.what 1 2 && decide (priceOf d.what ≤ s) && decide (W.troops.length < 100) && decide (W.next < 1000000) then
  match W.free (W.bases.getD d.who.toNat default) with
  | none => none
  | some c => some { W with troops := W.troops ++ [⟨W.next, d.who, d.what, c, lifeOf d.what, 0⟩], next := W.next + 1, stocks := W.stocks.set d.who.toNat (s - priceOf d.what) }
 else none
def deed (W : Wd) (d : Ded) : Option Wd := if d.kind = 1 then W.mine d else if d.kind = 2 then W.drop d else if d.kind = 3 then W.hire d else none
def deeds (W : Wd) : List Ded → Wd × List Bool
 | [] => (W, [])
 | d :: l => match W.deed d with
  | some V => ((V.deeds l).1, true :: (V.deeds l).2)
  | none => ((W.deeds l).1, false :: (W.deeds l).2)
end Wd
theorem findId {l : List Trp} {id : Int} {k : Nat} (h : l.findIdx? (isId id) = some k) : ∃ t, l[k]? = some t ∧ t.id = id ∧ l.getD k default = t := by
 obtain ⟨h1, h2, _⟩ := List.findIdx?_eq_some_iff_getElem.1 h
 exact ⟨l[k], List.getElem?_eq_getElem h1, by simpa [isId] using h2, by rw [List.getD_eq_getElem?_getD, List.getElem?_eq_getElem h1]; rfl⟩
theorem spots_set {W V : Wd} {k : Nat} {t u : Trp} (hV : V.troops = W.troops.set k u) (ht : W.troops[k]? = some t) (hs : u.spot = t.spot) (i : Nat) : V.spots i = W.spots i := by
 unfold Wd.spots
 rw [hV, List.take_set, List.map_set]
 by_cases hki : k < i
 ·have h1 : ((W.troops.take i).map (·.spot))[k]? = some t.spot := by rw [List.getElem?_map, List.getElem?_take, if_pos hki, ht]; rfl
  obtain ⟨h2, h3⟩ := List.getElem?_eq_some_iff.1 h1
  rw [hs, ← h3]
  exact List.set_getElem_self _
 ·rw [List.set_eq_of_length_le (by rw [List.length_map, List.length_take]; omega)]
theorem last_set {W V : Wd} {k : Nat} {t u : Trp} (hV : V.troops = W.troops.set k u) (ht : W.troops[k]? = some t) (hs : u.id = t.id) (i : Nat) : V.lastId i = W.lastId i := by
 unfold Wd.lastId
 by_cases hi : i = 0
 ·rw [if_pos hi, if_pos hi]
 ·rw [if_neg hi, if_neg hi, hV, List.getD_eq_getElem?_getD, List.getD_eq_getElem?_getD]
  by_cases hk : k = i - 1
  ·subst hk
   rw [List.getElem?_set_self (List.getElem?_eq_some_iff.1 ht).1, ht]
   exact hs
  ·rw [List.getElem?_set_ne hk]
theorem at_set {W V : Wd} {k : Nat} {t u : Trp} (hV : V.troops = W.troops.set k u) (ht : W.troops[k]? = some t) {i : Nat} {x : Trp} (hx : V.troops[i]? = some x) : (i = k ∧ x = u) ∨ (i ≠ k ∧ W.troops[i]? = some x) := by
 rw [hV] at hx
 by_cases hk : k = i
 ·subst hk
  rw [List.getElem?_set_self (List.getElem?_eq_some_iff.1 ht).1] at hx
  exact .inl ⟨rfl, (Option.some.inj hx).symm⟩
 ·rw [List.getElem?_set_ne hk] at hx
  exact .inr ⟨Ne.symm hk, hx⟩
theorem Good.turned {W V : Wd} (h : Good W) {k : Nat} {t : Trp} {n : Int} (ht : W.troops[k]? = some t) (hV : V.troops = W.troops.set k (Wd.addLoad t n)) (hl : 0 ≤ t.load + n ∧ t.load + n ≤ Wd.mostOf t.kind)
  (hf : V.field = W.field) (hb : V.bases = W.bases) (hn : V.next = W.next) (hw : V.now = W.now)
  (hsl : V.stocks.length = W.stocks.length) (hs : ∀ (i : Nat) s, V.stocks[i]? = some s → 0 ≤ s ∧ s ≤ 1000000)
  (hml : V.mines.length = W.mines.length) (hm : ∀ (i : Nat) m, V.mines[i]? = some m → 0 ≤ m ∧ m ≤ 1000000 ∧ (m ≤ 0 ∨ W.field.places.getD i 0 = 3)) : Good V := by
 have h1 := h.troops k t ht
 have hlen : V.troops.length = W.troops.length := by rw [hV, List.length_set]
 refine ⟨by rw [hf]; exact h.field, by rw [hb]; exact h.nb, by rw [hlen]; exact h.nt, by rw [hsl, hb]; exact h.sl, ?_, hs, by rw [hml, hf]; exact h.ml, by rw [hf]; exact hm, λ i x hx => ?_, λ i x hx => ?_, λ i x hx => ?_, by rw [hn]; exact h.next, by rw [hw]; exact h.now⟩
 ·rw [hb, hf]; exact h.bases
 ·rw [hf, hb]
  rcases at_set hV ht hx with ⟨rfl, rfl⟩ | ⟨_, hx⟩
  ·exact ⟨h1.kind, h1.owner, h1.ground, h1.life, hl⟩
  ·exact h.troops i x hx
 ·rw [last_set hV ht rfl, hn]
  rcases at_set hV ht hx with ⟨rfl, rfl⟩ | ⟨_, hx⟩
  ·exact h.ids i t ht
  ·exact h.ids i x hx
 ·rw [spots_set hV ht rfl]
  rcases at_set hV ht hx with ⟨rfl, rfl⟩ | ⟨_, hx⟩
  ·exact h.spots i t ht
  ·exact h.spots i x hx
theorem mine_some {W V : Wd} {d : Ded} (h : W.mine d = some V) : ∃ (k : Nat) (t : Trp), W.troops.findIdx? (isId d.who) = some k ∧ W.troops[k]? = some t ∧ t.id = d.who ∧ t.kind = 1 ∧ t.load < 5 ∧ beside t.spot d.spot = true ∧ W.field.isIn d.spot = true ∧ W.mines.getD (W.place d.spot) 0 ≠ 0 ∧
  V = { W with mines := W.mines.set (W.place d.spot) (W.mines.getD (W.place d.spot) 0 - 1), troops := W.troops.set k (Wd.addLoad t 1) } := by
 unfold Wd.mine at h
 cases hf : W.troops.findIdx? (isId d.who) with
 | none => rw [hf] at h; cases h
 | some k =>
  rw [hf] at h
  obtain ⟨t, ht, hid, hg⟩ := findId hf
  simp only [hg] at h
  split at h
  ·rename_i hc
   simp only [Bool.and_eq_true, decide_eq_true_eq, bne_iff_ne, beq_iff_eq] at hc
   exact ⟨k, t, rfl, ht, hid, hc.1.1.1.1, hc.1.1.1.2, hc.1.1.2, hc.1.2, hc.2, (Option.some.inj h).symm⟩
  ·cases h
theorem drop_some {W V : Wd} {d : Ded} (h : W.drop d = some V) : ∃ (k : Nat) (t : Trp) (n : Int), W.troops.findIdx? (isId d.who) = some k ∧ W.troops[k]? = some t ∧ t.id = d.who ∧ t.load ≠ 0 ∧ beside (W.bases.getD t.owner.toNat default) t.spot = true ∧ n = min t.load (1000000 - W.stocks.getD t.owner.toNat 0) ∧ 0 < n ∧
  V = { W with stocks := W.stocks.set t.owner.toNat (W.stocks.getD t.owner.toNat 0 + n), troops := W.troops.set k (Wd.addLoad t (-n)) } := by
 unfold Wd.drop at h
 cases hf : W.troops.findIdx? (isId d.who) with
 | none => rw [hf] at h; cases h
 | some k =>
  rw [hf] at h
  obtain ⟨t, ht, hid, hg⟩ := findId hf
  simp only [hg] at h
  split at h
  ·rename_i hc
   simp only [Bool.and_eq_true, decide_eq_true_eq, bne_iff_ne] at hc
   exact ⟨k, t, _, rfl, ht, hid, hc.1.1, hc.1.2, rfl, hc.2, (Option.some.inj h).symm⟩
  ·cases h
theorem hire_some {W V : Wd} {d : Ded} (h : W.hire d = some V) : ∃ c : Cel, W.free (W.bases.getD d.who.toNat default) = some c ∧ 0 ≤ d.who ∧ d.who < (W.bases.length : Int) ∧ (d.what = 1 ∨ d.what = 2) ∧ Wd.priceOf d.what ≤ W.stocks.getD d.who.toNat 0 ∧ W.troops.length < 100 ∧ W.next < 1000000 ∧
  V = { W with troops := W.troops ++ [⟨W.next, d.who, d.what, c, Wd.lifeOf d.what, 0⟩], next := W.next + 1, stocks := W.stocks.set d.who.toNat (W.stocks.getD d.who.toNat 0 - Wd.priceOf d.what) } := by
 unfold Wd.hire at h
 simp only at h
 split at h
 ·rename_i hc
  simp only [Bool.and_eq_true, decide_eq_true_eq] at hc
  have a := inB_true hc.1.1.1.1
  have b := inB_true hc.1.1.1.2
  split at h
  ·cases h
  ·rename_i c hfr
   exact ⟨c, hfr, a.1, by omega, by omega, hc.1.1.2, hc.1.2, hc.2, (Option.some.inj h).symm⟩
 ·cases h
theorem price_pos (k : Int) : 0 ≤ Wd.priceOf k := by unfold Wd.priceOf; split <;> (try split) <;> omega
theorem Good.mine {W V : Wd} {d : Ded} (h : Good W) (hd : W.mine d = some V) : Good V := by
 obtain ⟨k, t, _, ht, _, hk, hl, _, hin, hm0, rfl⟩ := mine_some hd
 have h1 := h.troops k t ht
 have hmo : Wd.mostOf t.kind = 5 := by rw [hk]; rfl
 obtain ⟨i1, i2, _⟩ := Fld.idx h.field hin
 have hlt : W.place d.spot < W.mines.length := by rw [h.ml]; unfold Wd.place; omega
 obtain ⟨m, hm⟩ := get_of hlt
 have h2 := h.mines _ m hm
 have hg : W.mines.getD (W.place d.spot) 0 = m := by rw [List.getD_eq_getElem?_getD, hm]; rfl
 rw [hg] at hm0 ⊢
 refine h.turned ht rfl (by have := h1.load; omega) rfl rfl rfl rfl rfl h.stocks (by simp) λ i x hx => ?_
 simp only at hx
 by_cases hi : W.place d.spot = i
 ·subst hi
  rw [List.getElem?_set_self hlt] at hx
  obtain rfl := Option.some.inj hx
  refine ⟨by omega, by omega, ?_⟩
  rcases h2.2.2 with h3 | h3
  ·omega
  ·exact .inr h3
 ·rw [List.getElem?_set_ne hi] at hx
  exact h.mines i x hx
theorem Good.drop {W V : Wd} {d : Ded} (h : Good W) (hd : W.drop d = some V) : Good V := by
 obtain ⟨k, t, n, _, ht, _, hl, _, hn, hn0, rfl⟩ := drop_some hd
 have h1 := h.troops k t ht
 have hlt : t.owner.toNat < W.stocks.length := by rw [h.sl]; have := h1.owner; omega
 obtain ⟨s, hs⟩ := get_of hlt
 have h2 := h.stocks _ s hs
 have hg : W.stocks.getD t.owner.toNat 0 = s := by rw [List.getD_eq_getElem?_getD, hs]; rfl
 rw [hg] at hn ⊢
 refine h.turned ht rfl (by have := h1.load; omega) rfl rfl rfl rfl (by simp) (λ i x hx => ?_) rfl h.mines
 simp only at hx
 by_cases hi : t.owner.toNat = i
 ·subst hi
  rw [List.getElem?_set_self hlt] at hx
  obtain rfl := Option.some.inj hx
  omega
 ·rw [List.getElem?_set_ne hi] at hx
  exact h.stocks i x hx
theorem Good.hire {W V : Wd} {d : Ded} (h : Good W) (hd : W.hire d = some V) : Good V := by
 obtain ⟨c, hfr, hw0, hw1, hk, hp, hnt, hnx, rfl⟩ := hire_some hd
 have hop := List.find?_some hfr
 unfold Wd.openTo at hop
 rw [Bool.and_eq_true] at hop
 have hany : ∀ t ∈ W.troops, t.spot ≠ c := λ t ht he => by
  have := hop.2
  rw [Bool.not_eq_true', List.any_eq_false] at this
  exact this t ht (by simp [isAt, he])
 have hlt : d.who.toNat < W.stocks.length := by rw [h.sl]; omega
 obtain ⟨s, hs⟩ := get_of hlt
 have h2 := h.stocks _ s hs
 have hg : W.stocks.getD d.who.toNat 0 = s := by rw [List.getD_eq_getElem?_getD, hs]; rfl
 rw [hg] at hp ⊢
 have hpp := price_pos d.what
 have hn := h.next
 have hsp : ∀ i, i ≤ W.troops.length → Wd.spots { W with troops := W.troops ++ [⟨W.next, d.who, d.what, c, Wd.lifeOf d.what, 0⟩], next := W.next + 1, stocks := W.stocks.set d.who.toNat (s - Wd.priceOf d.what) } i = W.spots i := λ i hi => by
  unfold Wd.spots
  simp only
  rw [List.take_append_of_le_length hi]
 have hla : ∀ i, i ≤ W.troops.length → Wd.lastId { W with troops := W.troops ++ [⟨W.next, d.who, d.what, c, Wd.lifeOf d.what, 0⟩], next := W.next + 1, stocks := W.stocks.set d.who.toNat (s - Wd.priceOf d.what) } i = W.lastId i := λ i hi => by
  unfold Wd.lastId
  simp only
  by_cases h0 : i = 0
  ·rw [if_pos h0, if_pos h0]
  ·rw [if_neg h0, if_neg h0, List.getD_eq_getElem?_getD, List.getD_eq_getElem?_getD, List.getElem?_append_left (by omega)]
 have hat : ∀ (i : Nat) x, (W.troops ++ [(⟨W.next, d.who, d.what, c, Wd.lifeOf d.what, 0⟩ : Trp)])[i]? = some x → (i < W.troops.length ∧ W.troops[i]? = some x) ∨ (i = W.troops.length ∧ x = ⟨W.next, d.who, d.what, c, Wd.lifeOf d.what, 0⟩) := λ i x hx => by
  by_cases hi : i < W.troops.length
  ·rw [List.getElem?_append_left hi] at hx; exact .inl ⟨hi, hx⟩
  ·rw [List.getElem?_append_right (by omega)] at hx
   have h0 : i - W.troops.length = 0 := by
    have := (List.getElem?_eq_some_iff.1 hx).1
    simp at this; omega
   rw [h0] at hx
   exact .inr ⟨by omega, by simpa using hx.symm⟩
 have hlast : W.lastId W.troops.length < W.next ∧ 0 ≤ W.lastId W.troops.length := by
  by_cases h0 : W.troops.length = 0
  ·rw [h0]; exact ⟨by show (0 : Int) < _; omega, Int.le_refl _⟩
  ·obtain ⟨t, ht⟩ := get_of (l := W.troops) (i := W.troops.length - 1) (by omega)
   have h4 := h.ids _ t ht
   have e : W.lastId W.troops.length = t.id := by
    unfold Wd.lastId
    rw [if_neg h0, List.getD_eq_getElem?_getD, ht]; rfl
   rw [e]; omega
 refine ⟨h.field, h.nb, by simp; omega, by simp; exact h.sl, h.bases, λ i x hx => ?_, h.ml, h.mines, λ i x hx => ?_, λ i x hx => ?_, λ i x hx => ?_, by simp only; omega, h.now⟩
 ·simp only at hx
  by_cases hi : d.who.toNat = i
  ·subst hi
   rw [List.getElem?_set_self hlt] at hx
   obtain rfl := Option.some.inj hx
   omega
  ·rw [List.getElem?_set_ne hi] at hx
   exact h.stocks i x hx
 ·rcases hat i x hx with ⟨_, hx⟩ | ⟨_, rfl⟩
  ·exact h.troops i x hx
  ·exact ⟨hk, ⟨hw0, hw1⟩, hop.1, by simp only; rcases hk with h | h <;> rw [h] <;> decide, by simp only; rcases hk with h | h <;> rw [h] <;> decide⟩
 ·rcases hat i x hx with ⟨hi, hx⟩ | ⟨rfl, rfl⟩
  ·rw [hla i (by omega)]
   have := h.ids i x hx
   simp only; omega
  ·rw [hla _ (Nat.le_refl _)]
   simp only; omega
 ·rcases hat i x hx with ⟨hi, hx⟩ | ⟨rfl, rfl⟩
  ·rw [hsp i (by omega)]; exact h.spots i x hx
  ·rw [hsp _ (Nat.le_refl _)]
   simp only
   cases hc : (W.spots W.troops.length).contains c with
   | false => rfl
   | true =>
    rw [List.contains_iff_mem] at hc
    unfold Wd.spots at hc
    obtain ⟨t, ht, he⟩ := List.mem_map.1 hc
    exact absurd he (hany t (List.mem_of_mem_take ht))
theorem Good.deed {W V : Wd} {d : Ded} (h : Good W) (hd : W.deed d = some V) : Good V := by
 unfold Wd.deed at hd
 split at hd
 ·exact h.mine hd
 ·split at hd
  ·exact h.drop hd
  ·split at hd
   ·exact h.hire hd
   ·cases hd
theorem Good.deeds {W : Wd} (h : Good W) : ∀ l : List Ded, Good (W.deeds l).1 := by
 intro l
 induction l generalizing W with
 | nil => exact h
 | cons d l ih =>
  unfold Wd.deeds
  cases hd : W.deed d with
  | none => exact ih h
  | some V => exact ih (h.deed hd)
end
section
open Go.RowKit
structure Shop (w : World) (Z S : Nat) (a : Wd.At) (W : Wd) : Prop where
 blk : Blk w S (Wd.cells a W) 157 (0, 0)
 own : WOwn w Z a W
 far : S ∉ WOwn.foot a
 low : Z ≤ S
theorem Shop.later {w w' : World} {Z S : Nat} {a : Wd.At} {W : Wd} (h : Shop w Z S a W) (hb : Below w.heap.size w w') : Shop w' Z S a W := ⟨h.blk.later hb, h.own.later hb, h.far, h.low⟩
theorem beside_any (a b : Cel) (w : World) (h1 : 0 ≤ a.x) (h2 : a.x ≤ 40) (h3 : 0 ≤ a.y) (h4 : a.y ≤ 40) :
  Calls Try.prog 162 #[.agg #[.int .i64 a.x, .int .i64 a.y], .agg #[.int .i64 b.x, .int .i64 b.y]] w λ e w' => e = .returned (.bool (beside a b)) ∧ Below w.heap.size w w' := by
 have hb0 := below_alloc0 w (.cells #[.int .i64 a.x, .int .i64 a.y] 70)
 have hb1 := below_alloc0 (w.alloc (.cells #[.int .i64 a.x, .int .i64 a.y] 70)) (.cells #[.int .i64 b.x, .int .i64 b.y] 70)
 have hb := hb0.trans (hb1.mono hb0.size)
 unfold beside
 clear hb0 hb1
 rcases Int.lt_or_le b.x (a.x - 1) with c1 | c1
 ·rw [inB_not (.inl c1)]
  have d1 : decide (a.x - 1 ≤ b.x) = false := by simp; omega
  go_enter Try.func162, Try.ntmps162
  go_wp2
  go_ret
  exact ⟨rfl, hb⟩
 ·have d1 : decide (a.x - 1 ≤ b.x) = true := by simp; omega
  rcases Int.lt_or_le (a.x + 1) b.x with c2 | c2
  ·rw [inB_not (n := b.x) (.inr c2)]
   have d2 : decide (b.x ≤ a.x + 1) = false := by simp; omega
   go_enter Try.func162, Try.ntmps162
   go_wp2
   go_ret
   exact ⟨ret_bool (by simp <;> omega), hb⟩
  ·have d2 : decide (b.x ≤ a.x + 1) = true := by simp; omega
   rw [inB_mk (n := b.x) c1 c2]
   rcases Int.lt_or_le b.y (a.y - 1) with c3 | c3
   ·rw [inB_not (.inl c3)]
    have d3 : decide (a.y - 1 ≤ b.y) = false := by simp; omega
    go_enter Try.func162, Try.ntmps162
    go_wp2
    go_ret
    exact ⟨ret_bool (by simp <;> omega), hb⟩
   ·have d3 : decide (a.y - 1 ≤ b.y) = true := by simp; omega
    rcases Int.lt_or_le (a.y + 1) b.y with c4 | c4
    ·rw [inB_not (n := b.y) (.inr c4)]
     have d4 : decide (b.y ≤ a.y + 1) = false := by simp; omega
     go_enter Try.func162, Try.ntmps162
     go_wp2
     go_ret
     exact ⟨ret_bool (by simp <;> omega), hb⟩
    ·have d4 : decide (b.y ≤ a.y + 1) = true := by simp; omega
     rw [inB_mk (n := b.y) c3 c4]
     go_enter Try.func162, Try.ntmps162
     go_wp2
     go_ret
     exact ⟨ret_bool (by simp <;> omega), hb⟩
theorem troop1 (t : Trp) (id : Int) (g : Nat) (w : World) (hg : w.cell? ⟨g, 0, none⟩ = some (.int .i64 id)) :
  Calls Try.prog 173 #[.agg #[.int .i64 t.id, .int .i64 t.owner, .int .i64 t.kind, .int .i64 t.spot.x, .int .i64 t.spot.y, .int .i64 t.life, .int .i64 t.load], .pointer (some ⟨g, 0, none⟩)] w λ e w' => e = .returned (.bool (isId id t)) ∧ Below w.heap.size w w' := by
 have hb := below_alloc0 w (.cells #[.int .i64 t.id, .int .i64 t.owner, .int .i64 t.kind, .int .i64 t.spot.x, .int .i64 t.spot.y, .int .i64 t.life, .int .i64 t.load] 80)
 have hlt := World.block_lt_of_cell? w _ hg
 simp only at hlt
 go_enter Try.func173, Try.ntmps173
 go_wp2_with fail
 go_ret
 exact ⟨rfl, hb⟩
theorem idx_tid (id : Int) (g : Nat) (A : Option Addr) (c : Nat) (l : List Trp) (w : World) (hl : Trp.rep.SHas 56 w A c l) (hg : w.cell? ⟨g, 0, none⟩ = some (.int .i64 id)) :
  Calls Try.prog 109 #[.slice A l.length c, .func (.func 173) #[] #[.pointer (some ⟨g, 0, none⟩)]] w λ e w' => e = .returned (.int .i64 (idxI (isId id) l)) ∧ Below w.heap.size w w' := by
 obtain ⟨n, hn⟩ : ∃ n, l.length = n := ⟨_, rfl⟩
 have hle : n ≤ 9223372036854775807 := by have := hl.1; have := hl.2.1; omega
 rw [hn]
 have HL := Lib.hid hl
 have HN := Lib.hid hn
 clear hl hn
 go_enter Try.func109, Try.ntmps109
 go_wp2_with fail
 go_loopw [5, 8] (λ _ iv wr => ∃ k : Nat, k ≤ n ∧ iv = .int .i64 (k : Int) ∧ Hid (∀ j (hj : j < k) (hj2 : j < l.length), (isId id) l[j] = false) ∧ Below w.heap.size w wr) (λ _ iv _ => n - (intOf iv).toNat)
 case atStart => exact ⟨0, Nat.zero_le _, rfl, (λ j hj => by omega), Below.refl _ _⟩
 case round =>
  obtain ⟨k, hk, rfl, HK, hb⟩ := hrel
  by_cases hlt : k < n
  ·have hkl : k < l.length := by rw [HN.out]; exact hlt
   obtain ⟨b, o, rfl, hcell⟩ := Trp.at_ (HL.out.keep hb) (by omega)
   obtain ⟨x, hxe⟩ : ∃ x, l[k]'hkl = x := ⟨_, rfl⟩
   obtain ⟨q0, q1, q2, q3, q4, q5, q6⟩ := hcell k x (by rw [List.getElem?_eq_getElem hkl, hxe])
   have HXE := Lib.hid hxe
   have hg' : wr.cell? ⟨g, 0, none⟩ = some (.int .i64 id) := cell_later hb hg
   have hc := troop1 x id g wr hg'
   clear hcell hxe
   cases hbad : (isId id) x with
   | true =>
    have hres : idxI (isId id) l = (k : Int) := idxI_some hkl (by rw [HXE.out]; exact hbad) λ j hj => HK.out j hj (by omega)
    rw [hbad] at hc
    have HRES := Lib.hid hres
    clear hres hbad
    go_wp2_with (go_at_call 173; refine hc.mono ?_; rintro e w' ⟨rfl, hb2⟩)
    go_ret
    exact ⟨by rw [HRES.out]; rfl, hb.trans (hb2.mono hb.size)⟩
   | false =>
    rw [hbad] at hc
    have HK2 : Hid (∀ j (hj : j < k + 1) (hj2 : j < l.length), (isId id) l[j] = false) := by
     intro j hj hj2
     by_cases h : j < k
     ·exact HK.out j h hj2
     ·obtain rfl : j = k := by omega
      rw [HXE.out]; exact hbad
    clear hbad
    go_wp2_with (go_at_call 173; refine hc.mono ?_; rintro e w' ⟨rfl, hb2⟩)
    go_roundw
    case rel => exact ⟨k + 1, by omega, by go_num, HK2, hb.trans (hb2.mono hb.size)⟩
    case measure => simp [intOf]; omega
  ·have hres : idxI (isId id) l = -1 := idxI_none λ j hj => HK.out j (by have := HN.out; omega) hj
   have HRES := Lib.hid hres
   clear hres
   go_wp2_with fail
   go_ret
   exact ⟨by rw [HRES.out]; rfl, hb⟩
def trAt (a : Wd.At) (k : Nat) : Option Addr := a.T.map λ x => ⟨x.block, k * 7, none⟩
def trOf (a : Wd.At) (W : Wd) (id : Int) : Option Addr := match W.troops.findIdx? (isId id) with | none => none | some k => trAt a k
theorem shopTroop (id : Int) (w : World) (Z S : Nat) (a : Wd.At) (W : Wd) (h : Shop w Z S a W) :
  Calls Try.prog 161 #[.pointer (some ⟨S, 0, none⟩), .int .i64 id] w λ e w' => e = .returned (.pointer (trOf a W id)) ∧ Below w.heap.size w w' := by
 obtain ⟨aP, aB, aS, aM, aT, kP, kB, kS, kM, kT⟩ := a
 have hb0 := below_alloc0 w (.cells #[.int .i64 id] 3)
 have hI := Blk.new w [.int .i64 id] 3 (0, 0)
 obtain ⟨w0, HW0⟩ : ∃ w0, Hid (w.alloc (.cells #[.int .i64 id] 3) = w0) := ⟨_, Lib.hid rfl⟩
 rw [HW0.out] at hb0
 have hI : Blk w0 w.heap.size [.int .i64 id] 3 (0, 0) := by rw [← HW0.out]; exact hI
 have h0 := h.later hb0
 obtain ⟨nt, HNT⟩ : ∃ n, Hid (W.troops.length = n) := ⟨_, Lib.hid rfl⟩
 have HIX := Lib.hid (idx_tid id w.heap.size aT kT W.troops w0 h0.own.T.has (hI.cell 0))
 have hSlt := h.blk.lt
 obtain ⟨c0, c1, c2, c3, c4, c5, c6, c7, c8⟩ := Wd.wblk h0.blk
 have HB := Lib.hid h0.blk
 have hT : Trp.rep.SOwn 80 56 w0 Z (Rep.blkOf aT) aT kT W.troops := h0.own.T
 obtain ⟨b0, b1, b2, b3, b4, b5, b6, b7, b8⟩ := Wd.wblk h.blk
 rw [HNT.out] at HIX c6 b6
 unfold trOf
 cases hf : W.troops.findIdx? (isId id) with
 | none =>
  have hi : idxI (isId id) W.troops = -1 := by unfold idxI; rw [hf]
  rw [hi] at HIX
  clear hf hi h h0 hT hI
  go_enter Try.func161, Try.ntmps161
  go_wp2_with fail
  rw [HW0.out]
  refine HIX.out.mono ?_; rintro e w2 ⟨rfl, hb2⟩
  go_wp2_with fail
  go_ret
  exact ⟨rfl, hb0.trans (hb2.mono hb0.size)⟩
 | some k =>
  have hi : idxI (isId id) W.troops = (k : Int) := by unfold idxI; rw [hf]
  rw [hi] at HIX
  obtain ⟨t, ht, _⟩ := findId hf
  have hk : k < nt := by rw [← HNT.out]; exact (List.getElem?_eq_some_iff.1 ht).1
  obtain ⟨g, rfl⟩ := hT.block (by rw [HNT.out]; omega)
  have hki : (k : Int) < (nt : Int) := by omega
  have hk0 : (0 : Int) ≤ (k : Int) := by omega
  have hkm : nt ≤ 9223372036854775807 := by have := hT.has.len_le; rw [HNT.out] at this; exact this
  clear hf hi h h0 hT hI ht
  go_enter Try.func161, Try.ntmps161
  go_wp2_with fail
  rw [HW0.out]
  refine HIX.out.mono ?_; rintro e w2 ⟨rfl, hb2⟩
  have d6 := cell_later hb2 c6
  clear c0 c1 c2 c3 c4 c5 c6 c7 c8
  go_wp2_with fail
  go_ret
  exact ⟨by simp [trAt], hb0.trans (hb2.mono hb0.size)⟩
end
section
open Go.RowKit
def DeedPost (W : Wd) (V : Option Wd) (w : World) (Z S : Nat) (e : Ending) (w' : World) : Prop :=
 ∃ a', e = .returned (.bool V.isSome) ∧ Shop w' Z S a' (V.getD W) ∧ Below Z w w'
def MinePost (W : Wd) (d : Ded) (w : World) (Z S : Nat) (a : Wd.At) (e : Ending) (w' : World) : Prop :=
 ∃ V, e = .returned (.bool (W.mine d).isSome) ∧ (W.mine d).getD W = V ∧ Shop w' Z S a V ∧ Below Z w w'
theorem mine_eq {W : Wd} {d : Ded} {k : Nat} {t : Trp} (hf : W.troops.findIdx? (isId d.who) = some k) (ht : W.troops[k]? = some t) :
  W.mine d = if t.kind == 1 && decide (t.load < 5) && beside t.spot d.spot && W.field.isIn d.spot && W.mines.getD (W.place d.spot) 0 != 0 then
   some { W with mines := W.mines.set (W.place d.spot) (W.mines.getD (W.place d.spot) 0 - 1), troops := W.troops.set k (Wd.addLoad t 1) } else none := by
 have hg : W.troops.getD k default = t := by rw [List.getD_eq_getElem?_getD, ht]; rfl
 unfold Wd.mine
 rw [hf]
 simp only [hg]
end
section
open Go.RowKit
def ShopPost (W : Wd) (V : Option Wd) (w : World) (Z S : Nat) (a : Wd.At) (e : Ending) (w' : World) : Prop :=
 ∃ a', e = .returned (.bool V.isSome) ∧ Shop w' Z S a' (V.getD W) ∧ (∀ q ∈ WOwn.foot a', q ∈ WOwn.foot a ∨ w.heap.size ≤ q) ∧ Mod (S :: WOwn.foot a) w w'
theorem WOwn.setM {w w1 : World} {Z : Nat} {a : Wd.At} {W : Wd} {l : List Int} (h : WOwn w Z a W) (m : Mod (Rep.blkOf a.M) w w1) (hM : repI.SOwn 3 8 w1 Z (Rep.blkOf a.M) a.M a.m l) : WOwn w1 Z a { W with mines := l } := by
 obtain ⟨d1, d2, d3⟩ := h.disj
 exact ⟨h.P.mod m λ x hx hs => (d1 x hs).1 hx, h.B.mod m λ x hx hs => (d1 x hs).2.1 hx, h.S.mod m λ x hx hs => (d1 x hs).2.2.1 hx, hM, h.T.mod m λ x hx hs => (d1 x hs).2.2.2 hx, h.apart, h.nums⟩
theorem WOwn.setT {w w1 : World} {Z : Nat} {a : Wd.At} {W : Wd} {l : List Trp} (h : WOwn w Z a W) (m : Mod (Rep.blkOf a.T) w w1) (hT : Trp.rep.SOwn 80 56 w1 Z (Rep.blkOf a.T) a.T a.t l) : WOwn w1 Z a { W with troops := l } := by
 obtain ⟨d1, d2, d3⟩ := h.disj
 exact ⟨h.P.mod m λ x hx hs => (d2 x hs).1 hx, h.B.mod m λ x hx hs => (d2 x hs).2.1 hx, h.S.mod m λ x hx hs => (d2 x hs).2.2.1 hx, h.M.mod m λ x hx hs => (d2 x hs).2.2.2 hx, hT, h.apart, h.nums⟩
theorem trOf_some {w : World} {Z : Nat} {a : Wd.At} {W : Wd} {id : Int} {k : Nat} (h : WOwn w Z a W) (hf : W.troops.findIdx? (isId id) = some k) : trOf a W id = some ⟨bA a.T, oA a.T + k * 7, none⟩ := by
 obtain ⟨t, ht, _⟩ := findId hf
 have hT : Trp.rep.SOwn 80 56 w Z (Rep.blkOf a.T) a.T a.t W.troops := h.T
 obtain ⟨g, hg⟩ := hT.block (by have := (List.getElem?_eq_some_iff.1 ht).1; omega)
 unfold trOf trAt
 rw [hf, hg]
 simp [bA, oA]
theorem trOf_none {a : Wd.At} {W : Wd} {id : Int} (hf : W.troops.findIdx? (isId id) = none) : trOf a W id = none := by unfold trOf; rw [hf]
theorem mine_none {W : Wd} {d : Ded} (hf : W.troops.findIdx? (isId d.who) = none) : W.mine d = none := by unfold Wd.mine; rw [hf]
theorem mine_no {W : Wd} {d : Ded} {k : Nat} {t : Trp} (hf : W.troops.findIdx? (isId d.who) = some k) (ht : W.troops[k]? = some t) (h : ((t.kind != 1 || decide (5 ≤ t.load)) || !beside t.spot d.spot) = true) : W.mine d = none := by
 rw [mine_eq hf ht, if_neg]
 intro hc
 simp only [Bool.and_eq_true, decide_eq_true_eq, beq_iff_eq] at hc
 simp only [hc.1.1.2, hc.1.1.1.1, Bool.or_eq_true, bne_self_eq_false, decide_eq_true_eq, Bool.not_true, Bool.false_eq_true, or_false, false_or] at h
 omega
theorem mine_out {W : Wd} {d : Ded} {k : Nat} {t : Trp} (hf : W.troops.findIdx? (isId d.who) = some k) (ht : W.troops[k]? = some t) (hF : W.field.chk = 0) (h : ¬ W.field.atE d.spot = 0) : W.mine d = none := by
 rw [mine_eq hf ht, if_neg]
 intro hc
 simp only [Bool.and_eq_true] at hc
 exact h (Fld.at_in hF hc.1.2).1
theorem mine_zero {W : Wd} {d : Ded} {k : Nat} {t : Trp} {m : Int} (hf : W.troops.findIdx? (isId d.who) = some k) (ht : W.troops[k]? = some t) (hm : W.mines.getD (W.place d.spot) 0 = m) (h : m = 0) : W.mine d = none := by
 rw [mine_eq hf ht, hm, h, if_neg (by simp)]
theorem mine_done {W : Wd} {d : Ded} {k : Nat} {t : Trp} {m : Int} (hf : W.troops.findIdx? (isId d.who) = some k) (ht : W.troops[k]? = some t) (hk : t.kind = 1) (hl : t.load < 5) (hb : beside t.spot d.spot = true) (hin : W.field.isIn d.spot = true) (hm : W.mines.getD (W.place d.spot) 0 = m) (h : ¬ m = 0) :
  W.mine d = some { W with mines := W.mines.set (W.place d.spot) (m - 1), troops := W.troops.set k (Wd.addLoad t 1) } := by
 rw [mine_eq hf ht, hm, if_pos]
 simp [hk, hl, hb, hin, h]
theorem mine2_none (d : Ded) (w : World) (Z S : Nat) (a : Wd.At) (W : Wd) (h : Shop w Z S a W) (hG : Good W) (hf : W.troops.findIdx? (isId d.who) = none) :
  Calls Try.prog 137 #[.pointer (some ⟨S, 0, none⟩), .agg #[.int .i64 d.kind, .int .i64 d.who, .int .i64 d.spot.x, .int .i64 d.spot.y, .int .i64 d.what]] w (ShopPost W (W.mine d) w Z S a) := by
 have hsl := hG.sl
 have hml := hG.ml
 have hlow := h.low
 have hZ : Z ≤ w.heap.size := by have := h.low; have := h.blk.lt; omega
 have hfar := h.far
 have q0 := h.blk.lt
 have BS := h.blk
 have HO := h.own
 have dS : ∀ q ∈ WOwn.foot a, q = S → False := λ q hq hb => hfar (hb ▸ hq)
 have u_1 := λ q hq => (HO.lt q hq).2
 have htr := trOf_none (a := a) hf
 refine calls_W (n := 88) Try.func137 rfl rfl rfl ?_
 refine sg <| bx rfl rfl rfl rfl λ w_2 b_3 x_4 l_5 B_6 => ?_
 have := x_4.size
 have z_2 := (Mod.rf (S :: WOwn.foot a) w).trans (Mod.of_ext x_4)
 have q_8 := B_6.lt
 refine va rfl <| nK <| sg <| vm rfl <| vL (fa eF20 rfl) <| vL (ld rfl (B_6.one eF5 rfl)) <| ?_
 have BS := BS.later x_4
 have HO := HO.later x_4
 refine ca eF21 rfl rfl (((htr ▸ shopTroop d.who _ Z S a W ⟨BS, HO, hfar, hlow⟩)).mono ?_)
 rintro e w_9 ⟨rfl, x_10⟩
 refine ⟨_, rfl, ?_⟩
 have := x_10.size
 have z_9 := z_2.trans (Mod.of_ext x_10)
 refine va rfl <| nK <| sq <| sq <| ?_
 refine rd [(6, 0), (13, 0), (20, 0), (22, 0), (23, 0)] [0, 1, 2, 3, 4, 5, 6, 7, 8, 9, 10, 11, 12, 13, 14, 15, 16, 17, 18, 19, 20, 21, 22, 23, 24, 25] (by kernel_rfl) (by kernel_rfl) ?_
 refine fw1 rfl (λ _ => mv rfl) <| fw1 rfl (λ _ => bpN Try.underlying197 rfl rfl) <| fw1 rfl (λ _ => mv rfl) <| fW (v := undef) rfl rfl rfl rfl rfl rfl (λ hc => nomatch hc) rfl <| fW (v := undef) rfl rfl rfl rfl rfl rfl (λ hc => nomatch hc) rfl <| fW (v := undef) rfl rfl rfl rfl rfl rfl (λ hc => nomatch hc) rfl <| fQ (v := undef) rfl rfl rfl rfl rfl rfl (λ hc => nomatch hc) rfl <| fW (v := undef) rfl rfl rfl rfl rfl rfl (λ hc => nomatch hc) rfl <| fw1 rfl (λ _ => pkT rfl rfl) <| fw1 rfl (λ _ => mv rfl) <| fW (v := undef) rfl rfl rfl rfl rfl rfl (λ hc => nomatch hc) rfl <| fW (v := undef) rfl rfl rfl rfl rfl rfl (λ hc => nomatch hc) rfl <| fW (v := undef) rfl rfl rfl rfl rfl rfl (λ hc => nomatch hc) rfl <| fQ (v := undef) rfl rfl rfl rfl rfl rfl (λ hc => nomatch hc) rfl <| fW (v := undef) rfl rfl rfl rfl rfl rfl (λ hc => nomatch hc) rfl <| fw1 rfl (λ _ => pkT rfl rfl) <| fw1 rfl (λ _ => mv rfl) <| fW (v := undef) rfl rfl rfl rfl rfl rfl (λ hc => nomatch hc) rfl <| fW (v := undef) rfl rfl rfl rfl rfl rfl (λ hc => nomatch hc) rfl <| fW (v := undef) rfl rfl rfl rfl rfl rfl (λ hc => nomatch hc) rfl <| fQ (v := undef) rfl rfl rfl rfl rfl rfl (λ hc => nomatch hc) rfl <| fW (v := undef) rfl rfl rfl rfl rfl rfl (λ hc => nomatch hc) rfl <| fQ (v := undef) rfl rfl rfl rfl rfl rfl (λ hc => nomatch hc) rfl <| fC (v := undef) (args := []) rfl rfl rfl rfl rfl rfl eF22 (λ hc => nomatch hc) (λ hc => nomatch hc) rfl <| ?_
 refine fW (v := undef) rfl rfl rfl rfl rfl rfl (λ hc => nomatch hc) rfl <| fw1 rfl (λ _ => pkT rfl rfl) <| fn λ w_12 x_13 => ?_
 have := x_13.size
 have z_12 := z_9.trans (Mod.of_ext x_13)
 refine nT <| cT rfl <| sg <| va rfl <| nK <| rt <| tT <| tR (.tmp rfl .nil) <| ?_
 have HO := HO.later (eT x_10 x_13)
 have BS := BS.later (eT x_10 x_13)
 exact ⟨a, by rw [mine_none hf]; rfl, by rw [mine_none hf]; exact ⟨BS, HO, hfar, hlow⟩, λ q hq => .inl hq, z_12⟩
theorem mine2 (d : Ded) (w : World) (Z S : Nat) (a : Wd.At) (W : Wd) (h : Shop w Z S a W) (hG : Good W) (k : Nat) (t : Trp) (hf : W.troops.findIdx? (isId d.who) = some k) (ht : W.troops[k]? = some t) :
  Calls Try.prog 137 #[.pointer (some ⟨S, 0, none⟩), .agg #[.int .i64 d.kind, .int .i64 d.who, .int .i64 d.spot.x, .int .i64 d.spot.y, .int .i64 d.what]] w (ShopPost W (W.mine d) w Z S a) := by
 have hsl := hG.sl
 have hml := hG.ml
 have hlow := h.low
 have hZ : Z ≤ w.heap.size := by have := h.low; have := h.blk.lt; omega
 have hfar := h.far
 have q0 := h.blk.lt
 have BS := h.blk
 have HO := h.own
 have dS : ∀ q ∈ WOwn.foot a, q = S → False := λ q hq hb => hfar (hb ▸ hq)
 have u_1 := λ q hq => (HO.lt q hq).2
 have htr := trOf_some HO hf
 have hT := hG.troops k t ht
 obtain ⟨i1, i2, i3, i4, i5, i6⟩ := Fld.idx hG.field (Fld.ground_in hT.ground)
 obtain ⟨y1, y2, y3, y4, _, _⟩ := Fld.good hG.field
 have hb1 : 0 ≤ t.spot.x := by omega
 have hb2 : t.spot.x ≤ 40 := by omega
 have hb3 : 0 ≤ t.spot.y := by omega
 have hb4 : t.spot.y ≤ 40 := by omega
 have hld := hT.load
 refine calls_W (n := 88) Try.func137 rfl rfl rfl ?_
 refine sg <| bx rfl rfl rfl rfl λ w_2 b_3 x_4 l_5 B_6 => ?_
 have := x_4.size
 have z_2 := (Mod.rf (S :: WOwn.foot a) w).trans (Mod.of_ext x_4)
 have q_8 := B_6.lt
 refine va rfl <| nK <| sg <| vm rfl <| vL (fa eF20 rfl) <| vL (ld rfl (B_6.one eF5 rfl)) <| ?_
 have BS := BS.later x_4
 have HO := HO.later x_4
 refine ca eF21 rfl rfl (((htr ▸ shopTroop d.who _ Z S a W ⟨BS, HO, hfar, hlow⟩)).mono ?_)
 rintro e w_9 ⟨rfl, x_10⟩
 refine ⟨_, rfl, ?_⟩
 have := x_10.size
 have z_9 := z_2.trans (Mod.of_ext x_10)
 refine va rfl <| nK <| sq <| sq <| ?_
 refine rd [(6, 0), (13, 0), (20, 0), (22, 0), (23, 0)] [0, 1, 2, 3, 4, 5, 6, 7, 8, 9, 10, 11, 12, 13, 14, 15, 16, 17, 18, 19, 20, 21, 22, 23, 24, 25] (by kernel_rfl) (by kernel_rfl) ?_
 refine fw1 rfl (λ _ => mv rfl) <| fw1 rfl (λ _ => bpN Try.underlying197 rfl rfl) <| fw1 rfl (λ _ => mv rfl) <| fW rfl rfl rfl rfl rfl rfl (λ hc _ => mv rfl) rfl <| fW rfl rfl rfl rfl rfl rfl (λ hc _ => nc rfl) rfl <| fW rfl rfl rfl rfl rfl rfl (λ hc _ => fa eF23 rfl) rfl <| ?_
 have HO := HO.later x_10
 refine fQ rfl rfl rfl rfl rfl rfl (λ hc _ x => ld rfl (Rep.SHas.fld hcT (by rw [← (HO.later x).T.has.adr (zl k (by have := (List.getElem?_eq_some_iff.1 ht).1; exact this))]; exact (HO.later x).T.has) 2 ht rfl eF5)) rfl <| fW rfl rfl rfl rfl rfl rfl (λ hc _ => bne rfl rfl) rfl <| fw1 rfl (λ _ => pkF rfl rfl) <| fw1 rfl (λ _ => mv rfl) <| fW rfl rfl rfl rfl rfl rfl (λ hc _ => mv rfl) rfl <| fW rfl rfl rfl rfl rfl rfl (λ hc _ => nc (gt hc rfl)) rfl <| fW rfl rfl rfl rfl rfl rfl (λ hc _ => fa eF24 (gt hc rfl)) rfl <| fQ rfl rfl rfl rfl rfl rfl (λ hc _ x => ld (gt hc rfl) (Rep.SHas.fld hcT (by rw [← (HO.later x).T.has.adr (zl k (by have := (List.getElem?_eq_some_iff.1 ht).1; exact this))]; exact (HO.later x).T.has) 6 ht rfl eF5)) rfl <| fW rfl rfl rfl rfl rfl rfl (λ hc _ => bge (gt hc rfl) rfl) rfl <| fw1 rfl (λ _ => pO rfl rfl rfl rfl) <| fw1 rfl (λ _ => mv rfl) <| fW rfl rfl rfl rfl rfl rfl (λ hc _ => mv rfl) rfl <| fW rfl rfl rfl rfl rfl rfl (λ hc _ => nc (gt hc rfl)) rfl <| fW rfl rfl rfl rfl rfl rfl (λ hc _ => fa eF25 (gt hc rfl)) rfl <| fQ rfl rfl rfl rfl rfl rfl (λ hc _ x => ld (gt hc rfl) (Rep.SHas.part hcT (by rw [← (HO.later x).T.has.adr (zl k (by have := (List.getElem?_eq_some_iff.1 ht).1; exact this))]; exact (HO.later x).T.has) 3 (ds := [.int .i64 t.spot.x, .int .i64 t.spot.y]) ht rfl eF7 eF8)) rfl <| fW rfl rfl rfl rfl rfl rfl (λ hc _ => fa eF26 rfl) rfl <| ?_
 have B_6 := B_6.later x_10
 refine fQ rfl rfl rfl rfl rfl rfl (λ hc _ x => ld (gt hc rfl) ((B_6.later x).par [.int .i64 d.spot.x, .int .i64 d.spot.y] eF7 eF8 rfl)) rfl <| fC rfl rfl rfl rfl rfl rfl eF22 (λ hc => ec (gt hc rfl) (ec (gt hc rfl) rfl)) (λ hc _ x => beside_any t.spot d.spot _ hb1 hb2 hb3 hb4) rfl <| fW rfl rfl rfl rfl rfl rfl (λ hc _ => nt (gt hc rfl)) rfl <| fw1 rfl (λ _ => pO rfl rfl rfl rfl) <| fn λ w_12 x_13 => ?_
 have := x_13.size
 have z_12 := z_9.trans (Mod.of_ext x_13)
 refine nT <| ?_
 refine cb rfl (λ h_15 => ?_) (λ h_15 => ?_)
 ·refine sg <| va rfl <| nK <| rt <| tT <| tR (.tmp rfl .nil) <| ?_
  have HO := HO.later x_13
  have BS := BS.later (eT x_10 x_13)
  exact ⟨a, by rw [mine_no hf ht h_15]; rfl, by rw [mine_no hf ht h_15]; exact ⟨BS, HO, hfar, hlow⟩, λ q hq => .inl hq, z_12⟩
 ·simp only [Bool.or_eq_false_iff, bne_eq_false_iff_eq, decide_eq_false_iff_not, Bool.not_eq_false', Int.not_le] at h_15
  obtain ⟨⟨hk, hl⟩, hbe⟩ := h_15
  refine sK <| sq <| sq <| ?_
  refine rd [(4, 0), (6, 0), (7, 0)] [0, 1, 2, 3, 4, 5, 6, 7, 8, 9, 10, 11, 12] (by kernel_rfl) (by kernel_rfl) ?_
  refine fw1 rfl (λ _ => mv rfl) <| fw1 rfl (λ _ => nc rfl) <| fw1 rfl (λ _ => fa eF27 rfl) <| fw1 rfl (λ _ => fa eF28 rfl) <| ?_
  have BS := BS.later (eT x_10 x_13)
  refine fq1 rfl (λ _ x => ld rfl ((BS.later x).par [.int .i64 W.field.wide, .int .i64 W.field.high, .slice a.P W.field.places.length a.p] eF14 eF15 rfl)) <| fw1 rfl (λ _ => fa eF26 rfl) <| ?_
  have B_6 := B_6.later x_13
  refine fq1 rfl (λ _ x => ld rfl ((B_6.later x).par [.int .i64 d.spot.x, .int .i64 d.spot.y] eF7 eF8 rfl)) <| ?_
  have HO := HO.later x_13
  refine fc rfl rfl eF16 rfl (λ _ x => fldAt2 W.field d.spot a.P a.p _ ((HO.later x).P).has) rfl <| fw1 rfl (λ _ => mv rfl) <| fw1 rfl (λ _ => ex rfl rfl) <| fw1 rfl (λ _ => ex rfl rfl) <| fw1 rfl (λ _ => as_ rfl) <| fw1 rfl (λ _ => as_ rfl) <| fn λ w_16 x_17 => ?_
  have := x_17.size
  have z_16 := z_12.trans (Mod.of_ext x_17)
  refine nT <| sg <| vm rfl <| vL (bne rfl rfl) <| nK <| ?_
  refine cne rfl (λ h_19 => ?_) (λ h_19 => ?_)
  ·refine sg <| va rfl <| nK <| rt <| tT <| tR (.tmp rfl .nil) <| ?_
   have HO := HO.later x_17
   have BS := BS.later x_17
   exact ⟨a, by rw [mine_out hf ht hG.field h_19]; rfl, by rw [mine_out hf ht hG.field h_19]; exact ⟨BS, HO, hfar, hlow⟩, λ q hq => .inl hq, z_16⟩
  ·have hin := atE_zero hG.field h_19
   obtain ⟨x1, x2, x3, x4, x5, x6⟩ := Fld.idx hG.field hin
   have hpl := Fld.len_le hG.field
   obtain ⟨y1, y2, y3, y4, _, _⟩ := Fld.good hG.field
   have z1 : 0 ≤ d.spot.y * W.field.wide := Int.mul_nonneg x5 (by omega)
   have z2 : d.spot.y * W.field.wide ≤ 1600 := by omega
   have hpm : W.place d.spot < W.mines.length := by unfold Wd.place; omega
   obtain ⟨m, hm⟩ := get_of hpm
   have hmr := hG.mines _ m hm
   have hmg : W.mines.getD (W.place d.spot) 0 = m := by rw [List.getD_eq_getElem?_getD, hm]; rfl
   refine sK <| sq <| ?_
   refine rd [(4, 0), (7, 0), (13, 0), (17, 0)] [0, 1, 2, 3, 4, 5, 6, 7, 8, 9, 10, 11, 12, 13, 14, 15, 16, 17, 18, 19, 20] (by kernel_rfl) (by kernel_rfl) ?_
   refine fw1 rfl (λ _ => mv rfl) <| fw1 rfl (λ _ => nc rfl) <| fw1 rfl (λ _ => fa eF27 rfl) <| fw1 rfl (λ _ => fa eF29 rfl) <| ?_
   have BS := BS.later x_17
   refine fq1 rfl (λ _ x => ld rfl ((BS.later x).one eF30 rfl)) <| fw1 rfl (λ _ => fa eF26 rfl) <| fw1 rfl (λ _ => fa eF6 rfl) <| ?_
   have B_6 := B_6.later x_17
   refine fq1 rfl (λ _ x => ld rfl ((B_6.later x).one eF5 rfl)) <| fw1 rfl (λ _ => mv rfl) <| fw1 rfl (λ _ => nc rfl) <| fw1 rfl (λ _ => fa eF27 rfl) <| fw1 rfl (λ _ => fa eF28 rfl) <| fw1 rfl (λ _ => fa eF19 rfl) <| fq1 rfl (λ _ x => ld rfl ((BS.later x).one eF5 rfl)) <| fw1 rfl (λ _ => bmu rfl rfl (inI (by omega))) <| fw1 rfl (λ _ => fa eF26 rfl) <| fw1 rfl (λ _ => fa eF4 rfl) <| fq1 rfl (λ _ x => ld rfl ((B_6.later x).one eF5 rfl)) <| fw1 rfl (λ _ => bad rfl rfl (inI (by omega))) <| ?_
   have HO := HO.later x_17
   refine fw1 rfl (λ _ => iA (((d.spot.y * W.field.wide) + d.spot.x).toNat) Try.underlying42 eF11 rfl rfl (HO.M.has.adr (zl (((d.spot.y * W.field.wide) + d.spot.x).toNat) (show (d.spot.y * W.field.wide + d.spot.x).toNat < W.mines.length by omega))) (by omega) (show (d.spot.y * W.field.wide + d.spot.x).toNat < W.mines.length by omega)) <| fw1 rfl (λ _ => as_ rfl) <| fn λ w_20 x_21 => ?_
   have := x_21.size
   have z_20 := z_16.trans (Mod.of_ext x_21)
   refine nT <| sq <| sg <| vm rfl <| vL (nc rfl) <| ?_
   have HO := HO.later x_21
   refine vL (ld rfl (Rep.SHas.one' hcI (by rw [← HO.M.has.adr (zl (((d.spot.y * W.field.wide) + d.spot.x).toNat) (show (d.spot.y * W.field.wide + d.spot.x).toNat < W.mines.length by omega))]; exact HO.M.has) hm rfl eF5)) <| vL (beq rfl rfl) <| nK <| ?_
   refine ceq rfl (λ h_23 => ?_) (λ h_23 => ?_)
   ·refine sg <| va rfl <| nK <| rt <| tT <| tR (.tmp rfl .nil) <| ?_
    have BS := BS.later x_21
    exact ⟨a, by rw [mine_zero hf ht hmg h_23]; rfl, by rw [mine_zero hf ht hmg h_23]; exact ⟨BS, HO, hfar, hlow⟩, λ q hq => .inl hq, z_20⟩
   ·refine sK <| sg <| vm rfl <| vL (nc rfl) <| vL (ld rfl (Rep.SHas.one' hcI (by rw [← HO.M.has.adr (zl (((d.spot.y * W.field.wide) + d.spot.x).toNat) (show (d.spot.y * W.field.wide + d.spot.x).toNat < W.mines.length by omega))]; exact HO.M.has) hm rfl eF5)) <| vL (bsu rfl rfl (inI (by omega))) <| vL (nc rfl) <| so (q' := m - 1) (j := 0) (i := ((d.spot.y * W.field.wide) + d.spot.x).toNat) HO.M Rep.flat_bare hm rfl rfl rfl rfl (λ _ cs h => by have ok_ := (show _ ∧ _ from h).2; obtain rfl := hcI h; exact ⟨rfl, okI_iff.2 (by omega)⟩) rfl rfl eF11 λ w_24 m_25 O_26 => ?_
    have BS := BS.later x_21
    have B_6 := B_6.later x_21
    have := m_25.size
    have z_24 := z_20.md m_25 (λ q hq => .inl (List.mem_cons_of_mem _ (foot_M hq)))
    have HO_28 := HO.setM m_25 O_26
    have u_29 := λ q hq => (HO_28.lt q hq).2
    have d_30 : ∀ q ∈ Rep.blkOf a.M, q = S → False := λ q hq hb => by (exact dS q (foot_M hq) hb)
    have BS := BS.mod m_25 (λ hq => d_30 _ hq rfl)
    refine nK <| sg <| vm rfl <| vL (nc rfl) <| vL (fa eF24 rfl) <| vL (ld rfl (Rep.SHas.fld hcT (by rw [← HO_28.T.has.adr (zl k (by have := (List.getElem?_eq_some_iff.1 ht).1; exact this))]; exact HO_28.T.has) 6 ht rfl eF5)) <| vL (bad rfl rfl (inI (by omega))) <| vL (nc rfl) <| vL (fa eF24 rfl) <| so (q' := Wd.addLoad t 1) (j := 6) (i := k) HO_28.T Rep.flat_bare ht rfl rfl rfl rfl (λ _ cs h => by have ok_ := (show _ ∧ _ from h).2; obtain rfl := hcT h; exact ⟨rfl, by obtain ⟨o1, o2, o3, o4, o5, o6, o7⟩ := ok_; exact ⟨o1, o2, o3, o4, o5, o6, okI_iff.2 (by show _ ≤ t.load + 1 ∧ t.load + 1 ≤ _; omega)⟩⟩) rfl rfl eF11 λ w_31 m_32 O_33 => ?_
    have d_34 : ∀ q ∈ Rep.blkOf a.M, q = b_3 → False := λ q hq hb => by (have := u_1 q (foot_M hq); omega)
    have B_6 := B_6.mod m_25 (λ hq => d_34 _ hq rfl)
    have := m_32.size
    have z_31 := z_24.md m_32 (λ q hq => .inl (List.mem_cons_of_mem _ (foot_T hq)))
    have HO_36 := HO_28.setT m_32 O_33
    have u_37 := λ q hq => (HO_36.lt q hq).2
    have d_38 : ∀ q ∈ Rep.blkOf a.T, q = S → False := λ q hq hb => by (exact dS q (foot_T hq) hb)
    have BS := BS.mod m_32 (λ hq => d_38 _ hq rfl)
    refine nK <| sg <| va rfl <| nK <| rt <| tR (.tmp rfl .nil) <| ?_
    rw [mine_done hf ht hk hl hbe hin hmg (by assumption)]
    exact ⟨a, rfl, ⟨by simpa [Wd.cells] using BS, HO_36, hfar, hlow⟩, λ q hq => .inl hq, z_31⟩
end
section
open Go.RowKit
def DropPost (W : Wd) (d : Ded) (w : World) (Z S : Nat) (a : Wd.At) (e : Ending) (w' : World) : Prop :=
 ∃ V, e = .returned (.bool (W.drop d).isSome) ∧ (W.drop d).getD W = V ∧ Shop w' Z S a V ∧ Below Z w w'
theorem drop_eq {W : Wd} {d : Ded} {k : Nat} {t : Trp} {b : Cel} {s : Int} (hf : W.troops.findIdx? (isId d.who) = some k) (ht : W.troops[k]? = some t) (hb : W.bases[t.owner.toNat]? = some b) (hs : W.stocks[t.owner.toNat]? = some s) :
  W.drop d = if t.load != 0 && beside b t.spot && decide (0 < min t.load (1000000 - s)) then
   some { W with stocks := W.stocks.set t.owner.toNat (s + min t.load (1000000 - s)), troops := W.troops.set k (Wd.addLoad t (-(min t.load (1000000 - s)))) } else none := by
 have hg : W.troops.getD k default = t := by rw [List.getD_eq_getElem?_getD, ht]; rfl
 have hg2 : W.bases.getD t.owner.toNat default = b := by rw [List.getD_eq_getElem?_getD, hb]; rfl
 have hg3 : W.stocks.getD t.owner.toNat 0 = s := by rw [List.getD_eq_getElem?_getD, hs]; rfl
 unfold Wd.drop
 rw [hf]
 simp only [hg, hg2, hg3]
theorem set_same {α : Type} {l : List α} {i : Nat} {x : α} (h : l[i]? = some x) : l.set i x = l := by
 apply List.ext_getElem?
 intro j
 by_cases e : i = j
 ·subst e
  rw [List.getElem?_set_self (List.getElem?_eq_some_iff.1 h).1, h]
 ·rw [List.getElem?_set_ne e]
end
section
open Go.RowKit
theorem drop_none {W : Wd} {d : Ded} (hf : W.troops.findIdx? (isId d.who) = none) : W.drop d = none := by unfold Wd.drop; rw [hf]
theorem drop_no {W : Wd} {d : Ded} {k : Nat} {t : Trp} {b : Cel} {s : Int} (hf : W.troops.findIdx? (isId d.who) = some k) (ht : W.troops[k]? = some t) (hb : W.bases[t.owner.toNat]? = some b) (hs : W.stocks[t.owner.toNat]? = some s) (h : (t.load == 0 || !beside b t.spot) = true) : W.drop d = none := by
 rw [drop_eq hf ht hb hs, if_neg]
 intro hc
 simp only [Bool.and_eq_true, bne_iff_ne] at hc
 simp only [hc.1.2, Bool.or_eq_true, beq_iff_eq, Bool.not_true, Bool.false_eq_true, or_false] at h
 exact hc.1.1 h
theorem drop_val2 {W : Wd} {d : Ded} {k : Nat} {t : Trp} {b : Cel} {s : Int} (hf : W.troops.findIdx? (isId d.who) = some k) (ht : W.troops[k]? = some t) (hb : W.bases[t.owner.toNat]? = some b) (hs : W.stocks[t.owner.toNat]? = some s) (hl : ¬ t.load = 0) (hbe : beside b t.spot = true) (hG : Good W) :
  (W.drop d).isSome = decide (0 < min t.load (1000000 - s)) ∧ (W.drop d).getD W = { W with stocks := W.stocks.set t.owner.toNat (s + min t.load (1000000 - s)), troops := W.troops.set k (Wd.addLoad t (-(min t.load (1000000 - s)))) } := by
 have h1 := (hG.troops k t ht).load.1
 have h2 := hG.stocks _ _ hs
 rw [drop_eq hf ht hb hs]
 by_cases hn : 0 < min t.load (1000000 - s)
 ·rw [if_pos (by simp [hl, hbe, hn])]
  exact ⟨by simp [hn], rfl⟩
 ·rw [if_neg (by simp [hn])]
  have h0 : min t.load (1000000 - s) = 0 := by omega
  refine ⟨by simp [hn], ?_⟩
  rw [h0]
  have e1 : W.stocks.set t.owner.toNat (s + 0) = W.stocks := by rw [Int.add_zero]; exact set_same hs
  have e2 : W.troops.set k (Wd.addLoad t (-0)) = W.troops := by
   have : Wd.addLoad t (-0) = t := by unfold Wd.addLoad; simp
   rw [this]; exact set_same ht
  rw [e1, e2]; rfl
theorem drop2_none (d : Ded) (w : World) (Z S : Nat) (a : Wd.At) (W : Wd) (h : Shop w Z S a W) (hG : Good W) (hf : W.troops.findIdx? (isId d.who) = none) :
  Calls Try.prog 138 #[.pointer (some ⟨S, 0, none⟩), .agg #[.int .i64 d.kind, .int .i64 d.who, .int .i64 d.spot.x, .int .i64 d.spot.y, .int .i64 d.what]] w (ShopPost W (W.drop d) w Z S a) := by
 have hsl := hG.sl
 have hml := hG.ml
 have hlow := h.low
 have hZ : Z ≤ w.heap.size := by have := h.low; have := h.blk.lt; omega
 have hfar := h.far
 have q0 := h.blk.lt
 have BS := h.blk
 have HO := h.own
 have dS : ∀ q ∈ WOwn.foot a, q = S → False := λ q hq hb => hfar (hb ▸ hq)
 have u_1 := λ q hq => (HO.lt q hq).2
 have htr := trOf_none (a := a) hf
 refine calls_W (n := 80) Try.func138 rfl rfl rfl ?_
 refine sg <| bx rfl rfl rfl rfl λ w_2 b_3 x_4 l_5 B_6 => ?_
 have := x_4.size
 have z_2 := (Mod.rf (S :: WOwn.foot a) w).trans (Mod.of_ext x_4)
 have q_8 := B_6.lt
 refine va rfl <| nK <| sg <| vm rfl <| vL (fa eF20 rfl) <| vL (ld rfl (B_6.one eF5 rfl)) <| ?_
 have BS := BS.later x_4
 have HO := HO.later x_4
 refine ca eF21 rfl rfl (((htr ▸ shopTroop d.who _ Z S a W ⟨BS, HO, hfar, hlow⟩)).mono ?_)
 rintro e w_9 ⟨rfl, x_10⟩
 refine ⟨_, rfl, ?_⟩
 have := x_10.size
 have z_9 := z_2.trans (Mod.of_ext x_10)
 refine va rfl <| nK <| sq <| sq <| ?_
 refine rd [(6, 0), (14, 0), (18, 0), (20, 0), (24, 0), (25, 0)] [0, 1, 2, 3, 4, 5, 6, 7, 8, 9, 10, 11, 12, 13, 14, 15, 16, 17, 18, 19, 20, 21, 22, 23, 24, 25, 26, 27] (by kernel_rfl) (by kernel_rfl) ?_
 refine fw1 rfl (λ _ => mv rfl) <| fw1 rfl (λ _ => bpN Try.underlying197 rfl rfl) <| fw1 rfl (λ _ => mv rfl) <| fW (v := undef) rfl rfl rfl rfl rfl rfl (λ hc => nomatch hc) rfl <| fW (v := undef) rfl rfl rfl rfl rfl rfl (λ hc => nomatch hc) rfl <| fW (v := undef) rfl rfl rfl rfl rfl rfl (λ hc => nomatch hc) rfl <| fQ (v := undef) rfl rfl rfl rfl rfl rfl (λ hc => nomatch hc) rfl <| fW (v := undef) rfl rfl rfl rfl rfl rfl (λ hc => nomatch hc) rfl <| fw1 rfl (λ _ => pkT rfl rfl) <| fw1 rfl (λ _ => mv rfl) <| fW (v := undef) rfl rfl rfl rfl rfl rfl (λ hc => nomatch hc) rfl <| fW (v := undef) rfl rfl rfl rfl rfl rfl (λ hc => nomatch hc) rfl <| fW (v := undef) rfl rfl rfl rfl rfl rfl (λ hc => nomatch hc) rfl <| fW (v := undef) rfl rfl rfl rfl rfl rfl (λ hc => nomatch hc) rfl <| fQ (v := undef) rfl rfl rfl rfl rfl rfl (λ hc => nomatch hc) rfl <| fW (v := undef) rfl rfl rfl rfl rfl rfl (λ hc => nomatch hc) rfl <| fW (v := undef) rfl rfl rfl rfl rfl rfl (λ hc => nomatch hc) rfl <| fW (v := undef) rfl rfl rfl rfl rfl rfl (λ hc => nomatch hc) rfl <| fQ (v := undef) rfl rfl rfl rfl rfl rfl (λ hc => nomatch hc) rfl <| fW (v := undef) rfl rfl rfl rfl rfl rfl (λ hc => nomatch hc) rfl <| fQ (v := undef) rfl rfl rfl rfl rfl rfl (λ hc => nomatch hc) rfl <| fW (v := undef) rfl rfl rfl rfl rfl rfl (λ hc => nomatch hc) rfl <| fW (v := undef) rfl rfl rfl rfl rfl rfl (λ hc => nomatch hc) rfl <| fW (v := undef) rfl rfl rfl rfl rfl rfl (λ hc => nomatch hc) rfl <| ?_
 refine fQ (v := undef) rfl rfl rfl rfl rfl rfl (λ hc => nomatch hc) rfl <| fC (v := undef) (args := []) rfl rfl rfl rfl rfl rfl eF22 (λ hc => nomatch hc) (λ hc => nomatch hc) rfl <| fW (v := undef) rfl rfl rfl rfl rfl rfl (λ hc => nomatch hc) rfl <| fw1 rfl (λ _ => pkT rfl rfl) <| fn λ w_12 x_13 => ?_
 have := x_13.size
 have z_12 := z_9.trans (Mod.of_ext x_13)
 refine nT <| cT rfl <| sg <| va rfl <| nK <| rt <| tT <| tR (.tmp rfl .nil) <| ?_
 have HO := HO.later (eT x_10 x_13)
 have BS := BS.later (eT x_10 x_13)
 exact ⟨a, by rw [drop_none hf]; rfl, by rw [drop_none hf]; exact ⟨BS, HO, hfar, hlow⟩, λ q hq => .inl hq, z_12⟩
theorem drop2 (d : Ded) (w : World) (Z S : Nat) (a : Wd.At) (W : Wd) (h : Shop w Z S a W) (hG : Good W) (k : Nat) (t : Trp) (hf : W.troops.findIdx? (isId d.who) = some k) (ht : W.troops[k]? = some t) :
  Calls Try.prog 138 #[.pointer (some ⟨S, 0, none⟩), .agg #[.int .i64 d.kind, .int .i64 d.who, .int .i64 d.spot.x, .int .i64 d.spot.y, .int .i64 d.what]] w (ShopPost W (W.drop d) w Z S a) := by
 have hsl := hG.sl
 have hml := hG.ml
 have hlow := h.low
 have hZ : Z ≤ w.heap.size := by have := h.low; have := h.blk.lt; omega
 have hfar := h.far
 have q0 := h.blk.lt
 have BS := h.blk
 have HO := h.own
 have dS : ∀ q ∈ WOwn.foot a, q = S → False := λ q hq hb => hfar (hb ▸ hq)
 have u_1 := λ q hq => (HO.lt q hq).2
 have htr := trOf_some HO hf
 have hT := hG.troops k t ht
 have how := hT.owner
 obtain ⟨b, hb⟩ := get_of (l := W.bases) (i := t.owner.toNat) (by omega)
 obtain ⟨sv, hs⟩ := get_of (l := W.stocks) (i := t.owner.toNat) (by omega)
 have hsr := hG.stocks _ _ hs
 have hbg := hG.bases _ _ hb
 obtain ⟨i1, i2, i3, i4, i5, i6⟩ := Fld.idx hG.field (Fld.ground_in hbg.1)
 obtain ⟨y1, y2, y3, y4, _, _⟩ := Fld.good hG.field
 have hb1 : 0 ≤ b.x := by omega
 have hb2 : b.x ≤ 40 := by omega
 have hb3 : 0 ≤ b.y := by omega
 have hb4 : b.y ≤ 40 := by omega
 have hld := hT.load
 have hmo : Wd.mostOf t.kind ≤ 5 := by unfold Wd.mostOf; split <;> omega
 refine calls_W (n := 80) Try.func138 rfl rfl rfl ?_
 refine sg <| bx rfl rfl rfl rfl λ w_2 b_3 x_4 l_5 B_6 => ?_
 have := x_4.size
 have z_2 := (Mod.rf (S :: WOwn.foot a) w).trans (Mod.of_ext x_4)
 have q_8 := B_6.lt
 refine va rfl <| nK <| sg <| vm rfl <| vL (fa eF20 rfl) <| vL (ld rfl (B_6.one eF5 rfl)) <| ?_
 have BS := BS.later x_4
 have HO := HO.later x_4
 refine ca eF21 rfl rfl (((htr ▸ shopTroop d.who _ Z S a W ⟨BS, HO, hfar, hlow⟩)).mono ?_)
 rintro e w_9 ⟨rfl, x_10⟩
 refine ⟨_, rfl, ?_⟩
 have := x_10.size
 have z_9 := z_2.trans (Mod.of_ext x_10)
 refine va rfl <| nK <| sq <| sq <| ?_
 refine rd [(6, 0), (14, 0), (18, 0), (20, 0), (24, 0), (25, 0)] [0, 1, 2, 3, 4, 5, 6, 7, 8, 9, 10, 11, 12, 13, 14, 15, 16, 17, 18, 19, 20, 21, 22, 23, 24, 25, 26, 27] (by kernel_rfl) (by kernel_rfl) ?_
 refine fw1 rfl (λ _ => mv rfl) <| fw1 rfl (λ _ => bpN Try.underlying197 rfl rfl) <| fw1 rfl (λ _ => mv rfl) <| fW rfl rfl rfl rfl rfl rfl (λ hc _ => mv rfl) rfl <| fW rfl rfl rfl rfl rfl rfl (λ hc _ => nc rfl) rfl <| fW rfl rfl rfl rfl rfl rfl (λ hc _ => fa eF24 rfl) rfl <| ?_
 have HO := HO.later x_10
 refine fQ rfl rfl rfl rfl rfl rfl (λ hc _ x => ld rfl (Rep.SHas.fld hcT (by rw [← (HO.later x).T.has.adr (zl k (by have := (List.getElem?_eq_some_iff.1 ht).1; simpa using this))]; exact (HO.later x).T.has) 6 ht rfl eF5)) rfl <| fW rfl rfl rfl rfl rfl rfl (λ hc _ => beq rfl rfl) rfl <| fw1 rfl (λ _ => pkF rfl rfl) <| fw1 rfl (λ _ => mv rfl) <| fW rfl rfl rfl rfl rfl rfl (λ hc _ => mv rfl) rfl <| fW rfl rfl rfl rfl rfl rfl (λ hc _ => nc (gt hc rfl)) rfl <| fW rfl rfl rfl rfl rfl rfl (λ hc _ => fa eF27 (gt hc rfl)) rfl <| fW rfl rfl rfl rfl rfl rfl (λ hc _ => fa eF31 (gt hc rfl)) rfl <| ?_
 have BS := BS.later x_10
 refine fQ rfl rfl rfl rfl rfl rfl (λ hc _ x => ld (gt hc rfl) ((BS.later x).one eF32 rfl)) rfl <| fW rfl rfl rfl rfl rfl rfl (λ hc _ => mv rfl) rfl <| fW rfl rfl rfl rfl rfl rfl (λ hc _ => nc (gt hc rfl)) rfl <| fW rfl rfl rfl rfl rfl rfl (λ hc _ => fa eF33 (gt hc rfl)) rfl <| fQ rfl rfl rfl rfl rfl rfl (λ hc _ x => ld (gt hc rfl) (Rep.SHas.fld hcT (by rw [← (HO.later x).T.has.adr (zl k (by have := (List.getElem?_eq_some_iff.1 ht).1; simpa using this))]; exact (HO.later x).T.has) 1 ht rfl eF5)) rfl <| fW rfl rfl rfl rfl rfl rfl (λ hc _ => iA t.owner.toNat Try.underlying55 eF8 (gt hc rfl) (gt hc rfl) (HO.B.has.adr (zl t.owner.toNat (show t.owner.toNat < W.bases.length by omega))) (by (try simp only [bS] at hc); omega) (show t.owner.toNat < W.bases.length by omega)) rfl <| fQ rfl rfl rfl rfl rfl rfl (λ hc _ x => ld (gt hc rfl) (Rep.SHas.elt hcC (by rw [← (HO.later x).B.has.adr (zl t.owner.toNat (show t.owner.toNat < W.bases.length by omega))]; exact (HO.later x).B.has) hb eF7 eF8)) rfl <| fW rfl rfl rfl rfl rfl rfl (λ hc _ => mv rfl) rfl <| fW rfl rfl rfl rfl rfl rfl (λ hc _ => nc (gt hc rfl)) rfl <| fW rfl rfl rfl rfl rfl rfl (λ hc _ => fa eF25 (gt hc rfl)) rfl <| fQ rfl rfl rfl rfl rfl rfl (λ hc _ x => ld (gt hc rfl) (Rep.SHas.part hcT (by rw [← (HO.later x).T.has.adr (zl k (by have := (List.getElem?_eq_some_iff.1 ht).1; simpa using this))]; exact (HO.later x).T.has) 3 (ds := [.int .i64 t.spot.x, .int .i64 t.spot.y]) ht rfl eF7 eF8)) rfl <| fC rfl rfl rfl rfl rfl rfl eF22 (λ hc => ec (gt hc rfl) (ec (gt hc rfl) rfl)) (λ hc _ x => beside_any b t.spot _ hb1 hb2 hb3 hb4) rfl <| fW rfl rfl rfl rfl rfl rfl (λ hc _ => nt (gt hc rfl)) rfl <| fw1 rfl (λ _ => pO rfl rfl rfl rfl) <| fn λ w_12 x_13 => ?_
 have := x_13.size
 have z_12 := z_9.trans (Mod.of_ext x_13)
 refine nT <| ?_
 refine cb rfl (λ h_15 => ?_) (λ h_15 => ?_)
 ·refine sg <| va rfl <| nK <| rt <| tT <| tR (.tmp rfl .nil) <| ?_
  have HO := HO.later x_13
  have BS := BS.later x_13
  exact ⟨a, by rw [drop_no hf ht hb hs h_15]; rfl, by rw [drop_no hf ht hb hs h_15]; exact ⟨BS, HO, hfar, hlow⟩, λ q hq => .inl hq, z_12⟩
 ·simp only [Bool.or_eq_false_iff, beq_eq_false_iff_ne, Bool.not_eq_false', ne_eq] at h_15
  obtain ⟨hl, hbe⟩ := h_15
  have ht2 : (W.troops.set k (Wd.addLoad t (-(min t.load (1000000 - sv)))))[k]? = some (Wd.addLoad t (-(min t.load (1000000 - sv)))) := List.getElem?_set_self (List.getElem?_eq_some_iff.1 ht).1
  refine sK <| sq <| ?_
  refine rd [(3, 0), (8, 0), (12, 0), (14, 0)] [0, 1, 2, 3, 4, 5, 6, 7, 8, 9, 10, 11, 12, 13, 14, 15, 16, 17] (by kernel_rfl) (by kernel_rfl) ?_
  refine fw1 rfl (λ _ => mv rfl) <| fw1 rfl (λ _ => nc rfl) <| fw1 rfl (λ _ => fa eF24 rfl) <| ?_
  have HO := HO.later x_13
  refine fq1 rfl (λ _ x => ld rfl (Rep.SHas.fld hcT (by rw [← (HO.later x).T.has.adr (zl k (by have := (List.getElem?_eq_some_iff.1 ht).1; simpa using this))]; exact (HO.later x).T.has) 6 ht rfl eF5)) <| fw1 rfl (λ _ => mv rfl) <| fw1 rfl (λ _ => nc rfl) <| fw1 rfl (λ _ => fa eF27 rfl) <| fw1 rfl (λ _ => fa eF34 rfl) <| ?_
  have BS := BS.later x_13
  refine fq1 rfl (λ _ x => ld rfl ((BS.later x).one eF30 rfl)) <| fw1 rfl (λ _ => mv rfl) <| fw1 rfl (λ _ => nc rfl) <| fw1 rfl (λ _ => fa eF33 rfl) <| fq1 rfl (λ _ x => ld rfl (Rep.SHas.fld hcT (by rw [← (HO.later x).T.has.adr (zl k (by have := (List.getElem?_eq_some_iff.1 ht).1; simpa using this))]; exact (HO.later x).T.has) 1 ht rfl eF5)) <| fw1 rfl (λ _ => iA t.owner.toNat Try.underlying42 eF11 rfl rfl (HO.S.has.adr (zl t.owner.toNat (show t.owner.toNat < W.stocks.length by omega))) (by omega) (show t.owner.toNat < W.stocks.length by omega)) <| fq1 rfl (λ _ x => ld rfl (Rep.SHas.one' hcI (by rw [← (HO.later x).S.has.adr (zl t.owner.toNat (show t.owner.toNat < W.stocks.length by omega))]; exact (HO.later x).S.has) hs rfl eF5)) <| fw1 rfl (λ _ => bsu rfl rfl (inI (by omega))) <| fw1 rfl (λ _ => mn rfl rfl) <| fw1 rfl (λ _ => as_ rfl) <| fn λ w_16 x_17 => ?_
  have := x_17.size
  have z_16 := z_12.trans (Mod.of_ext x_17)
  refine nT <| sg <| vm rfl <| vL (nc rfl) <| vL (fa eF24 rfl) <| ?_
  have HO := HO.later x_17
  refine vL (ld rfl (Rep.SHas.fld hcT (by rw [← HO.T.has.adr (zl k (by have := (List.getElem?_eq_some_iff.1 ht).1; simpa using this))]; exact HO.T.has) 6 ht rfl eF5)) <| vm rfl <| vL (bsu rfl rfl (inI (by omega))) <| vL (nc rfl) <| vL (fa eF24 rfl) <| so (q' := Wd.addLoad t (-(min t.load (1000000 - sv)))) (j := 6) (i := k) HO.T Rep.flat_bare ht rfl rfl rfl rfl (λ _ cs h => by have ok_ := (show _ ∧ _ from h).2; obtain rfl := hcT h; exact ⟨rfl, by obtain ⟨o1, o2, o3, o4, o5, o6, o7⟩ := ok_; exact ⟨o1, o2, o3, o4, o5, o6, okI_iff.2 (by show _ ≤ t.load + -(min t.load (1000000 - sv)) ∧ t.load + -(min t.load (1000000 - sv)) ≤ _; omega)⟩⟩) rfl rfl eF11 λ w_19 m_20 O_21 => ?_
  have BS := BS.later x_17
  have B_6 := B_6.later (eT x_10 (eT x_13 x_17))
  have := m_20.size
  have z_19 := z_16.md m_20 (λ q hq => .inl (List.mem_cons_of_mem _ (foot_T hq)))
  have HO_23 := HO.setT m_20 O_21
  have u_24 := λ q hq => (HO_23.lt q hq).2
  have d_25 : ∀ q ∈ Rep.blkOf a.T, q = S → False := λ q hq hb => by (exact dS q (foot_T hq) hb)
  have BS := BS.mod m_20 (λ hq => d_25 _ hq rfl)
  refine nK <| sq <| ?_
  refine rd [(4, 0), (8, 0), (10, 0), (14, 3)] [0, 1, 2, 3, 4, 5, 6, 7, 8, 9, 10, 11, 12, 13, 14] (by kernel_rfl) (by kernel_rfl) ?_
  refine fw1 rfl (λ _ => mv rfl) <| fw1 rfl (λ _ => nc rfl) <| fw1 rfl (λ _ => fa eF27 rfl) <| fw1 rfl (λ _ => fa eF34 rfl) <| fq1 rfl (λ _ x => ld rfl ((BS.later x).one eF30 rfl)) <| fw1 rfl (λ _ => mv rfl) <| fw1 rfl (λ _ => nc rfl) <| fw1 rfl (λ _ => fa eF33 rfl) <| fq (v := .int .i64 t.owner) rfl rfl (λ _ x => ld rfl (Rep.SHas.fld hcT (by rw [← (HO_23.later x).T.has.adr (zl k (by have := (List.getElem?_eq_some_iff.1 ht).1; simpa using this))]; exact (HO_23.later x).T.has) 1 ht2 rfl eF5)) rfl <| fw1 rfl (λ _ => iA t.owner.toNat Try.underlying42 eF11 rfl rfl (HO_23.S.has.adr (zl t.owner.toNat (show t.owner.toNat < W.stocks.length by omega))) (by omega) (show t.owner.toNat < W.stocks.length by omega)) <| fq1 rfl (λ _ x => ld rfl (Rep.SHas.one' hcI (by rw [← (HO_23.later x).S.has.adr (zl t.owner.toNat (show t.owner.toNat < W.stocks.length by omega))]; exact (HO_23.later x).S.has) hs rfl eF5)) <| fw1 rfl (λ _ => mv rfl) <| fw1 rfl (λ _ => bad rfl rfl (inI (by omega))) <| fw1 rfl (λ _ => iA t.owner.toNat Try.underlying42 eF11 rfl rfl (HO_23.S.has.adr (zl t.owner.toNat (show t.owner.toNat < W.stocks.length by omega))) (by omega) (show t.owner.toNat < W.stocks.length by omega)) <| fb rfl rfl rfl λ w_26 x_27 Q hK => so (q' := sv + min t.load (1000000 - sv)) (j := 0) (i := t.owner.toNat) (HO_23.later x_27).S Rep.flat_bare hs rfl rfl rfl rfl (λ _ cs h => by have ok_ := (show _ ∧ _ from h).2; obtain rfl := hcI h; exact ⟨rfl, okI_iff.2 (by omega)⟩) rfl rfl eF11 λ w_28 m_29 O_30 => hK _ _ ?_
  have := x_27.size
  have z_26 := z_19.trans (Mod.of_ext x_27)
  have HO_23 := HO_23.later x_27
  have BS := BS.later x_27
  have d_32 : ∀ q ∈ Rep.blkOf a.T, q = b_3 → False := λ q hq hb => by (have := u_1 q (foot_T hq); omega)
  have B_6 := B_6.mod m_20 (λ hq => d_32 _ hq rfl)
  have B_6 := B_6.later x_27
  have := m_29.size
  have z_28 := z_26.md m_29 (λ q hq => .inl (List.mem_cons_of_mem _ (foot_S hq)))
  have HO_34 := HO_23.setS m_29 O_30
  have u_35 := λ q hq => (HO_34.lt q hq).2
  have d_36 : ∀ q ∈ Rep.blkOf a.S, q = S → False := λ q hq hb => by (exact dS q (foot_S hq) hb)
  have BS := BS.mod m_29 (λ hq => d_36 _ hq rfl)
  refine fn λ w_37 x_38 => ?_
  have := x_38.size
  have z_37 := z_28.trans (Mod.of_ext x_38)
  refine nT <| sg <| vm rfl <| vL (bgt rfl rfl) <| va rfl <| nK <| rt <| tR (.tmp rfl .nil) <| ?_
  have HO_34 := HO_34.later x_38
  have BS := BS.later x_38
  obtain ⟨e1, e2⟩ := drop_val2 hf ht hb hs hl hbe hG
  exact ⟨a, by rw [e1]; rfl, by rw [e2]; exact ⟨by simpa [Wd.cells] using BS, HO_34, hfar, hlow⟩, λ q hq => .inl hq, z_37⟩
end
end Go.Proofs.Ytccankldeogdlaa
