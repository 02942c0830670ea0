import Derived.Test.YtccankldeogdlaaGra
import Derived.Test.YtccankldeogdlaaHitP
import Derived.Test.YtccankldeogdlaaBlw
import Derived.Test.YtccankldeogdlaaGol
import Derived.Test.YtccankldeogdlaaTck
set_option linter.unusedVariables false
set_option linter.unusedSimpArgs false
set_option maxRecDepth 100000
set_option maxHeartbeats 4000000
namespace Go.Proofs.Ytccankldeogdlaa
section
open Go.RowKit
theorem sum_set {l : List Int} {k : Nat} {x : Int} (h : k < l.length) : (l.set k x).sum = l.sum + x - l.getD k 0 := by
 induction l generalizing k with
 | nil => simp at h
 | cons y r ih =>
  cases k with
  | zero => simp; omega
  | succ k => simp only [List.set_cons_succ, List.sum_cons, List.getD_cons_succ]; rw [ih (by simpa using h)]; omega
theorem wt_set {l : List Trp} {k : Nat} {x t : Trp} (h : l[k]? = some t) : ((l.set k x).map wt).sum = (l.map wt).sum + wt x - wt t := by
 rw [List.map_set]
 have hk := (List.getElem?_eq_some_iff.1 h).1
 have e : (l.map wt).getD k 0 = wt t := by rw [List.getD_eq_getElem?_getD, List.getElem?_map, h]; rfl
 rw [sum_set (by simpa using hk), e]
theorem total_deed {W V : Wd} {d : Ded} (h : Good W) (hd : W.deed d = some V) : V.total = W.total := by
 unfold Wd.deed at hd
 split at hd
 ·obtain ⟨k, t, _, ht, _, hk, hl, _, hin, hm0, rfl⟩ := mine_some hd
  obtain ⟨i1, i2, _⟩ := Fld.idx h.field hin
  have hlt : W.place d.spot < W.mines.length := by rw [h.ml]; unfold Wd.place; omega
  unfold Wd.total
  simp only [sum_set hlt, wt_set ht, wt, Wd.addLoad]
  omega
 ·split at hd
  ·obtain ⟨k, t, n, _, ht, _, hl, _, hn, hn0, rfl⟩ := drop_some hd
   have h1 := h.troops k t ht
   have hlt : t.owner.toNat < W.stocks.length := by rw [h.sl]; have := h1.owner; omega
   unfold Wd.total
   simp only [sum_set hlt, wt_set ht, wt, Wd.addLoad]
   omega
  ·split at hd
   ·obtain ⟨c, hfr, hw0, hw1, hk, hp, hnt, hnx, rfl⟩ := hire_some hd
    have hlt : d.who.toNat < W.stocks.length := by rw [h.sl]; omega
    unfold Wd.total
    simp only [sum_set hlt, List.map_append, List.sum_append, List.map_cons, List.map_nil, List.sum_cons, List.sum_nil, wt]
    omega
   ·cases hd
theorem total_deeds {W : Wd} (h : Good W) : ∀ l : List Ded, (W.deeds l).1.total = W.total := by
 intro l
 induction l generalizing W with
 | nil => rfl
 | cons d l ih =>
  simp only [Wd.deeds]
  cases hd : W.deed d with
  | none => exact ih h
  | some V => exact (ih (h.deed hd)).trans (total_deed h hd)
structure Kept (W V : Wd) : Prop where
 field : V.field = W.field
 bases : V.bases = W.bases
 now : V.now = W.now
 next : V.next = W.next + ((V.troops.length : Int) - W.troops.length)
 len : W.troops.length ≤ V.troops.length
 old : ∀ (i : Nat) (t : Trp), W.troops[i]? = some t → ∃ u : Trp, V.troops[i]? = some u ∧ { u with load := t.load } = t
 new : ∀ (i : Nat) (u : Trp), W.troops.length ≤ i → V.troops[i]? = some u → W.next ≤ u.id
theorem Kept.rf (W : Wd) : Kept W W := ⟨rfl, rfl, rfl, by omega, Nat.le_refl _, fun i t h => ⟨t, h, rfl⟩, fun i u h hu => by
 rw [List.getElem?_eq_none (by omega)] at hu; cases hu⟩
theorem Kept.tr {U V W : Wd} (h : Kept U V) (k : Kept V W) : Kept U W where
 field := k.field.trans h.field
 bases := k.bases.trans h.bases
 now := k.now.trans h.now
 next := by rw [k.next, h.next]; omega
 len := Nat.le_trans h.len k.len
 old i t ht := by
  obtain ⟨u, hu, e⟩ := h.old i t ht
  obtain ⟨x, hx, e2⟩ := k.old i u hu
  refine ⟨x, hx, ?_⟩
  rw [← e, ← e2]
 new i u hi hu := by
  by_cases h1 : i < V.troops.length
  ·obtain ⟨t, ht⟩ := get_of h1
   obtain ⟨x, hx, e⟩ := k.old i t ht
   rw [hu] at hx
   obtain rfl := Option.some.inj hx
   have := h.new i t hi ht
   have e3 : t.id = u.id := by rw [← e]
   omega
  ·have h2 := k.new i u (by omega) hu
   have := h.next
   have := h.len
   omega
theorem kept_load {W V : Wd} {k : Nat} {t : Trp} {n : Int} (ht : W.troops[k]? = some t) (hf : V.field = W.field) (hb : V.bases = W.bases) (hn : V.now = W.now) (hx : V.next = W.next) (hV : V.troops = W.troops.set k (Wd.addLoad t n)) : Kept W V where
 field := hf
 bases := hb
 now := hn
 next := by rw [hV, List.length_set, hx]; omega
 len := by rw [hV, List.length_set]; exact Nat.le_refl _
 old i x hi := by
  rw [hV]
  by_cases hk : k = i
  ·subst hk
   rw [ht] at hi
   obtain rfl := Option.some.inj hi
   exact ⟨_, List.getElem?_set_self (List.getElem?_eq_some_iff.1 ht).1, rfl⟩
  ·exact ⟨x, by rw [List.getElem?_set_ne hk]; exact hi, rfl⟩
 new i u hi hu := by
  rw [hV, List.getElem?_eq_none (by rw [List.length_set]; exact hi)] at hu; cases hu
theorem kept_deed {W V : Wd} {d : Ded} (h : Good W) (hd : W.deed d = some V) : Kept W V := by
 unfold Wd.deed at hd
 split at hd
 ·obtain ⟨k, t, _, ht, _, hk, hl, _, hin, hm0, rfl⟩ := mine_some hd
  exact kept_load ht rfl rfl rfl rfl rfl
 ·split at hd
  ·obtain ⟨k, t, n, _, ht, _, hl, _, hn, hn0, rfl⟩ := drop_some hd
   exact kept_load ht rfl rfl rfl rfl rfl
  ·split at hd
   ·obtain ⟨c, hfr, hw0, hw1, hk, hp, hnt, hnx, rfl⟩ := hire_some hd
    refine ⟨rfl, rfl, rfl, by simp; omega, by simp, fun i t ht => ⟨t, ?_, rfl⟩, fun i u hi hu => ?_⟩
    ·simp only
     rw [List.getElem?_append_left (List.getElem?_eq_some_iff.1 ht).1]; exact ht
    ·simp only at hu
     rw [List.getElem?_append_right hi] at hu
     have h0 : i - W.troops.length = 0 := by
      have := (List.getElem?_eq_some_iff.1 hu).1
      simp at this; omega
     rw [h0] at hu
     have e : u = ⟨W.next, d.who, d.what, c, Wd.lifeOf d.what, 0⟩ := by simpa using hu.symm
     rw [e]; exact Int.le_refl _
   ·cases hd
theorem kept_deeds {W : Wd} (h : Good W) : ∀ l : List Ded, Kept W (W.deeds l).1 := by
 intro l
 induction l generalizing W with
 | nil => exact Kept.rf W
 | cons d l ih =>
  simp only [Wd.deeds]
  cases hd : W.deed d with
  | none => exact ih h
  | some V => exact (kept_deed h hd).tr (ih (h.deed hd))
theorem Kept.getD {W V : Wd} (h : Kept W V) {i : Nat} (hi : i < W.troops.length) : { V.troops.getD i default with load := (W.troops.getD i default).load } = W.troops.getD i default := by
 obtain ⟨t, ht⟩ := get_of hi
 obtain ⟨u, hu, e⟩ := h.old i t ht
 rw [List.getD_eq_getElem?_getD, List.getD_eq_getElem?_getD, ht, hu]
 exact e
theorem do_of {W : Wd} {l : List Ded} (h : W.doE l = 0) : Good W ∧ l.length ≤ 200 ∧ W.doW l = (W.deeds l).1 ∧ W.doB l = (W.deeds l).2 := by
 have hc : W.chk = 0 := by
  cases hd : decide (W.chk = 0) with
  | true => simpa using hd
  | false => have := (do_bad (W := W) (l := l) (by simpa using hd)).2.2; rw [h] at this; exact this.symm
 have hl : l.length ≤ 200 := by
  cases hd : decide (l.length ≤ 200) with
  | true => simpa using hd
  | false => have := (do_large (W := W) (l := l) hc (by simpa using hd)).2.2; rw [h] at this; cases this
 exact ⟨Good.of_chk hc, hl, do_ok1 hc hl, do_ok2 hc hl⟩
def picked : List Ded → List Bool → List Ded
 | d :: l, b :: bs => if b then d :: picked l bs else picked l bs
 | _, _ => []
end
section
open Go.RowKit
theorem struck_nil {W : Wd} (h : W.chk = 0) : struckW W [] = W ∧ struckG W [] = [] := by
 have e1 := blowE_mk (l := []) h (by decide)
 have hS := struck_of e1
 have hh : harmW W [] = List.replicate W.troops.length 0 := by unfold harmW; rw [e1]; rfl
 have hu : hurts W [] = W.troops := by
  apply List.ext_getElem?
  intro i
  cases ht : W.troops[i]? with
  | none =>
   have := List.getElem?_eq_none_iff.1 ht
   rw [List.getElem?_eq_none (by rw [hurts_len]; exact this)]
  | some t =>
   rw [hurts_get ht, hh]
   have : (List.replicate W.troops.length (0 : Int)).getD i 0 = 0 := by
    rw [List.getD_eq_getElem?_getD, List.getElem?_replicate]; split <;> rfl
   rw [this, Int.sub_zero]
 have hf : ∀ t ∈ W.troops, 0 < t.life := fun t ht => by have := (hS.good.each ht).2.2.life; omega
 constructor
 ·rw [hS.hW, hu, List.filter_eq_self.2 fun t ht => decide_eq_true (hf t ht)]
 ·rw [hS.hG, hu, List.filter_eq_nil_iff.2 fun t ht => by simp [hf t ht]]; rfl
theorem stS_nil {f : Fld} {T : List Trp} : ∀ k, stS f [] T k = (T, [])
 | 0 => rfl
 | k + 1 => stS_none (stS_nil k) (step1_n1 (by show idxI _ ([] : List Gox) < 0; unfold idxI; simp))
theorem march_nil {W : Wd} (h : W.chk = 0) : marchW W [] = W ∧ marchM W [] = [] := by
 obtain ⟨e1, e2, e3⟩ := march_ok (W := W) (l := []) h (by decide)
 rw [e2, e3]
 unfold Wd.stepped
 rw [stS_nil]; exact ⟨rfl, rfl⟩
theorem turn_now {W : Wd} {l : List Odr} (h : turnE W l = 0) : (turn3 W l).now = W.now := by
 obtain ⟨e1, e2, e3, g1, g2, g3⟩ := turn_dat h
 have h1 : (turn1 W l).now = W.now := by unfold turn1; rw [(struck_of e1).hW]
 have h2 : (turn2 W l).now = (turn1 W l).now := by unfold turn2; rw [(march_right e2).2.2.2.1]
 have h3 : (turn3 W l).now = (turn2 W l).now := by unfold turn3; rw [(do_of e3).2.2.1]; exact (kept_deeds g2 _).now
 rw [h3, h2, h1]
theorem turn_right {W : Wd} {l : List Odr} (h : turnE W l = 0) : (turnW W l).chk = 0 ∧ (turnW W l).now = W.now + 1 ∧ sortedI (turnG W l) = true ∧ sortedI (turnM W l) = true := by
 obtain ⟨h1, h2, h3, h4⟩ := turnE_zero h
 obtain ⟨e1, e2, e3, g1, g2, g3⟩ := turn_dat h
 obtain ⟨z1, z2, z3, z4⟩ := turn_yes h
 have hn := turn_now h
 have hn0 := (Good.of_chk h3).now
 rw [z1, z2, z3]
 refine ⟨Good.chk { g3 with now := ⟨?_, ?_⟩ }, ?_, (struck_of e1).sorted, (march_right e2).2.2.1⟩
 ·show 0 ≤ (turn3 W l).now + 1; omega
 ·show (turn3 W l).now + 1 ≤ 1000000; omega
 ·show (turn3 W l).now + 1 = _; omega
def tickL : List Odr := [⟨0, 3, 1, ⟨2, 0⟩, 0⟩]
def tickV : Wd := ⟨⟨3, 1, [0, 0, 3]⟩, [⟨0, 0⟩], [20], [0, 0, 8], [⟨1, 0, 1, ⟨1, 0⟩, 10, 1⟩], 2, 1⟩
theorem turn_small : turnE smallW tickL = 0 ∧ turnW smallW tickL = tickV ∧ turnG smallW tickL = [] ∧ turnM smallW tickL = [] ∧ turnD smallW tickL = [true] := by
 have hc : smallW.chk = 0 := by decide +kernel
 have eB : splB smallW tickL tickL.length = [] := by decide +kernel
 have eG : splG smallW tickL tickL.length = [] := by decide +kernel
 have eD : splD smallW tickL tickL.length = [⟨1, 1, ⟨2, 0⟩, 0⟩] := by decide +kernel
 have e1 : turnE smallW tickL = 0 := by decide +kernel
 obtain ⟨z1, z2, z3, z4⟩ := turn_yes e1
 obtain ⟨s1, s2⟩ := struck_nil hc
 have t1 : turn1 smallW tickL = smallW := by unfold turn1; rw [eB]; exact s1
 obtain ⟨m1, m2⟩ := march_nil hc
 have t2 : turn2 smallW tickL = smallW := by unfold turn2; rw [t1, eG]; exact m1
 have t3 : turn3 smallW tickL = smallW.doW [⟨1, 1, ⟨2, 0⟩, 0⟩] := by unfold turn3; rw [t2, eD]
 have hd : smallW.doW [⟨1, 1, ⟨2, 0⟩, 0⟩] = { tickV with now := 0 } := by decide +kernel
 refine ⟨e1, ?_, ?_, ?_, ?_⟩
 ·rw [z1, t3, hd]; rfl
 ·rw [z2, eB]; exact s2
 ·rw [z3, t1, eG]; exact m2
 ·rw [z4, t2, eD]; decide +kernel
end
section
open Go.RowKit
theorem turn_small_any (A : Option Addr) (c : Nat) (w : World) (a : Wd.At) (hW : Wd.Has w a smallW) (hl : Odr.rep.SHas 48 w A c [(⟨0, 3, 1, ⟨2, 0⟩, 0⟩ : Odr)]) :
  Calls Try.prog 27 #[.agg (Wd.cells a smallW).toArray, .slice A 1 c] w (fun e w' => ∃ a' A0 c0 A1 c1 A2 c2, e = .returned (.tuple #[.agg (Wd.cells a' tickV).toArray, .agg #[.slice A0 0 c0, .slice A1 0 c1, .slice A2 1 c2], .int .i64 0]) ∧ WOwn w' w.heap.size a' tickV ∧
   repI.SOwn 3 8 w' w.heap.size (Rep.blkOf A0) A0 c0 ([] : List Int) ∧ repI.SOwn 3 8 w' w.heap.size (Rep.blkOf A1) A1 c1 ([] : List Int) ∧ repB.SOwn 4 1 w' w.heap.size (Rep.blkOf A2) A2 c2 [true] ∧
   (∀ q, (q ∈ Rep.blkOf A0 ∨ q ∈ Rep.blkOf A1 ∨ q ∈ Rep.blkOf A2) → q ∉ WOwn.foot a') ∧ Ext w w') := by
 refine (turn_any a smallW A c tickL w hW hl).mono ?_
 rintro e w' ⟨a', A0, c0, A1, c1, A2, c2, rfl, h1, h2, h3, h4, h5, h6⟩
 obtain ⟨e1, e2, e3, e4, e5⟩ := turn_small
 rw [e1, e2, e3, e4, e5]
 rw [e2] at h1
 rw [e3] at h2
 rw [e4] at h3
 rw [e5] at h4
 exact ⟨a', A0, c0, A1, c1, A2, c2, rfl, h1, h2, h3, h4, h5, h6⟩
theorem tickLives_any  (w : World) :
  Calls Try.prog 28 #[] w (fun e w' => e = .returned (.bool true) ∧ Ext w w') := by
 refine calls_W (n := 40) Try.func28 rfl rfl rfl ?_
 refine sq <| rg <| vl (as_ rfl) rfl <| nl <| nT <| sq <| rg <| ca eF164 rfl rfl ((small_any _).mono ?_)
 rintro e w_4 ⟨a_1, rfl, HO_1, x_5⟩
 refine ⟨_, rfl, ?_⟩
 have q_6 := x_5.size
 have z_4 := Ext.tr (Ext.rf w) x_5
 have u_2 := fun q hq => (HO_1.lt q hq).2
 have lo_3 := fun q hq => (HO_1.lt q hq).1
 refine vl (v := .agg #[.int .i64 2, .int .i64 0]) (bd rfl (by kernel_rfl)) rfl <| vl (v := .agg #[.int .i64 0, .int .i64 3, .int .i64 1, .int .i64 2, .int .i64 0, .int .i64 0]) (bd rfl (by kernel_rfl)) rfl <| bs (e := 72) (cs := [.int .i64 0, .int .i64 3, .int .i64 1, .int .i64 2, .int .i64 0, .int .i64 0]) rfl (fun _ => by kernel_rfl) rfl fun w_7 b_8 x_9 l_10 B_11 => ?_
 have q_12 := x_9.size
 have z_7 := Ext.tr z_4 x_9
 have q_13 := B_11.lt
 have HO_1 := HO_1.later x_9
 refine ca eF165 rfl rfl ((turn_small_any _ _ _ _ HO_1.has (Blk.hasN (R := Odr.rep) (by_ := 48) (k := [(⟨0, 3, 1, ⟨2, 0⟩, 0⟩ : Odr)]) B_11 [[.int .i64 0, .int .i64 3, .int .i64 1, .int .i64 2, .int .i64 0, .int .i64 0]] rfl (⟨⟨rfl, ⟨okI_iff.2 (by (try dsimp only); omega), okI_iff.2 (by (try dsimp only); omega), okI_iff.2 (by (try dsimp only); omega), okI_iff.2 (by (try dsimp only); omega), okI_iff.2 (by (try dsimp only); omega), okI_iff.2 (by (try dsimp only); omega)⟩⟩, trivial⟩) (by simp) (by simp))).mono ?_)
 rintro e w_31 ⟨a14, A140, c140, A141, c141, A142, c142, rfl, HO14, OR140, OR141, OR142, hd14, x_32⟩
 refine ⟨_, rfl, ?_⟩
 have q_33 := x_32.size
 have z_31 := Ext.tr z_7 x_32
 have u_15 := fun q hq => (HO14.lt q hq).2
 have lo_16 := fun q hq => (HO14.lt q hq).1
 have u_17 := fun q hq => (OR140.lt q hq).2
 have lo_18 := fun q hq => (OR140.lt q hq).1
 have u_19 := fun q hq => (OR141.lt q hq).2
 have lo_20 := fun q hq => (OR141.lt q hq).1
 have u_21 := fun q hq => (OR142.lt q hq).2
 have lo_22 := fun q hq => (OR142.lt q hq).1
 have dd140 : ∀ q ∈ Rep.blkOf A140, q ∈ WOwn.foot a14 → False := fun q hq => hd14 q (.inl hq)
 have dw140 : ∀ q ∈ WOwn.foot a14, q ∈ Rep.blkOf A140 → False := fun q h1 h2 => dd140 q h2 h1
 have dd141 : ∀ q ∈ Rep.blkOf A141, q ∈ WOwn.foot a14 → False := fun q hq => hd14 q (.inr (.inl hq))
 have dw141 : ∀ q ∈ WOwn.foot a14, q ∈ Rep.blkOf A141 → False := fun q h1 h2 => dd141 q h2 h1
 have dd142 : ∀ q ∈ Rep.blkOf A142, q ∈ WOwn.foot a14 → False := fun q hq => hd14 q (.inr (.inr hq))
 have dw142 : ∀ q ∈ WOwn.foot a14, q ∈ Rep.blkOf A142 → False := fun q h1 h2 => dd142 q h2 h1
 refine vl (mv rfl) rfl <| vl (ex rfl rfl) rfl <| vl (ex rfl rfl) rfl <| vl (ex rfl rfl) rfl <| al rfl eF80 rfl rfl fun w_34 b_35 x_36 l_37 B_38 => ?_
 have q_39 := x_36.size
 have z_34 := Ext.tr z_31 x_36
 have q_40 := B_38.lt
 refine al rfl eF152 rfl rfl fun w_41 b_42 x_43 l_44 B_45 => ?_
 have q_46 := x_43.size
 have z_41 := Ext.tr z_34 x_43
 have q_47 := B_45.lt
 have B_38 := B_38.later x_43
 refine st rfl rfl B_38 rfl eF62 rfl rfl rfl fun w_48 m_49 B_38 => ?_
 have q_51 := m_49.size
 have z_48 := Ext.mod z_41 m_49 (ge1 (by omega))
 have q_50 := m_49.size
 have B_45 := B_45.mod m_49 (nm1 (by omega))
 refine st (new := [.slice A140 0 c140, .slice A141 0 c141, .slice A142 1 c142]) rfl rfl B_45 rfl eF154 rfl rfl rfl fun w_52 m_53 B_45 => ?_
 have q_55 := m_53.size
 have z_52 := Ext.mod z_48 m_53 (ge1 (by omega))
 have q_54 := m_53.size
 refine vl (as_ rfl) rfl <| nl <| nT <| sq <| rg <| vl (mv rfl) rfl <| vl (beq rfl rfl) rfl <| vl (mv rfl) rfl <| ug rfl rfl rfl <| vl (fa eF162 rfl) rfl <| ug rfl rfl rfl <| vl (ld rfl (B_45.one eF166 rfl)) rfl <| ug rfl rfl rfl <| bs (e := 4) (cs := [.bool true]) rfl (fun _ => by kernel_rfl) rfl fun w_56 b_57 x_58 l_59 B_60 => ?_
 have q_61 := x_58.size
 have z_56 := Ext.tr z_52 x_58
 have q_62 := B_60.lt
 refine ug rfl rfl rfl <| ?_
 have OR142 := OR142.later (Ext.tr x_36 x_43)
 have OR142 := OR142.mod m_49 (fk1 u_21 (by omega))
 have OR142 := OR142.mod m_53 (fk1 u_21 (by omega))
 have OR142 := OR142.later x_58
 refine ca eF167 rfl rfl ((equal_B _ _ _ _ _ _ ([true]) ([true]) _ OR142.has (Blk.hasN (R := repB) (by_ := 1) (k := [true]) B_60 [[.bool true]] rfl (⟨⟨rfl, trivial⟩, trivial⟩) (by simp) (by simp))).mono ?_)
 rintro e w_63 ⟨rfl, x_64⟩
 refine ⟨_, rfl, ?_⟩
 have q_65 := x_64.size
 have z_63 := Ext.tr z_56 x_64
 refine vl (pkT rfl rfl) rfl <| vl (mv rfl) rfl <| vQ rfl rfl rfl rfl (fun hc => fa eF156 rfl) rfl <| ?_
 have B_38 := B_38.mod m_53 (nm1 (by omega))
 have B_38 := B_38.later (Ext.tr x_58 x_64)
 refine vQ rfl rfl rfl rfl (fun hc => ld (gt hc rfl) (B_38.one eF1 rfl)) rfl <| vQ rfl rfl rfl rfl (fun hc => beq (gt hc rfl) rfl) rfl <| vl (pA rfl rfl rfl rfl) rfl <| vl (mv rfl) rfl <| vQ rfl rfl rfl rfl (fun hc => fa eF64 rfl) rfl <| vQ rfl rfl rfl rfl (fun hc => ld (gt hc rfl) (B_38.one eF65 rfl)) rfl <| vQ rfl rfl rfl rfl (fun hc => ln Try.underlying56 (gt hc rfl)) rfl <| vQ rfl rfl rfl rfl (fun hc => beq (gt hc rfl) rfl) rfl <| vl (pA rfl rfl rfl rfl) rfl <| vl (mv rfl) rfl <| vQ rfl rfl rfl rfl (fun hc => fa eF64 rfl) rfl <| vQ rfl rfl rfl rfl (fun hc => ld (gt hc rfl) (B_38.one eF65 rfl)) rfl <| ?_
 have HO14 := HO14.later (Ext.tr x_36 x_43)
 have HO14 := HO14.mod m_49 (fk1 u_15 (by omega))
 have HO14 := HO14.mod m_53 (fk1 u_15 (by omega))
 have HO14 := HO14.later (Ext.tr x_58 x_64)
 refine vQ rfl rfl rfl rfl (fun hc => iA 0 Try.underlying56 eF66 (gt hc rfl) rfl (HO14.T.has.adr (Nat.zero_lt_of_lt (show 0 < _ from (by decide +kernel : 0 < (tickV.troops).length)))) rfl (by decide +kernel : 0 < (tickV.troops).length)) rfl <| vQ rfl rfl rfl rfl (fun hc => fa eF109 (gt hc rfl)) rfl <| vQ rfl rfl rfl rfl (fun hc => ld (gt hc rfl) (Rep.SHas.fld hcT (HO14.T.has.adh (Nat.zero_lt_of_lt (show 0 < _ from (by decide +kernel : 0 < (tickV.troops).length)))) 6 (get_d (l := tickV.troops) (u := default) (by decide +kernel : 0 < (tickV.troops).length)) rfl eF1)) rfl <| vQ rfl rfl rfl rfl (fun hc => beq (gt hc rfl) rfl) rfl <| vl (pA rfl rfl rfl rfl) rfl <| vl (as_ rfl) rfl <| nl <| nT <| rt <| tR (.tmp rfl .nil) <| ?_
 exact ⟨ret_true (by decide +kernel), z_63⟩
end
section
open Go.RowKit
def wtOf (W : Wd) (id : Int) : Int := wt ((trOfD W.troops id).getD default)
theorem sum_split {p : Trp → Bool} : ∀ l : List Trp, ((l.filter p).map wt).sum + ((l.filter fun t => !p t).map wt).sum = (l.map wt).sum
 | [] => rfl
 | t :: l => by
  have ih := sum_split (p := p) l
  rw [List.filter_cons, List.filter_cons]
  cases h : p t <;> simp only [Bool.not_true, Bool.not_false, if_true, if_false, List.map_cons, List.sum_cons, Bool.false_eq_true] <;> omega
theorem sum_congr {f g : Trp → Int} : ∀ {l : List Trp}, (∀ t ∈ l, f t = g t) → (l.map f).sum = (l.map g).sum
 | [], _ => rfl
 | t :: l, h => by rw [List.map_cons, List.map_cons, List.sum_cons, List.sum_cons, h t List.mem_cons_self, sum_congr fun s hs => h s (List.mem_cons_of_mem _ hs)]
theorem map_eq_at {f : Trp → Int} {l m : List Trp} (hl : l.length = m.length) (h : ∀ i, i < m.length → f (l.getD i default) = f (m.getD i default)) : l.map f = m.map f := by
 refine List.ext_getElem (by simp [hl]) fun i h1 h2 => ?_
 rw [List.length_map] at h1 h2
 have := h i h2
 rw [getD_dd h1, getD_dd h2] at this
 simpa using this
theorem trOfD_none {l : List Trp} {x : Int} (h : ∀ t ∈ l, t.id ≠ x) : trOfD l x = none := by
 unfold trOfD; rw [List.find?_eq_none]; intro t ht; simpa using h t ht
theorem trOfD_ids {l : List Trp} {x : Int} (h : trOfD l x = none) : ∀ t ∈ l, t.id ≠ x := by
 unfold trOfD at h; rw [List.find?_eq_none] at h; intro t ht; simpa using h t ht
theorem hurts_wt {W : Wd} {l : List Blw} : (hurts W l).map wt = W.troops.map wt := by
 refine map_eq_at (hurts_len W l) fun i hi => ?_
 obtain ⟨t, ht⟩ := get_of hi
 rw [getD_of ht, getD_of (hurts_get ht)]; rfl
theorem gone_mem {W : Wd} {l : List Blw} (h : Struck W l) {x : Int} (hx : x ∈ struckG W l) : ∃ t ∈ W.troops, t.id = x ∧ trOfD W.troops x = some t ∧ trOfD (struckW W l).troops x = none := by
 rw [h.hG] at hx
 obtain ⟨z, hz, rfl⟩ := List.mem_map.1 hx
 obtain ⟨hz1, hz2⟩ := List.mem_filter.1 hz
 obtain ⟨k, t, ht, rfl⟩ := hurts_mem hz1
 have htm := List.mem_of_getElem? ht
 have hk := (List.getElem?_eq_some_iff.1 ht).1
 refine ⟨t, htm, rfl, find_id h.good.pw htm, ?_⟩
 rcases h.each hk with ⟨m, _, _, h3⟩ | ⟨h1, _⟩
 ·rw [getD_of ht, List.any_eq_false] at h3
  have := h3 t.id (by rw [h.hG]; exact List.mem_map.2 ⟨_, hz, rfl⟩)
  simp at this
 ·rw [getD_of ht] at h1; exact h1
theorem struck_total {W : Wd} {l : List Blw} (h : Struck W l) : (struckW W l).total = W.total - ((struckG W l).map (wtOf W)).sum := by
 have e1 : ((struckG W l).map (wtOf W)).sum = (((hurts W l).filter fun t => !decide (0 < t.life)).map wt).sum := by
  rw [h.hG, List.map_map]
  refine sum_congr fun z hz => ?_
  obtain ⟨hz1, hz2⟩ := List.mem_filter.1 hz
  obtain ⟨k, t, ht, rfl⟩ := hurts_mem hz1
  show wtOf W t.id = _
  unfold wtOf
  rw [show trOfD W.troops t.id = some t from find_id h.good.pw (List.mem_of_getElem? ht)]; rfl
 have e2 := sum_split (p := fun t => decide (0 < t.life)) (hurts W l)
 rw [hurts_wt] at e2
 rw [e1, h.hW]
 unfold Wd.total
 dsimp only
 omega
theorem march_total {W : Wd} {l : List Gox} (h : marchE W l = 0) : (marchW W l).total = W.total ∧ (marchW W l).troops.map Trp.id = W.troops.map Trp.id := by
 obtain ⟨hG, hl, _, hW, hat⟩ := march_right h
 have key : ∀ f : Trp → Int, (∀ t c, f (t.to c) = f t) → (marchW W l).troops.map f = W.troops.map f := fun f hf => by
  refine map_eq_at hl fun i hi => ?_
  rcases hat i hi with ⟨_, e⟩ | ⟨c, _, e, _⟩
  ·rw [e]
  ·rw [e, hf]
 refine ⟨?_, key _ fun _ _ => rfl⟩
 rw [hW]
 unfold Wd.total
 dsimp only
 rw [key wt fun _ _ => rfl]
theorem turn_worth {W : Wd} {l : List Odr} (h : turnE W l = 0) : (turnW W l).total = W.total - ((turnG W l).map (wtOf W)).sum ∧ ∀ x ∈ turnG W l, (trOfD W.troops x).isSome = true ∧ trOfD (turnW W l).troops x = none := by
 obtain ⟨h1, h2, h3, h4⟩ := turnE_zero h
 obtain ⟨e1, e2, e3, g1, g2, g3⟩ := turn_dat h
 obtain ⟨z1, z2, z3, z4⟩ := turn_yes h
 have hS := struck_of e1
 obtain ⟨m1, m2⟩ := march_total e2
 have d1 := (do_of e3).2.2.1
 have k := kept_deeds g2 (splD W l l.length)
 rw [z1, z2]
 constructor
 ·have t3 : (turn3 W l).total = (turn2 W l).total := by unfold turn3; rw [d1]; exact total_deeds g2 _
  have t2 : (turn2 W l).total = (turn1 W l).total := m1
  have t1 : (turn1 W l).total = W.total - ((struckG W (splB W l l.length)).map (wtOf W)).sum := struck_total hS
  show (turn3 W l).total = _
  omega
 ·intro x hx
  obtain ⟨t, ht, hid, f1, f2⟩ := gone_mem hS hx
  refine ⟨by rw [f1]; rfl, trOfD_none fun s hs => ?_⟩
  have n1 := trOfD_ids f2
  have n2 : ∀ s ∈ (turn2 W l).troops, s.id ≠ x := fun s hs => by
   have : s.id ∈ (turn1 W l).troops.map Trp.id := by rw [← m2]; exact List.mem_map.2 ⟨s, hs, rfl⟩
   obtain ⟨r, hr, e⟩ := List.mem_map.1 this
   rw [← e]; exact n1 r hr
  have hs : s ∈ (turn3 W l).troops := hs
  unfold turn3 at hs
  rw [d1] at hs
  obtain ⟨i, hi⟩ := List.mem_iff_getElem?.1 hs
  by_cases hlt : i < (turn2 W l).troops.length
  ·obtain ⟨r, hr⟩ := get_of hlt
   obtain ⟨u, hu, he⟩ := k.old i r hr
   rw [hi] at hu
   injection hu with hu
   subst hu
   have : s.id = r.id := by rw [← he]
   rw [this]; exact n2 r (List.mem_of_getElem? hr)
  ·have h5 := k.new i s (by omega) hi
   have h6 := ((Good.of_chk h3).each ht).2.1
   have h7 : (turn2 W l).next = (turn1 W l).next := by unfold turn2; rw [(march_right e2).2.2.2.1]
   have h8 : (turn1 W l).next = W.next := by unfold turn1; rw [hS.hW]
   omega
def lost (W : Wd) (l : List Odr) (k : Nat) : Int := (((turnG W l).take k).map (wtOf W)).sum
end
section
open Go.RowKit
theorem total_bd {W : Wd} (hG : Good W) : 0 ≤ W.total ∧ W.total ≤ 1000000000000 := by
 have h1 := sum_bd (k := W.mines.length) (l := W.mines) fun i x hx => ⟨(hG.mines i x hx).1, (hG.mines i x hx).2.1⟩
 have h2 := sum_bd (k := W.stocks.length) (l := W.stocks) hG.stocks
 have h3 := wt_bd (k := W.troops.length) hG
 rw [List.take_length] at h1 h2 h3
 have h4 := Fld.len_le hG.field
 have h5 := hG.ml
 have h6 := hG.sl
 have h7 := hG.nb
 have h8 := hG.nt
 unfold Wd.total
 omega
theorem lost_succ {W : Wd} {l : List Odr} {k : Nat} (hk : k < (turnG W l).length) : lost W l (k + 1) = lost W l k + wtOf W ((turnG W l).getD k 0) := by
 unfold lost
 rw [take_succ_dd (d := 0) hk, List.map_append, List.sum_append]; simp
theorem lost_all {W : Wd} {l : List Odr} : lost W l (turnG W l).length = ((turnG W l).map (wtOf W)).sum := by unfold lost; rw [List.take_length]
theorem gone_bd {W : Wd} {l : List Odr} (h : turnE W l = 0) {k : Nat} (hk : k < (turnG W l).length) : ∃ t : Trp, trOfD W.troops ((turnG W l).getD k 0) = some t ∧ trOfD (turnW W l).troops ((turnG W l).getD k 0) = none ∧ 0 ≤ t.load ∧ t.load ≤ 5 ∧ 0 ≤ Wd.priceOf t.kind ∧ Wd.priceOf t.kind ≤ 12 ∧ wtOf W ((turnG W l).getD k 0) = t.load + Wd.priceOf t.kind := by
 obtain ⟨h1, h2, h3, h4⟩ := turnE_zero h
 have hx := (turn_worth h).2 _ (mem_dd (d := 0) hk)
 cases ht : trOfD W.troops ((turnG W l).getD k 0) with
 | none => rw [ht] at hx; exact nomatch hx.1
 | some t =>
  have htm : t ∈ W.troops := List.mem_of_find?_eq_some ht
  obtain ⟨i, hi, e⟩ := List.getElem_of_mem htm
  have hb := wt_one (Good.of_chk h3) i hi
  rw [getD_dd hi, e] at hb
  exact ⟨t, rfl, hx.2, hb.1, hb.2.1, hb.2.2.1, hb.2.2.2, by unfold wtOf; rw [ht]; rfl⟩
theorem lost_bd {W : Wd} {l : List Odr} (h : turnE W l = 0) : ∀ k, k ≤ (turnG W l).length → 0 ≤ lost W l k ∧ lost W l k ≤ 17 * (k : Int)
 | 0, _ => by unfold lost; simp
 | k + 1, hk => by
  have ih := lost_bd h k (by omega)
  obtain ⟨t, _, _, b1, b2, b3, b4, b5⟩ := gone_bd h (k := k) (by omega)
  rw [lost_succ (by omega), b5]
  omega
theorem turnG_len {W : Wd} {l : List Odr} (h : turnE W l = 0) : (turnG W l).length ≤ 100 := by
 obtain ⟨h1, h2, h3, h4⟩ := turnE_zero h
 obtain ⟨e1, _⟩ := turn_dat h
 have hS := struck_of e1
 have := hS.count
 have h5 := hS.good.nt
 rw [(turn_yes h).2.1]; omega
theorem trof_at {x : Int} (a : Wd.At) (W : Wd) (w : World) {t : Trp} (h : trOfD W.troops x = some t) (hW : Wd.Has w a W) : Calls Try.prog 38 #[.agg (Wd.cells a W).toArray, .int .i64 x] w (fun e w' => e = .returned (.tuple #[.agg t.cells.toArray, .bool true]) ∧ Ext w w') := by
 have := troopOf_any x a W w hW
 unfold trOfV at this
 rw [h] at this
 exact this
theorem trof_no {x : Int} (a : Wd.At) (W : Wd) (w : World) (h : trOfD W.troops x = none) (hW : Wd.Has w a W) : Calls Try.prog 38 #[.agg (Wd.cells a W).toArray, .int .i64 x] w (fun e w' => e = .returned (.tuple #[.agg (default : Trp).cells.toArray, .bool false]) ∧ Ext w w') := by
 have := troopOf_any x a W w hW
 unfold trOfV at this
 rw [h] at this
 exact this
theorem tickWorth_bad (a : Wd.At) (W : Wd) (A : Option Addr) (c : Nat) (l : List Odr) (w : World) (hW : Wd.Has w a W) (hl : Odr.rep.SHas 48 w A c l) (h0 : turnE W l ≠ 0) :
  Calls Try.prog 10 #[.agg ((Wd.cells a W).toArray), .slice A l.length c] w (fun e w' => e = .returned (.bool true) ∧ Ext w w') := by
 have k1 : (turnE W l != 0) = true := by simpa using h0
 refine calls_W (n := 93) Try.func10 rfl rfl rfl ?_
 refine sq <| rg <| bx rfl rfl rfl rfl fun w_1 b_2 x_3 l_4 B_5 => ?_
 have q_6 := x_3.size
 have z_1 := Ext.tr (Ext.rf w) x_3
 have q_7 := B_5.lt
 refine vl (as_ rfl) rfl <| nl <| nT <| sq <| rg <| vl (ld rfl (B_5.all eF61 eF62)) rfl <| vl (mv rfl) rfl <| ca eF165 rfl rfl ((turn_any a W _ _ l _ (hW.keep z_1) (hl.keep z_1)).mono ?_)
 rintro e w_17 ⟨a8, A80, c80, A81, c81, A82, c82, rfl, HO8, OR80, OR81, OR82, hd8, x_18⟩
 refine ⟨_, rfl, ?_⟩
 have q_19 := x_18.size
 have z_17 := Ext.tr z_1 x_18
 have u_9 := fun q hq => (HO8.lt q hq).2
 have lo_10 := fun q hq => (HO8.lt q hq).1
 have u_11 := fun q hq => (OR80.lt q hq).2
 have lo_12 := fun q hq => (OR80.lt q hq).1
 have u_13 := fun q hq => (OR81.lt q hq).2
 have lo_14 := fun q hq => (OR81.lt q hq).1
 have u_15 := fun q hq => (OR82.lt q hq).2
 have lo_16 := fun q hq => (OR82.lt q hq).1
 have dd80 : ∀ q ∈ Rep.blkOf A80, q ∈ WOwn.foot a8 → False := fun q hq => hd8 q (.inl hq)
 have dw80 : ∀ q ∈ WOwn.foot a8, q ∈ Rep.blkOf A80 → False := fun q h1 h2 => dd80 q h2 h1
 have dd81 : ∀ q ∈ Rep.blkOf A81, q ∈ WOwn.foot a8 → False := fun q hq => hd8 q (.inr (.inl hq))
 have dw81 : ∀ q ∈ WOwn.foot a8, q ∈ Rep.blkOf A81 → False := fun q h1 h2 => dd81 q h2 h1
 have dd82 : ∀ q ∈ Rep.blkOf A82, q ∈ WOwn.foot a8 → False := fun q hq => hd8 q (.inr (.inr hq))
 have dw82 : ∀ q ∈ WOwn.foot a8, q ∈ Rep.blkOf A82 → False := fun q h1 h2 => dd82 q h2 h1
 refine vl (mv rfl) rfl <| vl (ex rfl rfl) rfl <| vl (ex rfl rfl) rfl <| vl (ex rfl rfl) rfl <| al rfl eF80 rfl rfl fun w_20 b_21 x_22 l_23 B_24 => ?_
 have q_25 := x_22.size
 have z_20 := Ext.tr z_17 x_22
 have q_26 := B_24.lt
 refine al rfl eF152 rfl rfl fun w_27 b_28 x_29 l_30 B_31 => ?_
 have q_32 := x_29.size
 have z_27 := Ext.tr z_20 x_29
 have q_33 := B_31.lt
 have B_24 := B_24.later x_29
 refine st rfl rfl B_24 rfl eF62 rfl rfl rfl fun w_34 m_35 B_24 => ?_
 have q_37 := m_35.size
 have z_34 := Ext.mod z_27 m_35 (ge1 (by omega))
 have q_36 := m_35.size
 have B_31 := B_31.mod m_35 (nm1 (by omega))
 refine st (new := [.slice A80 ((turnG W l).length) c80, .slice A81 ((turnM W l).length) c81, .slice A82 ((turnD W l).length) c82]) rfl rfl B_31 rfl eF154 rfl rfl rfl fun w_38 m_39 B_31 => ?_
 have q_41 := m_39.size
 have z_38 := Ext.mod z_34 m_39 (ge1 (by omega))
 have q_40 := m_39.size
 refine vl (as_ rfl) rfl <| nl <| nT <| sq <| sq <| rg <| ca eF168 rfl rfl ((tickLives_any _).mono ?_)
 rintro e w_42 ⟨rfl, x_43⟩
 refine ⟨_, rfl, ?_⟩
 have q_44 := x_43.size
 have z_42 := Ext.tr z_38 x_43
 refine vl (nt rfl) rfl <| vl (mv rfl) rfl <| ug rfl rfl rfl <| vl (mv rfl) rfl <| ug rfl rfl rfl <| vl (bne rfl rfl) rfl <| vl (pkF rfl (evb rfl k1)) rfl <| nl <| nT <| cT rfl <| sq <| rg <| ca eF168 rfl rfl ((tickLives_any _).mono ?_)
 rintro e w_45 ⟨rfl, x_46⟩
 refine ⟨_, rfl, ?_⟩
 have q_47 := x_46.size
 have z_45 := Ext.tr z_42 x_46
 refine vl (as_ rfl) rfl <| nl <| nT <| rt <| tT <| tR (.tmp rfl .nil) <| ?_
 exact ⟨rfl, z_45⟩
theorem tickWorth_ok (a : Wd.At) (W : Wd) (A : Option Addr) (c : Nat) (l : List Odr) (w : World) (hW : Wd.Has w a W) (hl : Odr.rep.SHas 48 w A c l) (h0 : turnE W l = 0) :
  Calls Try.prog 10 #[.agg ((Wd.cells a W).toArray), .slice A l.length c] w (fun e w' => e = .returned (.bool true) ∧ Ext w w') := by
 have k1 : (turnE W l != 0) = false := by simpa using h0
 obtain ⟨h1, h2, h3, h4⟩ := turnE_zero h0
 obtain ⟨v1, v2⟩ := turn_worth h0
 have hgl := turnG_len h0
 have htb := total_bd (Good.of_chk h3)
 have hlb := lost_bd h0
 obtain ⟨r1, _⟩ := turn_right h0
 have w1 := worth_ok h3
 have w2 := worth_ok r1
 refine calls_W (n := 93) Try.func10 rfl rfl rfl ?_
 refine sq <| rg <| bx rfl rfl rfl rfl fun w_1 b_2 x_3 l_4 B_5 => ?_
 have q_6 := x_3.size
 have z_1 := Ext.tr (Ext.rf w) x_3
 have q_7 := B_5.lt
 refine vl (as_ rfl) rfl <| nl <| nT <| sq <| rg <| vl (ld rfl (B_5.all eF61 eF62)) rfl <| vl (mv rfl) rfl <| ca eF165 rfl rfl ((turn_any a W _ _ l _ (hW.keep z_1) (hl.keep z_1)).mono ?_)
 rintro e w_17 ⟨a8, A80, c80, A81, c81, A82, c82, rfl, HO8, OR80, OR81, OR82, hd8, x_18⟩
 refine ⟨_, rfl, ?_⟩
 have q_19 := x_18.size
 have z_17 := Ext.tr z_1 x_18
 have u_9 := fun q hq => (HO8.lt q hq).2
 have lo_10 := fun q hq => (HO8.lt q hq).1
 have u_11 := fun q hq => (OR80.lt q hq).2
 have lo_12 := fun q hq => (OR80.lt q hq).1
 have u_13 := fun q hq => (OR81.lt q hq).2
 have lo_14 := fun q hq => (OR81.lt q hq).1
 have u_15 := fun q hq => (OR82.lt q hq).2
 have lo_16 := fun q hq => (OR82.lt q hq).1
 have dd80 : ∀ q ∈ Rep.blkOf A80, q ∈ WOwn.foot a8 → False := fun q hq => hd8 q (.inl hq)
 have dw80 : ∀ q ∈ WOwn.foot a8, q ∈ Rep.blkOf A80 → False := fun q h1 h2 => dd80 q h2 h1
 have dd81 : ∀ q ∈ Rep.blkOf A81, q ∈ WOwn.foot a8 → False := fun q hq => hd8 q (.inr (.inl hq))
 have dw81 : ∀ q ∈ WOwn.foot a8, q ∈ Rep.blkOf A81 → False := fun q h1 h2 => dd81 q h2 h1
 have dd82 : ∀ q ∈ Rep.blkOf A82, q ∈ WOwn.foot a8 → False := fun q hq => hd8 q (.inr (.inr hq))
 have dw82 : ∀ q ∈ WOwn.foot a8, q ∈ Rep.blkOf A82 → False := fun q h1 h2 => dd82 q h2 h1
 refine vl (mv rfl) rfl <| vl (ex rfl rfl) rfl <| vl (ex rfl rfl) rfl <| vl (ex rfl rfl) rfl <| al rfl eF80 rfl rfl fun w_20 b_21 x_22 l_23 B_24 => ?_
 have q_25 := x_22.size
 have z_20 := Ext.tr z_17 x_22
 have q_26 := B_24.lt
 refine al rfl eF152 rfl rfl fun w_27 b_28 x_29 l_30 B_31 => ?_
 have q_32 := x_29.size
 have z_27 := Ext.tr z_20 x_29
 have q_33 := B_31.lt
 have B_24 := B_24.later x_29
 refine st rfl rfl B_24 rfl eF62 rfl rfl rfl fun w_34 m_35 B_24 => ?_
 have q_37 := m_35.size
 have z_34 := Ext.mod z_27 m_35 (ge1 (by omega))
 have q_36 := m_35.size
 have B_31 := B_31.mod m_35 (nm1 (by omega))
 refine st (new := [.slice A80 ((turnG W l).length) c80, .slice A81 ((turnM W l).length) c81, .slice A82 ((turnD W l).length) c82]) rfl rfl B_31 rfl eF154 rfl rfl rfl fun w_38 m_39 B_31 => ?_
 have q_41 := m_39.size
 have z_38 := Ext.mod z_34 m_39 (ge1 (by omega))
 have q_40 := m_39.size
 refine vl (as_ rfl) rfl <| nl <| nT <| sq <| sq <| rg <| ca eF168 rfl rfl ((tickLives_any _).mono ?_)
 rintro e w_42 ⟨rfl, x_43⟩
 refine ⟨_, rfl, ?_⟩
 have q_44 := x_43.size
 have z_42 := Ext.tr z_38 x_43
 refine vl (nt rfl) rfl <| vl (mv rfl) rfl <| ug rfl rfl rfl <| vl (mv rfl) rfl <| ug rfl rfl rfl <| vl (bne rfl rfl) rfl <| vl (pkF rfl (evb rfl k1)) rfl <| nl <| nT <| cF rfl <| sk <| nT <| sq <| rg <| ?_
 have B_5 := B_5.later (Ext.tr x_18 (Ext.tr x_22 x_29))
 have B_5 := B_5.mod m_35 (nm1 (by omega))
 have B_5 := B_5.mod m_39 (nm1 (by omega))
 have B_5 := B_5.later x_43
 refine vl (ld rfl (B_5.all eF61 eF62)) rfl <| ca eF169 rfl rfl ((worth_any _ a W (hW.keep z_42)).mono ?_)
 rintro e w_45 ⟨rfl, x_46⟩
 refine ⟨_, rfl, ?_⟩
 have q_47 := x_46.size
 have z_45 := Ext.tr z_42 x_46
 refine vl (mv rfl) rfl <| vl (ex rfl rfl) rfl <| vl (ex rfl rfl) rfl <| vl (as_ rfl) rfl <| vl (as_ rfl) rfl <| nl <| nT <| sq <| rg <| ?_
 have B_24 := B_24.mod m_39 (nm1 (by omega))
 have B_24 := B_24.later (Ext.tr x_43 x_46)
 refine vl (ld rfl (B_24.all eF61 eF62)) rfl <| ?_
 have HO8 := HO8.later (Ext.tr x_22 x_29)
 have HO8 := HO8.mod m_35 (fk1 u_9 (by omega))
 have HO8 := HO8.mod m_39 (fk1 u_9 (by omega))
 have HO8 := HO8.later (Ext.tr x_43 x_46)
 refine ca eF169 rfl rfl ((worth_any _ a8 (turnW W l) HO8.has).mono ?_)
 rintro e w_48 ⟨rfl, x_49⟩
 refine ⟨_, rfl, ?_⟩
 have q_50 := x_49.size
 have z_48 := Ext.tr z_45 x_49
 refine vl (mv rfl) rfl <| vl (ex rfl rfl) rfl <| vl (ex rfl rfl) rfl <| vl (as_ rfl) rfl <| vl (as_ rfl) rfl <| nl <| nT <| sq <| sq <| rg <| vl (fa eF158 rfl) rfl <| ?_
 have B_31 := B_31.later (Ext.tr x_43 (Ext.tr x_46 x_49))
 refine vl (ld rfl (B_31.one eF36 rfl)) rfl <| vl (ln Try.underlying42 rfl) rfl <| vl (mv rfl) rfl <| nl <| nT <| bk <| ?_
 have B_5 := B_5.later (Ext.tr x_46 x_49)
 have HO8 := HO8.later x_49
 have OR80 := OR80.later (Ext.tr x_22 x_29)
 have OR80 := OR80.mod m_35 (fk1 u_11 (by omega))
 have OR80 := OR80.mod m_39 (fk1 u_11 (by omega))
 have OR80 := OR80.later (Ext.tr x_43 (Ext.tr x_46 x_49))
 have OR81 := OR81.later (Ext.tr x_22 x_29)
 have OR81 := OR81.mod m_35 (fk1 u_13 (by omega))
 have OR81 := OR81.mod m_39 (fk1 u_13 (by omega))
 have OR81 := OR81.later (Ext.tr x_43 (Ext.tr x_46 x_49))
 have OR82 := OR82.later (Ext.tr x_22 x_29)
 have OR82 := OR82.mod m_35 (fk1 u_15 (by omega))
 have OR82 := OR82.mod m_39 (fk1 u_15 (by omega))
 have OR82 := OR82.later (Ext.tr x_43 (Ext.tr x_46 x_49))
 have B_24 := B_24.later x_49
 refine lp (fun mI EI wI => ∃ k : Nat, EI = [(2, .pointer (some ⟨b_2, 0, none⟩)), (5, .pointer (some ⟨b_21, 0, none⟩)), (8, .int .i64 (W.worth - lost W l k)), (9, .int .i64 W.chk), (10, .int .i64 ((turnW W l).worth)), (11, .int .i64 ((turnW W l).chk)), (45, .slice A80 ((turnG W l).length) c80), (46, .int .i64 ((((turnG W l).length : Nat) : Int))), (47, .int .i64 (k : Int))] ∧ mI = (turnG W l).length - k ∧ Ext w wI ∧ Blk wI b_2 (Wd.cells a W) 58 (0, 0) ∧ WOwn wI w_1.heap.size a8 (turnW W l) ∧ repI.SOwn 3 8 wI w_1.heap.size (Rep.blkOf A80) A80 c80 (turnG W l) ∧ repI.SOwn 3 8 wI w_1.heap.size (Rep.blkOf A81) A81 c81 (turnM W l) ∧ repB.SOwn 4 1 wI w_1.heap.size (Rep.blkOf A82) A82 c82 (turnD W l) ∧ Blk wI b_21 ((Wd.cells a8 (turnW W l))) 58 (0, 0) ∧ (k ≤ (turnG W l).length)) _ _ ⟨0, rfl, rfl, z_48, B_5, HO8, OR80, OR81, OR82, B_24, by omega⟩ (.cons rfl (.cons rfl (.cons (by rw [show lost W l 0 = 0 from rfl, Int.sub_zero]; rfl) (.cons rfl (.cons rfl (.cons rfl (.cons rfl (.cons rfl (.cons (loI rfl (by first | omega | rfl | (simp <;> omega))) .nil))))))))) ?_
 rintro m_52 E_53 w_51 ⟨k, rfl, rfl, z_51, B_5, HO8, OR80, OR81, OR82, B_24, hk⟩
 have q_54 := z_51.size
 have q_55 := B_5.lt
 have u_56 := fun q hq => (HO8.lt q hq).2
 have u_57 := fun q hq => (OR80.lt q hq).2
 have u_58 := fun q hq => (OR81.lt q hq).2
 have u_59 := fun q hq => (OR82.lt q hq).2
 have q_60 := B_24.lt
 refine sq <| rg <| vl (blt rfl rfl) rfl <| nl <| nT <| sq <| ?_
 refine clt rfl (fun h_61 => ?_) (fun h_61 => ?_)
 ·obtain ⟨t, b1, b2, b3, b4, b5, b6, b7⟩ := gone_bd h0 (k := k) (by omega)
  have hlk := hlb k (by omega)
  refine sk <| nT <| sq <| bk <| sq <| rg <| vl (iA k Try.underlying42 eF7 rfl rfl (OR80.has.adr (Nat.zero_lt_of_lt (show k < _ from (by omega)))) rfl (by omega)) rfl <| vl (ld rfl (Rep.SHas.one' hcI (OR80.has.adh (Nat.zero_lt_of_lt (show k < _ from (by omega)))) (get_d (l := turnG W l) (u := 0) (by omega)) rfl eF1)) rfl <| vl (as_ rfl) rfl <| nl <| nT <| sq <| rg <| vl (ld rfl (B_5.all eF61 eF62)) rfl <| vl (mv rfl) rfl <| ca eF170 rfl rfl (((trof_at _ _ _ b1 ((hW.keep z_51)))).mono ?_)
  rintro e w_62 ⟨rfl, x_63⟩
  refine ⟨_, rfl, ?_⟩
  have q_64 := x_63.size
  have z_62 := Ext.tr z_51 x_63
  refine vl (mv rfl) rfl <| vl (ex rfl rfl) rfl <| vl (ex rfl rfl) rfl <| al rfl eF68 rfl rfl fun w_65 b_66 x_67 l_68 B_69 => ?_
  have q_70 := x_67.size
  have z_65 := Ext.tr z_62 x_67
  have q_71 := B_69.lt
  refine st (new := [.int .i64 t.id, .int .i64 t.owner, .int .i64 t.kind, .int .i64 t.spot.x, .int .i64 t.spot.y, .int .i64 t.life, .int .i64 t.load]) rfl rfl B_69 rfl eF66 rfl rfl rfl fun w_72 m_73 B_69 => ?_
  have q_75 := m_73.size
  have z_72 := Ext.mod z_65 m_73 (ge1 (by omega))
  have q_74 := m_73.size
  refine vl (as_ rfl) rfl <| nl <| nT <| sq <| sq <| rg <| ?_
  have B_24 := B_24.later (Ext.tr x_63 x_67)
  have B_24 := B_24.mod m_73 (nm1 (by omega))
  refine vl (ld rfl (B_24.all eF61 eF62)) rfl <| vl (mv rfl) rfl <| ?_
  have HO8 := HO8.later (Ext.tr x_63 x_67)
  have HO8 := HO8.mod m_73 (fun q hq h => by have hb := List.mem_singleton.1 h; exfalso; (have := u_56 q hq; have := u_9 q hq; omega))
  refine ca eF170 rfl rfl (((trof_no _ _ _ b2 (HO8.has))).mono ?_)
  rintro e w_76 ⟨rfl, x_77⟩
  refine ⟨_, rfl, ?_⟩
  have q_78 := x_77.size
  have z_76 := Ext.tr z_72 x_77
  refine vl (mv rfl) rfl <| vl (ex rfl rfl) rfl <| vl (ex rfl rfl) rfl <| al rfl eF68 rfl rfl fun w_79 b_80 x_81 l_82 B_83 => ?_
  have q_84 := x_81.size
  have z_79 := Ext.tr z_76 x_81
  have q_85 := B_83.lt
  refine st (new := [.int .i64 ((default : Trp).id), .int .i64 ((default : Trp).owner), .int .i64 ((default : Trp).kind), .int .i64 ((default : Trp).spot.x), .int .i64 ((default : Trp).spot.y), .int .i64 ((default : Trp).life), .int .i64 ((default : Trp).load)]) rfl rfl B_83 rfl eF66 rfl rfl rfl fun w_86 m_87 B_83 => ?_
  have q_89 := m_87.size
  have z_86 := Ext.mod z_79 m_87 (ge1 (by omega))
  have q_88 := m_87.size
  refine vl (as_ rfl) rfl <| nl <| nT <| sq <| rg <| vl (mv rfl) rfl <| vl (nt rfl) rfl <| vl (mv rfl) rfl <| ug rfl rfl rfl <| vl (mv rfl) rfl <| vl (pkF rfl rfl) rfl <| nl <| nT <| cF rfl <| sk <| nT <| sq <| rg <| vl (fa eF52 rfl) rfl <| ?_
  have B_69 := B_69.later (Ext.tr x_77 x_81)
  have B_69 := B_69.mod m_87 (nm1 (by omega))
  refine vl (ld rfl (B_69.one eF1 rfl)) rfl <| ca eF53 rfl rfl ((kind_any t.kind _).mono ?_)
  rintro e w_90 ⟨rfl, x_91⟩
  refine ⟨_, rfl, ?_⟩
  have q_92 := x_91.size
  have z_90 := Ext.tr z_86 x_91
  refine vl (mv rfl) rfl <| vl (ex rfl rfl) rfl <| vl (ex rfl rfl) rfl <| al rfl eF54 rfl rfl fun w_93 b_94 x_95 l_96 B_97 => ?_
  have q_98 := x_95.size
  have z_93 := Ext.tr z_90 x_95
  have q_99 := B_97.lt
  refine st (new := [.int .i64 (Wd.lifeOf t.kind), .int .i64 (reachOf t.kind), .int .i64 (harmOf t.kind), .int .i64 (Wd.priceOf t.kind)]) rfl rfl B_97 rfl eF55 rfl rfl rfl fun w_100 m_101 B_97 => ?_
  have q_103 := m_101.size
  have z_100 := Ext.mod z_93 m_101 (ge1 (by omega))
  have q_102 := m_101.size
  refine vl (as_ rfl) rfl <| nl <| nT <| rg <| vl (mv rfl) rfl <| vl (fa eF114 rfl) rfl <| vl (ld rfl (B_97.one eF1 rfl)) rfl <| vl (fa eF109 rfl) rfl <| ?_
  have B_69 := B_69.later (Ext.tr x_91 x_95)
  have B_69 := B_69.mod m_101 (nm1 (by omega))
  refine vl (ld rfl (B_69.one eF1 rfl)) rfl <| vl (bad rfl rfl (inI (by omega))) rfl <| vl (bsu rfl rfl (inI (by omega))) rfl <| vl (as_ rfl) rfl <| nl <| nB <| nT <| rg <| vl (bad rfl rfl (inI (by omega))) rfl <| vl (mv rfl) rfl <| nl <| ?_
  have B_5 := B_5.later (Ext.tr x_63 x_67)
  have B_5 := B_5.mod m_73 (nm1 (by omega))
  have B_5 := B_5.later (Ext.tr x_77 x_81)
  have B_5 := B_5.mod m_87 (nm1 (by omega))
  have B_5 := B_5.later (Ext.tr x_91 x_95)
  have B_5 := B_5.mod m_101 (nm1 (by omega))
  have HO8 := HO8.later (Ext.tr x_77 x_81)
  have HO8 := HO8.mod m_87 (fun q hq h => by have hb := List.mem_singleton.1 h; exfalso; (have := u_56 q hq; have := u_9 q hq; omega))
  have HO8 := HO8.later (Ext.tr x_91 x_95)
  have HO8 := HO8.mod m_101 (fun q hq h => by have hb := List.mem_singleton.1 h; exfalso; (have := u_56 q hq; have := u_9 q hq; omega))
  have OR80 := OR80.later (Ext.tr x_63 x_67)
  have OR80 := OR80.mod m_73 (fun q hq h => by have hb := List.mem_singleton.1 h; exfalso; (have := u_57 q hq; have := u_11 q hq; omega))
  have OR80 := OR80.later (Ext.tr x_77 x_81)
  have OR80 := OR80.mod m_87 (fun q hq h => by have hb := List.mem_singleton.1 h; exfalso; (have := u_57 q hq; have := u_11 q hq; omega))
  have OR80 := OR80.later (Ext.tr x_91 x_95)
  have OR80 := OR80.mod m_101 (fun q hq h => by have hb := List.mem_singleton.1 h; exfalso; (have := u_57 q hq; have := u_11 q hq; omega))
  have OR81 := OR81.later (Ext.tr x_63 x_67)
  have OR81 := OR81.mod m_73 (fun q hq h => by have hb := List.mem_singleton.1 h; exfalso; (have := u_58 q hq; have := u_13 q hq; omega))
  have OR81 := OR81.later (Ext.tr x_77 x_81)
  have OR81 := OR81.mod m_87 (fun q hq h => by have hb := List.mem_singleton.1 h; exfalso; (have := u_58 q hq; have := u_13 q hq; omega))
  have OR81 := OR81.later (Ext.tr x_91 x_95)
  have OR81 := OR81.mod m_101 (fun q hq h => by have hb := List.mem_singleton.1 h; exfalso; (have := u_58 q hq; have := u_13 q hq; omega))
  have OR82 := OR82.later (Ext.tr x_63 x_67)
  have OR82 := OR82.mod m_73 (fun q hq h => by have hb := List.mem_singleton.1 h; exfalso; (have := u_59 q hq; have := u_15 q hq; omega))
  have OR82 := OR82.later (Ext.tr x_77 x_81)
  have OR82 := OR82.mod m_87 (fun q hq h => by have hb := List.mem_singleton.1 h; exfalso; (have := u_59 q hq; have := u_15 q hq; omega))
  have OR82 := OR82.later (Ext.tr x_91 x_95)
  have OR82 := OR82.mod m_101 (fun q hq h => by have hb := List.mem_singleton.1 h; exfalso; (have := u_59 q hq; have := u_15 q hq; omega))
  have B_24 := B_24.later (Ext.tr x_77 x_81)
  have B_24 := B_24.mod m_87 (nm1 (by omega))
  have B_24 := B_24.later (Ext.tr x_91 x_95)
  have B_24 := B_24.mod m_101 (nm1 (by omega))
  exact nI _ _ ⟨k + 1, rfl, rfl, z_100, B_5, HO8, OR80, OR81, OR82, B_24, by omega⟩ (by omega) (.cons rfl (.cons rfl (.cons (by rw [lost_succ (by omega), b7]; exact loI rfl (by omega)) (.cons rfl (.cons rfl (.cons rfl (.cons rfl (.cons rfl (.cons (loI rfl (by first | omega | rfl | (simp <;> omega))) .nil)))))))))
 ·refine xt <| xT <| xK <| xB <| nT <| sq <| rg <| vl (mv rfl) rfl <| vl (beq rfl rfl) rfl <| vl (mv rfl) rfl <| vQ rfl rfl rfl rfl (fun hc => mv rfl) rfl <| vQ rfl rfl rfl rfl (fun hc => beq (gt hc rfl) rfl) rfl <| vl (pA rfl rfl rfl rfl) rfl <| vl (mv rfl) rfl <| vQ rfl rfl rfl rfl (fun hc => mv rfl) rfl <| vQ rfl rfl rfl rfl (fun hc => mv rfl) rfl <| vQ rfl rfl rfl rfl (fun hc => beq (gt hc rfl) (gt hc rfl)) rfl <| vl (pA rfl rfl rfl rfl) rfl <| vl (as_ rfl) rfl <| nl <| nT <| rt <| tR (.tmp rfl .nil) <| ?_
  have ek : k = (turnG W l).length := by omega
  exact ⟨ret_true (by rw [h3, r1, w1, w2, v1, ek, lost_all]; simp), z_51⟩
theorem tickWorth_any (c0 : Array Value) (a1 : Option Addr) (len1 cap1 : Nat) (w : World) (h0 : (.cons (.cons (.int .i64) (.cons (.int .i64) (.cons (.slice (.int .i64) 8) .nil))) (.cons (.slice (.cons (.int .i64) (.cons (.int .i64) .nil)) 16) (.cons (.slice (.int .i64) 8) (.cons (.slice (.int .i64) 8) (.cons (.slice (.cons (.int .i64) (.cons (.int .i64) (.cons (.int .i64) (.cons (.cons (.int .i64) (.cons (.int .i64) .nil)) (.cons (.int .i64) (.cons (.int .i64) .nil)))))) 56) (.cons (.int .i64) (.cons (.int .i64) .nil)))))) : Sh).Ok w c0.toList) (h1 : (.slice (.cons (.int .i64) (.cons (.int .i64) (.cons (.int .i64) (.cons (.cons (.int .i64) (.cons (.int .i64) .nil)) (.cons (.int .i64) .nil))))) 48 : Sh).Ok w [.slice a1 len1 cap1]) :
  Calls Try.prog 10 #[.agg c0, .slice a1 len1 cap1] w fun e w' => e = .returned (.bool true) ∧ Below w.heap.size w w' := by
 obtain ⟨a, W, e, hW⟩ := Wd.opens w _ (show Wd.sh.Ok w c0.toList from h0)
 have hc : c0 = (Wd.cells a W).toArray := by rw [← e]
 subst hc
 obtain ⟨A, c, l, e1, hl⟩ := Rep.opens_slice (R := Odr.rep) (by_ := 48) Odr.opens rfl (by decide) h1
 simp only [List.cons.injEq, Value.slice.injEq, and_true] at e1
 obtain ⟨rfl, rfl, rfl⟩ := e1
 by_cases k : turnE W l = 0
 ·exact tickWorth_ok a W _ _ l w hW hl k
 ·exact tickWorth_bad a W _ _ l w hW hl k
end
end Go.Proofs.Ytccankldeogdlaa
