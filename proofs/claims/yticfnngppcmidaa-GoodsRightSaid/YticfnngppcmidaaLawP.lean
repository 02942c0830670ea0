/-
  The plain laws of deeds: what there is stays what it was worth; field, bases, time and troops stay.
-/
import Derived.Test.YticfnngppcmidaaLawA
set_option linter.unusedVariables false
namespace Go.Proofs.Yticfnngppcmidaa
open Go.RowKit

theorem sum_set {l : List Int} {k : Nat} {x : Int} (h : k < l.length) : (l.set k x).sum = l.sum + x - l.getD k 0 := by
  induction l generalizing k with
  | nil => simp at h
  | cons y r ih =>
    cases k with
    | zero => simp; omega
    | succ k => simp only [List.set_cons_succ, List.sum_cons, List.getD_cons_succ]; rw [ih (by simpa using h)]; omega
theorem wt_set {l : List Trp} {k : Nat} {x t : Trp} (h : l[k]? = some t) : ((l.set k x).map wt).sum = (l.map wt).sum + wt x - wt t := by
  rw [List.map_set]
  have hk := (List.getElem?_eq_some_iff.1 h).1
  have e : (l.map wt).getD k 0 = wt t := by rw [List.getD_eq_getElem?_getD, List.getElem?_map, h]; rfl
  rw [sum_set (by simpa using hk), e]
theorem total_deed {W V : Wd} {d : Ded} (h : Good W) (hd : W.deed d = some V) : V.total = W.total := by
  unfold Wd.deed at hd
  split at hd
  · obtain ⟨k, t, _, ht, _, hk, hl, _, hin, hm0, rfl⟩ := mine_some hd
    obtain ⟨i1, i2, _⟩ := Fld.idx h.field hin
    have hlt : W.place d.spot < W.mines.length := by rw [h.ml]; unfold Wd.place; omega
    unfold Wd.total
    simp only [sum_set hlt, wt_set ht, wt, Wd.addLoad]
    omega
  · split at hd
    · obtain ⟨k, t, n, _, ht, _, hl, _, hn, hn0, rfl⟩ := drop_some hd
      have h1 := h.troops k t ht
      have hlt : t.owner.toNat < W.stocks.length := by rw [h.sl]; have := h1.owner; omega
      unfold Wd.total
      simp only [sum_set hlt, wt_set ht, wt, Wd.addLoad]
      omega
    · split at hd
      · obtain ⟨c, hfr, hw0, hw1, hk, hp, hnt, hnx, rfl⟩ := hire_some hd
        have hlt : d.who.toNat < W.stocks.length := by rw [h.sl]; omega
        unfold Wd.total
        simp only [sum_set hlt, List.map_append, List.sum_append, List.map_cons, List.map_nil, List.sum_cons, List.sum_nil, wt]
        omega
      · cases hd
theorem total_deeds {W : Wd} (h : Good W) : ∀ l : List Ded, (W.deeds l).1.total = W.total := by
  intro l
  induction l generalizing W with
  | nil => rfl
  | cons d l ih =>
    simp only [Wd.deeds]
    cases hd : W.deed d with
    | none => exact ih h
    | some V => exact (ih (h.deed hd)).trans (total_deed h hd)
theorem total_pos {W : Wd} (hG : Good W) : 0 ≤ W.total := by
  have h1 := sum_bd (k := W.mines.length) (l := W.mines) fun i x hx => ⟨(hG.mines i x hx).1, (hG.mines i x hx).2.1⟩
  have h2 := sum_bd (k := W.stocks.length) (l := W.stocks) hG.stocks
  have h3 := wt_bd (k := W.troops.length) hG
  rw [List.take_length] at h1 h2 h3
  unfold Wd.total
  omega
/-- What deeds leave of a world. -/
structure Kept (W V : Wd) : Prop where
  field : V.field = W.field
  bases : V.bases = W.bases
  now : V.now = W.now
  next : V.next = W.next + ((V.troops.length : Int) - W.troops.length)
  len : W.troops.length ≤ V.troops.length
  old : ∀ (i : Nat) (t : Trp), W.troops[i]? = some t → ∃ u : Trp, V.troops[i]? = some u ∧ { u with load := t.load } = t
  new : ∀ (i : Nat) (u : Trp), W.troops.length ≤ i → V.troops[i]? = some u → W.next ≤ u.id
theorem Kept.rf (W : Wd) : Kept W W := ⟨rfl, rfl, rfl, by omega, Nat.le_refl _, fun i t h => ⟨t, h, rfl⟩, fun i u h hu => by
  rw [List.getElem?_eq_none (by omega)] at hu; cases hu⟩
theorem Kept.tr {U V W : Wd} (h : Kept U V) (k : Kept V W) : Kept U W where
  field := k.field.trans h.field
  bases := k.bases.trans h.bases
  now := k.now.trans h.now
  next := by rw [k.next, h.next]; omega
  len := Nat.le_trans h.len k.len
  old i t ht := by
    obtain ⟨u, hu, e⟩ := h.old i t ht
    obtain ⟨x, hx, e2⟩ := k.old i u hu
    refine ⟨x, hx, ?_⟩
    rw [← e, ← e2]
  new i u hi hu := by
    by_cases h1 : i < V.troops.length
    · obtain ⟨t, ht⟩ := get_of h1
      obtain ⟨x, hx, e⟩ := k.old i t ht
      rw [hu] at hx
      obtain rfl := Option.some.inj hx
      have := h.new i t hi ht
      have e3 : t.id = u.id := by rw [← e]
      omega
    · have h2 := k.new i u (by omega) hu
      have := h.next
      have := h.len
      omega
theorem kept_load {W V : Wd} {k : Nat} {t : Trp} {n : Int} (ht : W.troops[k]? = some t) (hf : V.field = W.field) (hb : V.bases = W.bases) (hn : V.now = W.now) (hx : V.next = W.next) (hV : V.troops = W.troops.set k (Wd.addLoad t n)) : Kept W V where
  field := hf
  bases := hb
  now := hn
  next := by rw [hV, List.length_set, hx]; omega
  len := by rw [hV, List.length_set]; exact Nat.le_refl _
  old i x hi := by
    rw [hV]
    by_cases hk : k = i
    · subst hk
      rw [ht] at hi
      obtain rfl := Option.some.inj hi
      exact ⟨_, List.getElem?_set_self (List.getElem?_eq_some_iff.1 ht).1, rfl⟩
    · exact ⟨x, by rw [List.getElem?_set_ne hk]; exact hi, rfl⟩
  new i u hi hu := by
    rw [hV, List.getElem?_eq_none (by rw [List.length_set]; exact hi)] at hu; cases hu
theorem kept_deed {W V : Wd} {d : Ded} (h : Good W) (hd : W.deed d = some V) : Kept W V := by
  unfold Wd.deed at hd
  split at hd
  · obtain ⟨k, t, _, ht, _, hk, hl, _, hin, hm0, rfl⟩ := mine_some hd
    exact kept_load ht rfl rfl rfl rfl rfl
  · split at hd
    · obtain ⟨k, t, n, _, ht, _, hl, _, hn, hn0, rfl⟩ := drop_some hd
      exact kept_load ht rfl rfl rfl rfl rfl
    · split at hd
      · obtain ⟨c, hfr, hw0, hw1, hk, hp, hnt, hnx, rfl⟩ := hire_some hd
        refine ⟨rfl, rfl, rfl, by simp; omega, by simp, fun i t ht => ⟨t, ?_, rfl⟩, fun i u hi hu => ?_⟩
        · simp only
          rw [List.getElem?_append_left (List.getElem?_eq_some_iff.1 ht).1]; exact ht
        · simp only at hu
          rw [List.getElem?_append_right hi] at hu
          have h0 : i - W.troops.length = 0 := by
            have := (List.getElem?_eq_some_iff.1 hu).1
            simp at this; omega
          rw [h0] at hu
          have e : u = ⟨W.next, d.who, d.what, c, Wd.lifeOf d.what, 0⟩ := by simpa using hu.symm
          rw [e]; exact Int.le_refl _
      · cases hd
theorem kept_deeds {W : Wd} (h : Good W) : ∀ l : List Ded, Kept W (W.deeds l).1 := by
  intro l
  induction l generalizing W with
  | nil => exact Kept.rf W
  | cons d l ih =>
    simp only [Wd.deeds]
    cases hd : W.deed d with
    | none => exact ih h
    | some V => exact (kept_deed h hd).tr (ih (h.deed hd))
theorem Kept.getD {W V : Wd} (h : Kept W V) {i : Nat} (hi : i < W.troops.length) : { V.troops.getD i default with load := (W.troops.getD i default).load } = W.troops.getD i default := by
  obtain ⟨t, ht⟩ := get_of hi
  obtain ⟨u, hu, e⟩ := h.old i t ht
  rw [List.getD_eq_getElem?_getD, List.getD_eq_getElem?_getD, ht, hu]
  exact e
theorem do_of {W : Wd} {l : List Ded} (h : W.doE l = 0) : Good W ∧ l.length ≤ 200 ∧ W.doW l = (W.deeds l).1 ∧ W.doB l = (W.deeds l).2 := by
  have hc : W.chk = 0 := by
    cases hd : decide (W.chk = 0) with
    | true => simpa using hd
    | false => have := (do_bad (W := W) (l := l) (by simpa using hd)).2.2; rw [h] at this; exact this.symm
  have hl : l.length ≤ 200 := by
    cases hd : decide (l.length ≤ 200) with
    | true => simpa using hd
    | false => have := (do_large (W := W) (l := l) hc (by simpa using hd)).2.2; rw [h] at this; cases this
  exact ⟨Good.of_chk hc, hl, do_ok1 hc hl, do_ok2 hc hl⟩
end Go.Proofs.Yticfnngppcmidaa
