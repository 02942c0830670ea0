/-
  The plain laws of deeds: what there is stays what it was worth; field, bases, time and troops stay.
  The plain law of deeds in two goes, and of those that were done.
  slices.Clone of deeds and bools. (Printed by bin/goodslaw3.py.)
-/
import Derived.Test.YticfnngppcmidaaLawA
import Derived.Test.YticfnngppcmidaaClone
import Derived.Test.YticfnngppcmidaaGol
set_option linter.unusedVariables false
set_option linter.unusedSimpArgs false
namespace Go.Proofs.Yticfnngppcmidaa
open Go.RowKit

theorem sum_set {l : List Int} {k : Nat} {x : Int} (h : k < l.length) : (l.set k x).sum = l.sum + x - l.getD k 0 := by
  induction l generalizing k with
  | nil => simp at h
  | cons y r ih =>
    cases k with
    | zero => simp; omega
    | succ k => simp only [List.set_cons_succ, List.sum_cons, List.getD_cons_succ]; rw [ih (by simpa using h)]; omega
theorem wt_set {l : List Trp} {k : Nat} {x t : Trp} (h : l[k]? = some t) : ((l.set k x).map wt).sum = (l.map wt).sum + wt x - wt t := by
  rw [List.map_set]
  have hk := (List.getElem?_eq_some_iff.1 h).1
  have e : (l.map wt).getD k 0 = wt t := by rw [List.getD_eq_getElem?_getD, List.getElem?_map, h]; rfl
  rw [sum_set (by simpa using hk), e]
theorem total_deed {W V : Wd} {d : Ded} (h : Good W) (hd : W.deed d = some V) : V.total = W.total := by
  unfold Wd.deed at hd
  split at hd
  · obtain ⟨k, t, _, ht, _, hk, hl, _, hin, hm0, rfl⟩ := mine_some hd
    obtain ⟨i1, i2, _⟩ := Fld.idx h.field hin
    have hlt : W.place d.spot < W.mines.length := by rw [h.ml]; unfold Wd.place; omega
    unfold Wd.total
    simp only [sum_set hlt, wt_set ht, wt, Wd.addLoad]
    omega
  · split at hd
    · obtain ⟨k, t, n, _, ht, _, hl, _, hn, hn0, rfl⟩ := drop_some hd
      have h1 := h.troops k t ht
      have hlt : t.owner.toNat < W.stocks.length := by rw [h.sl]; have := h1.owner; omega
      unfold Wd.total
      simp only [sum_set hlt, wt_set ht, wt, Wd.addLoad]
      omega
    · split at hd
      · obtain ⟨c, hfr, hw0, hw1, hk, hp, hnt, hnx, rfl⟩ := hire_some hd
        have hlt : d.who.toNat < W.stocks.length := by rw [h.sl]; omega
        unfold Wd.total
        simp only [sum_set hlt, List.map_append, List.sum_append, List.map_cons, List.map_nil, List.sum_cons, List.sum_nil, wt]
        omega
      · cases hd
theorem total_deeds {W : Wd} (h : Good W) : ∀ l : List Ded, (W.deeds l).1.total = W.total := by
  intro l
  induction l generalizing W with
  | nil => rfl
  | cons d l ih =>
    simp only [Wd.deeds]
    cases hd : W.deed d with
    | none => exact ih h
    | some V => exact (ih (h.deed hd)).trans (total_deed h hd)
theorem total_pos {W : Wd} (hG : Good W) : 0 ≤ W.total := by
  have h1 := sum_bd (k := W.mines.length) (l := W.mines) fun i x hx => ⟨(hG.mines i x hx).1, (hG.mines i x hx).2.1⟩
  have h2 := sum_bd (k := W.stocks.length) (l := W.stocks) hG.stocks
  have h3 := wt_bd (k := W.troops.length) hG
  rw [List.take_length] at h1 h2 h3
  unfold Wd.total
  omega
/-- What deeds leave of a world. -/
structure Kept (W V : Wd) : Prop where
  field : V.field = W.field
  bases : V.bases = W.bases
  now : V.now = W.now
  next : V.next = W.next + ((V.troops.length : Int) - W.troops.length)
  len : W.troops.length ≤ V.troops.length
  old : ∀ (i : Nat) (t : Trp), W.troops[i]? = some t → ∃ u : Trp, V.troops[i]? = some u ∧ { u with load := t.load } = t
  new : ∀ (i : Nat) (u : Trp), W.troops.length ≤ i → V.troops[i]? = some u → W.next ≤ u.id
theorem Kept.rf (W : Wd) : Kept W W := ⟨rfl, rfl, rfl, by omega, Nat.le_refl _, fun i t h => ⟨t, h, rfl⟩, fun i u h hu => by
  rw [List.getElem?_eq_none (by omega)] at hu; cases hu⟩
theorem Kept.tr {U V W : Wd} (h : Kept U V) (k : Kept V W) : Kept U W where
  field := k.field.trans h.field
  bases := k.bases.trans h.bases
  now := k.now.trans h.now
  next := by rw [k.next, h.next]; omega
  len := Nat.le_trans h.len k.len
  old i t ht := by
    obtain ⟨u, hu, e⟩ := h.old i t ht
    obtain ⟨x, hx, e2⟩ := k.old i u hu
    refine ⟨x, hx, ?_⟩
    rw [← e, ← e2]
  new i u hi hu := by
    by_cases h1 : i < V.troops.length
    · obtain ⟨t, ht⟩ := get_of h1
      obtain ⟨x, hx, e⟩ := k.old i t ht
      rw [hu] at hx
      obtain rfl := Option.some.inj hx
      have := h.new i t hi ht
      have e3 : t.id = u.id := by rw [← e]
      omega
    · have h2 := k.new i u (by omega) hu
      have := h.next
      have := h.len
      omega
theorem kept_load {W V : Wd} {k : Nat} {t : Trp} {n : Int} (ht : W.troops[k]? = some t) (hf : V.field = W.field) (hb : V.bases = W.bases) (hn : V.now = W.now) (hx : V.next = W.next) (hV : V.troops = W.troops.set k (Wd.addLoad t n)) : Kept W V where
  field := hf
  bases := hb
  now := hn
  next := by rw [hV, List.length_set, hx]; omega
  len := by rw [hV, List.length_set]; exact Nat.le_refl _
  old i x hi := by
    rw [hV]
    by_cases hk : k = i
    · subst hk
      rw [ht] at hi
      obtain rfl := Option.some.inj hi
      exact ⟨_, List.getElem?_set_self (List.getElem?_eq_some_iff.1 ht).1, rfl⟩
    · exact ⟨x, by rw [List.getElem?_set_ne hk]; exact hi, rfl⟩
  new i u hi hu := by
    rw [hV, List.getElem?_eq_none (by rw [List.length_set]; exact hi)] at hu; cases hu
theorem kept_deed {W V : Wd} {d : Ded} (h : Good W) (hd : W.deed d = some V) : Kept W V := by
  unfold Wd.deed at hd
  split at hd
  · obtain ⟨k, t, _, ht, _, hk, hl, _, hin, hm0, rfl⟩ := mine_some hd
    exact kept_load ht rfl rfl rfl rfl rfl
  · split at hd
    · obtain ⟨k, t, n, _, ht, _, hl, _, hn, hn0, rfl⟩ := drop_some hd
      exact kept_load ht rfl rfl rfl rfl rfl
    · split at hd
      · obtain ⟨c, hfr, hw0, hw1, hk, hp, hnt, hnx, rfl⟩ := hire_some hd
        refine ⟨rfl, rfl, rfl, by simp; omega, by simp, fun i t ht => ⟨t, ?_, rfl⟩, fun i u hi hu => ?_⟩
        · simp only
          rw [List.getElem?_append_left (List.getElem?_eq_some_iff.1 ht).1]; exact ht
        · simp only at hu
          rw [List.getElem?_append_right hi] at hu
          have h0 : i - W.troops.length = 0 := by
            have := (List.getElem?_eq_some_iff.1 hu).1
            simp at this; omega
          rw [h0] at hu
          have e : u = ⟨W.next, d.who, d.what, c, Wd.lifeOf d.what, 0⟩ := by simpa using hu.symm
          rw [e]; exact Int.le_refl _
      · cases hd
theorem kept_deeds {W : Wd} (h : Good W) : ∀ l : List Ded, Kept W (W.deeds l).1 := by
  intro l
  induction l generalizing W with
  | nil => exact Kept.rf W
  | cons d l ih =>
    simp only [Wd.deeds]
    cases hd : W.deed d with
    | none => exact ih h
    | some V => exact (kept_deed h hd).tr (ih (h.deed hd))
theorem Kept.getD {W V : Wd} (h : Kept W V) {i : Nat} (hi : i < W.troops.length) : { V.troops.getD i default with load := (W.troops.getD i default).load } = W.troops.getD i default := by
  obtain ⟨t, ht⟩ := get_of hi
  obtain ⟨u, hu, e⟩ := h.old i t ht
  rw [List.getD_eq_getElem?_getD, List.getD_eq_getElem?_getD, ht, hu]
  exact e
theorem do_of {W : Wd} {l : List Ded} (h : W.doE l = 0) : Good W ∧ l.length ≤ 200 ∧ W.doW l = (W.deeds l).1 ∧ W.doB l = (W.deeds l).2 := by
  have hc : W.chk = 0 := by
    cases hd : decide (W.chk = 0) with
    | true => simpa using hd
    | false => have := (do_bad (W := W) (l := l) (by simpa using hd)).2.2; rw [h] at this; exact this.symm
  have hl : l.length ≤ 200 := by
    cases hd : decide (l.length ≤ 200) with
    | true => simpa using hd
    | false => have := (do_large (W := W) (l := l) hc (by simpa using hd)).2.2; rw [h] at this; cases this
  exact ⟨Good.of_chk hc, hl, do_ok1 hc hl, do_ok2 hc hl⟩
theorem deeds_app (W : Wd) (l m : List Ded) : W.deeds (l ++ m) = (((W.deeds l).1.deeds m).1, (W.deeds l).2 ++ ((W.deeds l).1.deeds m).2) := by
  induction l generalizing W with
  | nil => rfl
  | cons d l ih =>
    simp only [List.cons_append, Wd.deeds]
    cases W.deed d with
    | none => simp only [ih, List.cons_append]
    | some V => simp only [ih, List.cons_append]
/-- Those of a list that are marked. -/
def picked : List Ded → List Bool → List Ded
  | d :: l, b :: bs => if b then d :: picked l bs else picked l bs
  | _, _ => []
theorem picked_deeds (W : Wd) (l : List Ded) : (W.deeds (picked l (W.deeds l).2)).1 = (W.deeds l).1 := by
  induction l generalizing W with
  | nil => rfl
  | cons d l ih =>
    simp only [Wd.deeds]
    cases hd : W.deed d with
    | none =>
      show (W.deeds (picked l (W.deeds l).2)).1 = _
      exact ih W
    | some V =>
      show (W.deeds (d :: picked l (V.deeds l).2)).1 = _
      simp only [Wd.deeds, hd]
      exact ih V
theorem picked_len (l : List Ded) (bs : List Bool) : (picked l bs).length ≤ l.length := by
  induction l generalizing bs with
  | nil => simp [picked]
  | cons d l ih =>
    cases bs with
    | nil => simp [picked]
    | cons b bs =>
      have := ih bs
      unfold picked
      split <;> simp only [List.length_cons] <;> omega
theorem picked_snoc (l : List Ded) (bs : List Bool) (d : Ded) (b : Bool) (h : l.length = bs.length) : picked (l ++ [d]) (bs ++ [b]) = picked l bs ++ (if b then [d] else []) := by
  induction l generalizing bs with
  | nil =>
    obtain rfl : bs = [] := List.eq_nil_of_length_eq_zero h.symm
    cases b <;> rfl
  | cons x l ih =>
    cases bs with
    | nil => cases h
    | cons y bs =>
      simp only [List.cons_append, picked]
      rw [ih bs (by simpa using h)]
      cases y <;> rfl
theorem picked_take {l : List Ded} {bs : List Bool} {k : Nat} (hk : k < l.length) (h : l.length = bs.length) : picked (l.take (k + 1)) (bs.take (k + 1)) = picked (l.take k) (bs.take k) ++ (if bs.getD k false then [l.getD k default] else []) := by
  rw [List.take_succ_eq_append_getElem hk, List.take_succ_eq_append_getElem (by omega : k < bs.length), picked_snoc _ _ _ _ (by simp [h])]
  rw [List.getD_eq_getElem?_getD, List.getD_eq_getElem?_getD, List.getElem?_eq_getElem hk, List.getElem?_eq_getElem (by omega : k < bs.length)]
  rfl
theorem picked_yes {l : List Ded} {bs : List Bool} {k : Nat} (hk : k < l.length) (h : l.length = bs.length) (hb : bs.getD k false = true) : picked (l.take (k + 1)) (bs.take (k + 1)) = picked (l.take k) (bs.take k) ++ [l.getD k default] := by
  rw [picked_take hk h, hb]; rfl
theorem picked_no {l : List Ded} {bs : List Bool} {k : Nat} (hk : k < l.length) (h : l.length = bs.length) (hb : bs.getD k false = false) : picked (l.take (k + 1)) (bs.take (k + 1)) = picked (l.take k) (bs.take k) := by
  rw [picked_take hk h, hb]; simp
theorem cuts {W : Wd} {l m : List Ded} (h1 : W.doE l = 0) (h2 : (W.doW l).doE m = 0) (h3 : l.length + m.length ≤ 200) : W.doE (l ++ m) = 0 ∧ (W.doW l).doW m = W.doW (l ++ m) ∧ W.doB (l ++ m) = W.doB l ++ (W.doW l).doB m := by
  obtain ⟨hG, hl, e1, e2⟩ := do_of h1
  obtain ⟨hV, hm, f1, f2⟩ := do_of h2
  have hle : (l ++ m).length ≤ 200 := by rw [List.length_append]; exact h3
  rw [do_ok1 hG.chk0 hle, do_ok2 hG.chk0 hle, deeds_app, f1, f2, e1, e2]
  exact ⟨do_ok3 hG.chk0 hle, rfl, rfl⟩
theorem picked_do {W : Wd} {l : List Ded} (h1 : W.doE l = 0) : W.doE (picked l (W.doB l)) = 0 ∧ W.doW (picked l (W.doB l)) = W.doW l := by
  obtain ⟨hG, hl, e1, e2⟩ := do_of h1
  have hle : (picked l (W.doB l)).length ≤ 200 := Nat.le_trans (picked_len _ _) hl
  refine ⟨do_ok3 hG.chk0 hle, ?_⟩
  rw [do_ok1 hG.chk0 hle, e1, e2, picked_deeds]
theorem doB_len {W : Wd} {l : List Ded} (h1 : W.doE l = 0) : (W.doB l).length = l.length := by
  obtain ⟨hG, hl, e1, e2⟩ := do_of h1
  rw [e2, deeds_len]
theorem mem_d {α : Type} {l : List α} {k : Nat} {u : α} (h : k < l.length) : l.getD k u ∈ l := by
  rw [List.getD_eq_getElem?_getD, List.getElem?_eq_getElem h]; exact List.getElem_mem h
theorem cuts_no {W : Wd} {l m : List Ded} (h : (((W.doE l != 0 || (W.doW l).doE m != 0) || decide (200 < (l.length : Int) + (m.length : Int))) || ((W.doB l).length : Int) != (l.length : Int)) = true) : ((W.doE l != 0 || (W.doW l).doE m != 0) || decide (200 < (l.length : Int) + (m.length : Int))) = true := by
  by_cases h1 : W.doE l = 0
  · rw [doB_len h1] at h
    simpa using h
  · have e : (W.doE l != 0) = true := by simpa using h1
    rw [e]; rfl
theorem cuts_yes {W : Wd} {l : List Ded} {k : Nat} (h1 : W.doE l = 0) (hk : k = l.length) : (W.doE (picked (l.take k) ((W.doB l).take k)) == 0 && decide (W.doW (picked (l.take k) ((W.doB l).take k)) = W.doW l)) = true := by
  have hb := doB_len h1
  rw [hk, List.take_length, ← hb, List.take_length]
  rw [(picked_do h1).1, decide_eq_true (picked_do h1).2]; rfl
theorem info_bool : (Try.prog.info? 4).map (fun i => (i.zero, i.size, i.bytes)) = some (some (.bool false), 1, 1) := by kernel_rfl
set_option maxRecDepth 100000 in
set_option maxHeartbeats 1000000 in
theorem clone_D (A : Option Addr) (c : Nat) (l : List Ded) (w : World) (h : Ded.rep.SHas 40 w A c l) :
    Calls Try.prog 20 #[.slice A l.length c] w fun e w' => ∃ A' c', e = .returned (.slice A' l.length c') ∧ Ded.rep.SOwn 45 40 w' w.heap.size (Rep.blkOf A') A' c' l ∧ (A' = none ↔ A = none) ∧ Below w.heap.size w w' := by
  obtain ⟨i0, hi, hz0, hz1, hz2⟩ := info_parts Ded.info
  have qnil : ∀ (w : World) (a : Option Addr) (n c n' c' : Nat), (binOp .eql 29 (.slice a n c) (.slice none n' c')).run Try.prog w = .ok (.bool a.isNone) w := fun w a n c n' c' => Lib.run_eql_slice_nil w _ _ a n c n' c' Try.underlying29
  cases A with
  | none =>
    obtain rfl : c = 0 := h.2.2.2.1 rfl
    obtain rfl : l = [] := List.eq_nil_of_length_eq_zero (by have := h.1; omega)
    go_enter Try.func20, Try.ntmps20
    go_wp2_with fail
    go_ret
    exact ⟨none, 0, rfl, Rep.SOwn.nil _, by simp, Below.refl _ _⟩
  | some a =>
    have hb0 : Below w.heap.size w (w.alloc (.cells #[] 45)) := (Below.refl _ w).alloc (Nat.le_refl _) _
    obtain ⟨n, HN⟩ : ∃ n, Hid (l.length = n) := ⟨_, Lib.hid rfl⟩
    obtain ⟨h1, h2, h3, h4, ess, h5, h6⟩ := h.keep hb0
    have H5 := Lib.hid h5
    have hone : ∀ u ∈ ess.flatten, u.oneCell' = true := by
      intro u hu
      obtain ⟨y, hy, hu⟩ := List.mem_flatten.1 hu
      obtain ⟨a, ha⟩ := h5.left y hy
      exact Ded.rep.one ha u hu
    have hraw : ∀ (j : Nat) u, ess.flatten[j]? = some u → Ded.rep.raw (j % Ded.rep.size) u := fun j u hu => flat_raw h5 (by decide) hu
    rw [HN.out] at h1 h3 h6
    have HR := Lib.hid h6
    have HE := Lib.hid (Own.empty (e := 45) (size := Ded.rep.size) (G := Ded.rep.raw) w (Nat.le_refl w.heap.size))
    clear h h4 h5 h6
    rw [HN.out]
    go_enter Try.func20, Try.ntmps20
    go_wp2_with (at_builtin; refine wpList_append_all _ rfl _ _ 29 rfl w.heap.size 45 i0 Ded.zero Ded.rep.size 40 Try.underlying29 hi hz0 hz1 hz2 rfl (by decide) Ded.rep.raw Ded.zero_raw _ _ _ rfl HE.out (some a) n c ess.flatten rfl HR.out hone hraw ?qc4 ?qc5 ?qc6 ?_)
    case qc4 => unfold maxLen; omega
    case qc5 => omega
    case qc6 => simp
    intro v' w1 hown hgrow hnil hat
    have hb1 := hb0.grown hgrow (by simp) (by intro k hk; simp [Value.ownBlock] at hk; omega)
    obtain ⟨A1, c1, rfl, hle, _, _, _, hnn⟩ := hown.shape
    have hA1 : A1 ≠ none := by
      intro h
      subst h
      exact hnil (hnn rfl)
    have HO : Hid (Ded.rep.SOwn 45 40 w1 w.heap.size (Rep.blkOf A1) A1 c1 l) := Lib.hid (Rep.SOwn.of_plain Ded.plain H5.out (by rw [HN.out]; exact h3) (by rw [HN.out]; simpa using hown))
    have HA1 := Lib.hid hA1
    clear hgrow hnil hat hown hA1 hnn hone hraw
    go_wp2_with fail
    go_ret
    exact ⟨A1, c1, rfl, HO.out, ⟨fun h => absurd h HA1.out, fun h => by cases h⟩, hb1⟩
set_option maxRecDepth 100000 in
set_option maxHeartbeats 1000000 in
theorem clone_B (A : Option Addr) (c : Nat) (l : List Bool) (w : World) (h : repB.SHas 1 w A c l) :
    Calls Try.prog 23 #[.slice A l.length c] w fun e w' => ∃ A' c', e = .returned (.slice A' l.length c') ∧ repB.SOwn 4 1 w' w.heap.size (Rep.blkOf A') A' c' l ∧ (A' = none ↔ A = none) ∧ Below w.heap.size w w' := by
  obtain ⟨i0, hi, hz0, hz1, hz2⟩ := info_parts info_bool
  have qnil : ∀ (w : World) (a : Option Addr) (n c n' c' : Nat), (binOp .eql 30 (.slice a n c) (.slice none n' c')).run Try.prog w = .ok (.bool a.isNone) w := fun w a n c n' c' => Lib.run_eql_slice_nil w _ _ a n c n' c' Try.underlying30
  cases A with
  | none =>
    obtain rfl : c = 0 := h.2.2.2.1 rfl
    obtain rfl : l = [] := List.eq_nil_of_length_eq_zero (by have := h.1; omega)
    go_enter Try.func23, Try.ntmps23
    go_wp2_with fail
    go_ret
    exact ⟨none, 0, rfl, Rep.SOwn.nil _, by simp, Below.refl _ _⟩
  | some a =>
    have hb0 : Below w.heap.size w (w.alloc (.cells #[] 4)) := (Below.refl _ w).alloc (Nat.le_refl _) _
    obtain ⟨n, HN⟩ : ∃ n, Hid (l.length = n) := ⟨_, Lib.hid rfl⟩
    obtain ⟨h1, h2, h3, h4, ess, h5, h6⟩ := h.keep hb0
    have H5 := Lib.hid h5
    have hone : ∀ u ∈ ess.flatten, u.oneCell' = true := by
      intro u hu
      obtain ⟨y, hy, hu⟩ := List.mem_flatten.1 hu
      obtain ⟨a, ha⟩ := h5.left y hy
      exact repB.one ha u hu
    have hraw : ∀ (j : Nat) u, ess.flatten[j]? = some u → repB.raw (j % repB.size) u := fun j u hu => flat_raw h5 (by decide) hu
    rw [HN.out] at h1 h3 h6
    have HR := Lib.hid h6
    have HE := Lib.hid (Own.empty (e := 4) (size := repB.size) (G := repB.raw) w (Nat.le_refl w.heap.size))
    clear h h4 h5 h6
    rw [HN.out]
    go_enter Try.func23, Try.ntmps23
    go_wp2_with (at_builtin; refine wpList_append_all _ rfl _ _ 30 rfl w.heap.size 4 i0 (.bool false) repB.size 1 Try.underlying30 hi hz0 hz1 hz2 rfl (by decide) repB.raw raw0B _ _ _ rfl HE.out (some a) n c ess.flatten rfl HR.out hone hraw ?qc4 ?qc5 ?qc6 ?_)
    case qc4 => unfold maxLen; omega
    case qc5 => omega
    case qc6 => simp
    intro v' w1 hown hgrow hnil hat
    have hb1 := hb0.grown hgrow (by simp) (by intro k hk; simp [Value.ownBlock] at hk; omega)
    obtain ⟨A1, c1, rfl, hle, _, _, _, hnn⟩ := hown.shape
    have hA1 : A1 ≠ none := by
      intro h
      subst h
      exact hnil (hnn rfl)
    have HO : Hid (repB.SOwn 4 1 w1 w.heap.size (Rep.blkOf A1) A1 c1 l) := Lib.hid (Rep.SOwn.of_plain repB_plain H5.out (by rw [HN.out]; exact h3) (by rw [HN.out]; simpa using hown))
    have HA1 := Lib.hid hA1
    clear hgrow hnil hat hown hA1 hnn hone hraw
    go_wp2_with fail
    go_ret
    exact ⟨A1, c1, rfl, HO.out, ⟨fun h => absurd h HA1.out, fun h => by cases h⟩, hb1⟩
end Go.Proofs.Yticfnngppcmidaa
