/-
  What a player sees: plain law.
-/
import Derived.Test.YtkijhejjnlmbmaaMiV
import Derived.Test.YtkijhejjnlmbmaaGoodP
import Derived.Test.YtkijhejjnlmbmaaLawA
set_option linter.unusedVariables false
set_option linter.unusedSimpArgs false
namespace Go.Proofs.Ytkijhejjnlmbmaa
open Go.RowKit

theorem hideK_get (b : List Bool) (l : List Int) : ∀ k i, (hideK b l k)[i]? = if i < k ∧ b.getD i false = false then (l[i]?).map (fun _ => (0 : Int)) else l[i]?
  | 0, i => by rw [if_neg (by omega)]; rfl
  | k + 1, i => by
    have ih := hideK_get b l k i
    cases h : (!b.getD k false) with
    | true =>
      rw [hideK_yes h, List.getElem?_set]
      by_cases e : k = i
      · subst e
        rw [if_pos rfl, hideK_len]
        by_cases hk : k < l.length
        · rw [if_pos hk, if_pos ⟨by omega, by simpa using h⟩, List.getElem?_eq_getElem hk]; rfl
        · rw [if_neg hk, if_pos ⟨by omega, by simpa using h⟩, List.getElem?_eq_none (by omega)]; rfl
      · rw [if_neg e, ih]
        by_cases c : i < k ∧ b.getD i false = false
        · rw [if_pos c, if_pos ⟨by omega, c.2⟩]
        · rw [if_neg c, if_neg (by intro c2; exact c ⟨by omega, c2.2⟩)]
    | false =>
      rw [hideK_no h, ih]
      by_cases e : k = i
      · subst e
        rw [if_neg (by omega), if_neg (by intro c2; rw [c2.2] at h; exact nomatch h)]
      · by_cases c : i < k ∧ b.getD i false = false
        · rw [if_pos c, if_pos ⟨by omega, c.2⟩]
        · rw [if_neg c, if_neg (by intro c2; exact c ⟨by omega, c2.2⟩)]
theorem hideK_twice (b : List Bool) (l : List Int) (n : Nat) : hideK b (hideK b l n) n = hideK b l n := by
  refine List.ext_getElem? fun i => ?_
  rw [hideK_get, hideK_get]
  by_cases c : i < n ∧ b.getD i false = false
  · rw [if_pos c, if_pos c]; cases l[i]? <;> rfl
  · rw [if_neg c, if_neg c]
theorem good_bare {W : Wd} (hG : Good W) {s m : List Int} {n : Int} (hs : s.length = W.bases.length) (hs2 : ∀ (i : Nat) x, s[i]? = some x → 0 ≤ x ∧ x ≤ 1000000) (hm : m.length = W.field.places.length)
    (hm2 : ∀ (i : Nat) x, m[i]? = some x → 0 ≤ x ∧ x ≤ 1000000 ∧ (x ≤ 0 ∨ W.field.places.getD i 0 = 3)) (hn : 1 ≤ n ∧ n ≤ 1000000) : Good { W with stocks := s, mines := m, troops := [], next := n } where
  field := hG.field
  nb := hG.nb
  nt := Nat.zero_le _
  sl := hs
  bases := hG.bases
  stocks := hs2
  ml := hm
  mines := hm2
  troops := fun i t ht => by simp at ht
  ids := fun i t ht => by simp at ht
  spots := fun i t ht => by simp at ht
  next := hn
  now := hG.now
theorem pw_last {l : List Trp} (hP : l.Pairwise Apart) {t : Trp} (ht : t ∈ l) : t.id ≤ (l.getD (l.length - 1) default).id := by
  obtain ⟨i, hi, rfl⟩ := List.mem_iff_getElem.1 ht
  rw [getD_dd (by omega)]
  by_cases e : i = l.length - 1
  · subst e; exact Int.le_refl _
  · have := (List.pairwise_iff_getElem.1 hP) i (l.length - 1) hi (by omega) (by omega)
    exact Int.le_of_lt this.1
theorem vtroops_pw {W : Wd} (hG : Good W) (p : Int) : (vtroops W p).Pairwise Apart := hG.pw.sublist List.filter_sublist
theorem vnext_bd {W : Wd} (hG : Good W) (p : Int) : 1 ≤ vnext (vtroops W p) ∧ vnext (vtroops W p) ≤ 1000000 := by
  unfold vnext
  split
  · rename_i h
    have := vtroops_id hG (p := p) (k := (vtroops W p).length - 1) (by omega)
    omega
  · omega
theorem view_good {W : Wd} {p : Int} (h : mistE W p = 0) : Good (viewW W p) := by
  obtain ⟨hchk, hp0, hp1⟩ := mistE_ok h
  have hG := Good.of_chk hchk
  rw [view_ok h]
  have h1 : Good { W with stocks := (List.replicate W.stocks.length 0).set p.toNat (W.stocks.getD p.toNat 0), mines := hideK (mistB W p) W.mines W.mines.length, troops := [], next := vnext (vtroops W p) } := by
    refine good_bare hG ?_ ?_ ?_ ?_ (vnext_bd hG p)
    · rw [List.length_set, List.length_replicate, hG.sl]
    · intro i x hx
      rw [List.getElem?_set] at hx
      split at hx
      · rename_i e
        split at hx
        · rename_i e2
          obtain rfl := Option.some.inj hx
          rw [List.length_replicate] at e2
          have := hG.stocks i _ (List.getElem?_eq_getElem (by omega))
          rw [e, getD_dd (by omega)]; exact this
        · exact nomatch hx
      · have := List.getElem?_eq_some_iff.1 hx
        obtain ⟨h1, h2⟩ := this
        rw [List.getElem_replicate] at h2
        omega
    · rw [hideK_len, hG.ml]
    · intro i x hx
      rw [hideK_get] at hx
      split at hx
      · cases hq : W.mines[i]? with
        | none => rw [hq] at hx; exact nomatch hx
        | some y => rw [hq] at hx; have hx0 : (0 : Int) = x := Option.some.inj hx; exact ⟨by omega, by omega, .inl (by omega)⟩
      · exact hG.mines i x hx
  refine Good.of_pw h1 rfl rfl rfl rfl rfl hG.now (Nat.le_trans (vtroops_len W p) hG.nt) (vtroops_pw hG p) fun t ht => ?_
  have hm := (List.mem_filter.1 ht).1
  obtain ⟨i, hi, e⟩ := List.mem_iff_getElem.1 hm
  have h2 := hG.ids i _ (List.getElem?_eq_getElem hi)
  have h3 := hG.troops i _ (List.getElem?_eq_getElem hi)
  rw [e] at h2 h3
  have h4 := pw_last (vtroops_pw hG p) ht
  refine ⟨by omega, ?_, h3⟩
  show t.id < vnext (vtroops W p)
  unfold vnext
  rw [if_pos (List.length_pos_of_mem ht)]
  omega
theorem view_E {W : Wd} {p : Int} (h : mistE W p = 0) : mistE (viewW W p) p = 0 := by
  obtain ⟨hchk, hp0, hp1⟩ := mistE_ok h
  have h1 := (view_good h).chk
  exact (mist_ok h1 (by rw [view_ok h]; exact ⟨hp0, hp1⟩)).1
theorem fold_filter {α β : Type} {f : β → α → β} {q : α → Bool} : ∀ (l : List α) (o : β), (∀ x ∈ l, ∀ o, q x = false → f o x = o) → (l.filter q).foldl f o = l.foldl f o
  | [], _, _ => rfl
  | x :: l, o, h => by
    rw [List.filter_cons]
    have ih := fun o => fold_filter l o fun y hy => h y (List.mem_cons_of_mem _ hy)
    cases hq : q x with
    | true => simp only [if_true, List.foldl_cons]; exact ih _
    | false => simp only [Bool.false_eq_true, if_false, List.foldl_cons]; rw [h x List.mem_cons_self o hq]; exact ih _
theorem seen_all (W : Wd) (p : Int) : seenK W p W.troops.length = W.troops.foldl (look1 W p) (marks W.field (List.replicate W.field.places.length false) (seenL W.field (W.bases.getD p.toNat default) 3)) := by unfold seenK; rw [List.take_length]
theorem look1_same {W V : Wd} (hf : V.field = W.field) (p : Int) : look1 V p = look1 W p := by funext o t; unfold look1; rw [hf]
theorem mistB_same {W V : Wd} {p : Int} (h : mistE W p = 0) (h2 : mistE V p = 0) (hf : V.field = W.field) (hb : V.bases = W.bases) (ht : ∀ o, V.troops.foldl (look1 W p) o = W.troops.foldl (look1 W p) o) : mistB V p = mistB W p := by
  unfold mistB
  rw [if_neg (by simpa using h2), if_neg (by simpa using h), seen_all, seen_all, look1_same hf, hf, hb, ht]
theorem vdel_owner {W : Wd} {p : Int} {x : Trp} (h : (!vdel W p x) = false) : x.owner ≠ p := by
  unfold vdel at h; simp at h; exact h.1
theorem view_B {W : Wd} {p : Int} (h : mistE W p = 0) : mistB (viewW W p) p = mistB W p := by
  have h2 := view_E h
  refine mistB_same h h2 (by rw [view_ok h]) (by rw [view_ok h]) fun o => ?_
  rw [view_ok h]
  exact fold_filter _ _ fun x _ o hx => by unfold look1; rw [if_neg (vdel_owner hx)]
theorem vdel_same {W V : Wd} {p : Int} (hf : V.field = W.field) (hB : mistB V p = mistB W p) : vdel V p = vdel W p := by funext x; unfold vdel; rw [hf, hB]
theorem view_twice {W : Wd} {p : Int} (h : mistE W p = 0) : viewW (viewW W p) p = viewW W p := by
  have h2 := view_E h
  obtain ⟨hchk, hp0, hp1⟩ := mistE_ok h
  have hG := Good.of_chk hchk
  have hsl := hG.sl
  have hB := view_B h
  rw [view_ok h2, vtroops, vdel_same (by rw [view_ok h]) hB, hB, view_ok h]
  simp only [Wd.mk.injEq, true_and, and_true]
  refine ⟨?_, ?_, ?_, ?_⟩
  · rw [List.length_set, List.length_replicate, List.getD_eq_getElem?_getD, List.getElem?_set_self (by rw [List.length_replicate]; omega)]; rfl
  · rw [hideK_len, hideK_twice]
  · unfold vtroops; rw [List.filter_filter]; simp
  · unfold vtroops; rw [List.filter_filter]; simp
theorem cells_view {W : Wd} {p : Int} (h : mistE W p = 0) : cellsL (viewW W p) p = cellsL W p := by
  unfold cellsL; rw [view_B h]; congr 1; rw [view_ok h]
/-! One that isn't seen. -/
def hurt (t : Trp) (n : Int) : Trp := { t with life := max 1 (min n t.life) }
end Go.Proofs.Ytkijhejjnlmbmaa
