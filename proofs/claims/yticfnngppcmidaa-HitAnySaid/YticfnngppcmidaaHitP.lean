/-
  What blows leave: plain law.
-/
import Derived.Test.YticfnngppcmidaaHitL
import Derived.Test.YticfnngppcmidaaGoodP
set_option linter.unusedVariables false
set_option linter.unusedSimpArgs false
namespace Go.Proofs.Yticfnngppcmidaa
open Go.RowKit

theorem filter_both {α : Type} (p : α → Bool) : ∀ l : List α, (l.filter p).length + (l.filter fun x => !p x).length = l.length
  | [] => rfl
  | x :: l => by
    have ih := filter_both p l
    rw [List.filter_cons, List.filter_cons]
    cases p x <;> simp <;> omega
def hurts (W : Wd) (l : List Blw) : List Trp := (List.range W.troops.length).map (hurt W.troops (harmW W l))
structure Struck (W : Wd) (l : List Blw) : Prop where
  good : Good W
  hW : struckW W l = { W with troops := (hurts W l).filter fun t => decide (0 < t.life) }
  hG : struckG W l = ((hurts W l).filter fun t => !decide (0 < t.life)).map Trp.id
  harm : ∀ k, 0 ≤ (harmW W l).getD k 0
  hl : (harmW W l).length = W.troops.length
theorem struck_of {W : Wd} {l : List Blw} (h : blowE W l = 0) : Struck W l :=
  ⟨Good.of_chk (blowE_ok h).1, (struck_ok h rfl).1, (struck_ok h rfl).2, fun k => ((harm_of h).2 k).1, (harm_of h).1⟩
theorem hurts_len (W : Wd) (l : List Blw) : (hurts W l).length = W.troops.length := by simp [hurts]
theorem hurts_get {W : Wd} {l : List Blw} {k : Nat} {t : Trp} (h : W.troops[k]? = some t) : (hurts W l)[k]? = some { t with life := t.life - (harmW W l).getD k 0 } := by
  have hk := (List.getElem?_eq_some_iff.1 h).1
  unfold hurts
  rw [List.getElem?_map, List.getElem?_range hk, Option.map_some]
  unfold hurt
  rw [getD_of h]
theorem hurts_mem {W : Wd} {l : List Blw} {x : Trp} (h : x ∈ hurts W l) : ∃ (k : Nat) (t : Trp), W.troops[k]? = some t ∧ x = { t with life := t.life - (harmW W l).getD k 0 } := by
  obtain ⟨k, hk⟩ := List.mem_iff_getElem?.1 h
  have hlt := (List.getElem?_eq_some_iff.1 hk).1
  rw [hurts_len] at hlt
  obtain ⟨t, ht⟩ := get_of hlt
  rw [hurts_get ht] at hk
  injection hk with hk
  exact ⟨k, t, ht, hk.symm⟩
theorem Struck.pw {W : Wd} {l : List Blw} (h : Struck W l) : (hurts W l).Pairwise Apart := by
  rw [List.pairwise_iff_getElem]
  intro i j hi hj hij
  rw [hurts_len] at hi hj
  obtain ⟨s, hs⟩ := get_of hi
  obtain ⟨t, ht⟩ := get_of hj
  have e1 := (List.getElem?_eq_some_iff.1 (hurts_get (l := l) hs)).2
  have e2 := (List.getElem?_eq_some_iff.1 (hurts_get (l := l) ht)).2
  rw [e1, e2]
  have := (List.pairwise_iff_getElem.1 h.good.pw) i j hi hj hij
  rw [(List.getElem?_eq_some_iff.1 hs).2, (List.getElem?_eq_some_iff.1 ht).2] at this
  exact this
theorem Struck.right {W : Wd} {l : List Blw} (h : Struck W l) : Good (struckW W l) := by
  rw [h.hW]
  refine Good.of_pw h.good rfl rfl rfl rfl rfl h.good.now ?_ (h.pw.filter _) fun t ht => ?_
  · exact Nat.le_trans (List.length_filter_le _ _) (by rw [hurts_len]; exact h.good.nt)
  · obtain ⟨ht, hp⟩ := List.mem_filter.1 ht
    obtain ⟨k, s, hs, rfl⟩ := hurts_mem ht
    have h1 := h.good.each (List.mem_of_getElem? hs)
    have h2 := h.harm k
    have h3 := of_decide_eq_true hp
    refine ⟨h1.1, h1.2.1, ⟨h1.2.2.kind, h1.2.2.owner, h1.2.2.ground, ?_, h1.2.2.load⟩⟩
    have h4 := h1.2.2.life
    show 1 ≤ s.life - _ ∧ s.life - _ ≤ Wd.lifeOf s.kind
    have h5 : 0 < s.life - (harmW W l).getD k 0 := h3
    omega
theorem Struck.count {W : Wd} {l : List Blw} (h : Struck W l) : (struckW W l).troops.length + (struckG W l).length = W.troops.length := by
  rw [h.hW, h.hG, List.length_map, ← hurts_len W l]
  exact filter_both _ _
theorem sorted_of {l : List Int} (h : l.Pairwise (· < ·)) : sortedI l = true := by
  refine sorted_yes fun i hi => ?_
  have := (List.pairwise_iff_getElem.1 h) i (i + 1) (by omega) hi (by omega)
  rw [List.getD_eq_getElem?_getD, List.getD_eq_getElem?_getD, List.getElem?_eq_getElem hi, List.getElem?_eq_getElem (by omega : i < l.length)]
  show ¬ l[i + 1] < l[i]
  omega
theorem Struck.sorted {W : Wd} {l : List Blw} (h : Struck W l) : sortedI (struckG W l) = true := by
  rw [h.hG]
  refine sorted_of ?_
  rw [List.pairwise_map]
  exact (h.pw.filter _).imp fun h => h.1
/-- Each troop is there still, no more alive than it was; or it is gone. -/
theorem Struck.each {W : Wd} {l : List Blw} (h : Struck W l) {k : Nat} (hk : k < W.troops.length) :
    (∃ m : Int, 0 ≤ m ∧ trOfD (struckW W l).troops (W.troops.getD k default).id = some { W.troops.getD k default with life := (W.troops.getD k default).life - m } ∧ (struckG W l).any (fun y => (W.troops.getD k default).id == y) = false) ∨
    (trOfD (struckW W l).troops (W.troops.getD k default).id = none ∧ (struckG W l).any (fun y => (W.troops.getD k default).id == y) = true) := by
  obtain ⟨t, ht⟩ := get_of hk
  rw [getD_of ht]
  have hx := hurts_get (l := l) ht
  obtain ⟨x, hxe⟩ : ∃ x : Trp, x = { t with life := t.life - (harmW W l).getD k 0 } := ⟨_, rfl⟩
  rw [← hxe] at hx
  have hxm := List.mem_of_getElem? hx
  have hid : x.id = t.id := by rw [hxe]
  have huniq : ∀ y ∈ hurts W l, y.id = t.id → y = x := fun y hy e => by
    have h1 := find_id h.pw hy
    have h2 := find_id h.pw hxm
    rw [e] at h1; rw [hid, h1] at h2
    injection h2
  rw [h.hW, h.hG]
  by_cases hp : 0 < x.life
  · refine .inl ⟨(harmW W l).getD k 0, h.harm k, ?_, ?_⟩
    · have := find_id (h.pw.filter fun t => decide (0 < t.life)) (List.mem_filter.2 ⟨hxm, decide_eq_true hp⟩)
      rw [hid] at this
      rw [← hxe]; exact this
    · rw [List.any_eq_false]
      intro y hy
      obtain ⟨z, hz, rfl⟩ := List.mem_map.1 hy
      obtain ⟨hz1, hz2⟩ := List.mem_filter.1 hz
      intro e
      have e : t.id = z.id := by simpa using e
      have := huniq z hz1 e.symm
      subst this
      rw [decide_eq_true hp] at hz2
      exact nomatch hz2
  · refine .inr ⟨find_noid fun y hy e => ?_, ?_⟩
    · obtain ⟨h1, h2⟩ := List.mem_filter.1 hy
      have := huniq y h1 e
      subst this
      exact hp (of_decide_eq_true h2)
    · rw [List.any_eq_true]
      exact ⟨x.id, List.mem_map.2 ⟨x, List.mem_filter.2 ⟨hxm, by rw [decide_eq_false hp]; rfl⟩, rfl⟩, by rw [hid]; simp⟩
end Go.Proofs.Yticfnngppcmidaa
