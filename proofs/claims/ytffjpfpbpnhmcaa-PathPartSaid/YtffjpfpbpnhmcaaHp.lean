/-
  Heaps, in plain Lean: up, down, what is pushed and popped.
-/
import Derived.Test.YtffjpfpbpnhmcaaGol
set_option linter.unusedVariables false
set_option linter.unusedSimpArgs false
namespace Go.Proofs.Ytffjpfpbpnhmcaa
open Go.RowKit

namespace Hp
section
variable {α : Type} [Inhabited α] {key : α → Int} {l : List α} {i j n k : Nat} {x : α}
def swp (l : List α) (i j : Nat) : List α := (l.set i (l.getD j default)).set j (l.getD i default)
theorem swp_len : (swp l i j).length = l.length := by unfold swp; rw [List.length_set, List.length_set]
theorem getD_set {i k : Nat} (hi : i < l.length) : (l.set i x).getD k default = if k = i then x else l.getD k default := by
  rw [List.getD_eq_getElem?_getD, List.getD_eq_getElem?_getD, List.getElem?_set]
  by_cases e : i = k
  · subst e; rw [if_pos rfl, if_pos rfl]; simp [hi]
  · rw [if_neg e, if_neg (fun h => e h.symm)]
theorem swp_get (hi : i < l.length) (hj : j < l.length) : (swp l i j).getD k default = if k = j then l.getD i default else if k = i then l.getD j default else l.getD k default := by
  unfold swp
  rw [getD_set (by rw [List.length_set]; exact hj), getD_set hi]
theorem swp_perm (hi : i < l.length) (hj : j < l.length) : (swp l i j).Perm l := by
  have h := Array.swap_perm (xs := l.toArray) (i := i) (j := j) (by simpa using hi) (by simpa using hj)
  have h := h.toList
  have e : (l.toArray.swap i j (by simpa using hi) (by simpa using hj)).toList = swp l i j := by
    unfold swp
    rw [List.getD_eq_getElem?_getD, List.getD_eq_getElem?_getD, List.getElem?_eq_getElem hi, List.getElem?_eq_getElem hj]
    simp [Array.swap]
  rw [e] at h
  simpa using h
def upF (key : α → Int) (l : List α) (j : Nat) : List α :=
  if 0 < j ∧ key (l.getD j default) < key (l.getD ((j - 1) / 2) default) then upF key (swp l ((j - 1) / 2) j) ((j - 1) / 2) else l
termination_by j
decreasing_by omega
def lowC (key : α → Int) (n : Nat) (l : List α) (i : Nat) : Nat := if 2 * i + 2 < n ∧ key (l.getD (2 * i + 2) default) < key (l.getD (2 * i + 1) default) then 2 * i + 2 else 2 * i + 1
theorem lowC_gt : i < lowC key n l i := by unfold lowC; split <;> omega
theorem lowC_lt (h : 2 * i + 1 < n) : lowC key n l i < n := by unfold lowC; split <;> omega
theorem lowC_par : (lowC key n l i - 1) / 2 = i := by unfold lowC; split <;> omega
theorem lowC_min (hk : 0 < k) (hn : k < n) (hp : (k - 1) / 2 = i) : key (l.getD (lowC key n l i) default) ≤ key (l.getD k default) := by
  have : k = 2 * i + 1 ∨ k = 2 * i + 2 := by omega
  unfold lowC
  split
  · rename_i h
    rcases this with rfl | rfl
    · omega
    · exact Int.le_refl _
  · rename_i h
    rcases this with rfl | rfl
    · exact Int.le_refl _
    · have : ¬ key (l.getD (2 * i + 2) default) < key (l.getD (2 * i + 1) default) := fun hh => h ⟨hn, hh⟩
      omega
def downF (key : α → Int) (n : Nat) (l : List α) (i : Nat) : List α :=
  if 2 * i + 1 < n ∧ key (l.getD (lowC key n l i) default) < key (l.getD i default) then downF key n (swp l i (lowC key n l i)) (lowC key n l i) else l
termination_by n - i
decreasing_by rename_i h; have := lowC_gt (key := key) (n := n) (l := l) (i := i); omega
theorem upF_len : ∀ (j : Nat) (l : List α), (upF key l j).length = l.length := by
  intro j
  induction j using Nat.strongRecOn with
  | ind j ih =>
    intro l
    unfold upF
    split
    · rw [ih _ (by omega), swp_len]
    · rfl
theorem upF_perm : ∀ (j : Nat) (l : List α), j < l.length → (upF key l j).Perm l := by
  intro j
  induction j using Nat.strongRecOn with
  | ind j ih =>
    intro l hl
    unfold upF
    split
    · exact (ih _ (by omega) _ (by rw [swp_len]; omega)).trans (swp_perm (by omega) hl)
    · exact List.Perm.refl _
theorem downF_len (n : Nat) : ∀ (m i : Nat) (l : List α), n - i ≤ m → (downF key n l i).length = l.length := by
  intro m
  induction m with
  | zero => intro i l h; unfold downF; rw [if_neg (by omega)]
  | succ m ih =>
    intro i l h
    unfold downF
    split
    · have := lowC_gt (key := key) (n := n) (l := l) (i := i)
      rw [ih _ _ (by omega), swp_len]
    · rfl
theorem downF_perm (n : Nat) : ∀ (m i : Nat) (l : List α), n - i ≤ m → n ≤ l.length → i < l.length → (downF key n l i).Perm l := by
  intro m
  induction m with
  | zero => intro i l h _ _; unfold downF; rw [if_neg (by omega)]
  | succ m ih =>
    intro i l h hn hi
    unfold downF
    split
    · rename_i hc
      have := lowC_gt (key := key) (n := n) (l := l) (i := i)
      have := lowC_lt (key := key) (l := l) hc.1
      exact (ih _ _ (by omega) (by rw [swp_len]; exact hn) (by rw [swp_len]; omega)).trans (swp_perm hi (by omega))
    · exact List.Perm.refl _
theorem downF_out (n : Nat) : ∀ (m i : Nat) (l : List α), n - i ≤ m → n ≤ l.length → i < l.length → ∀ k, n ≤ k → i < n → (downF key n l i).getD k default = l.getD k default := by
  intro m
  induction m with
  | zero => intro i l h _ _ k _ _; unfold downF; rw [if_neg (by omega)]
  | succ m ih =>
    intro i l h hn hi k hk hin
    unfold downF
    split
    · rename_i hc
      have h1 := lowC_gt (key := key) (n := n) (l := l) (i := i)
      have h2 := lowC_lt (key := key) (l := l) hc.1
      rw [ih _ _ (by omega) (by rw [swp_len]; exact hn) (by rw [swp_len]; omega) k hk h2, swp_get hi (by omega), if_neg (by omega), if_neg (by omega)]
    · rfl
/-- A heap, as far as n. -/
def Heap (key : α → Int) (n : Nat) (l : List α) : Prop := ∀ i, 0 < i → i < n → key (l.getD ((i - 1) / 2) default) ≤ key (l.getD i default)
theorem upF_heap (n : Nat) : ∀ (j : Nat) (l : List α), j < n → n ≤ l.length → (∀ i, 0 < i → i < n → i ≠ j → key (l.getD ((i - 1) / 2) default) ≤ key (l.getD i default)) →
    (∀ i, 0 < i → i < n → (i - 1) / 2 = j → 0 < j → key (l.getD ((j - 1) / 2) default) ≤ key (l.getD i default)) → Heap key n (upF key l j) := by
  intro j
  induction j using Nat.strongRecOn with
  | ind j ih =>
    intro l hj hn h1 h2
    unfold upF
    split
    · rename_i hc
      obtain ⟨h0, hlt⟩ := hc
      have hg : ∀ k, (swp l ((j - 1) / 2) j).getD k default = if k = j then l.getD ((j - 1) / 2) default else if k = (j - 1) / 2 then l.getD j default else l.getD k default := fun k => swp_get (by omega) (by omega)
      refine ih _ (by omega) _ (by omega) (by rw [swp_len]; exact hn) (fun i hi0 hin hne => ?_) (fun i hi0 hin hp h0p => ?_)
      · rw [hg, hg]
        by_cases e : i = j
        · subst e
          rw [if_pos rfl, if_neg (by omega), if_pos rfl]; omega
        · rw [if_neg e, if_neg hne]
          by_cases e2 : (i - 1) / 2 = j
          · rw [if_pos e2]; exact h2 i hi0 hin e2 h0
          · rw [if_neg e2]
            by_cases e3 : (i - 1) / 2 = (j - 1) / 2
            · rw [if_pos e3]
              have := h1 i hi0 hin e
              rw [e3] at this; omega
            · rw [if_neg e3]; exact h1 i hi0 hin e
      · rw [hg, hg]
        rw [if_neg (by omega), if_neg (by omega)]
        have hpp := h1 ((j - 1) / 2) h0p (by omega) (by omega)
        by_cases e : i = j
        · rw [if_pos e]; exact hpp
        · rw [if_neg e, if_neg (by omega)]
          have := h1 i hi0 hin e
          rw [hp] at this; omega
    · rename_i hc
      intro i hi0 hin
      by_cases e : i = j
      · subst e
        have : ¬ key (l.getD i default) < key (l.getD ((i - 1) / 2) default) := fun h => hc ⟨hi0, h⟩
        omega
      · exact h1 i hi0 hin e
theorem downF_heap (n : Nat) : ∀ (m i0 : Nat) (l : List α), n - i0 ≤ m → i0 < l.length → n ≤ l.length → (∀ i, 0 < i → i < n → (i - 1) / 2 ≠ i0 → key (l.getD ((i - 1) / 2) default) ≤ key (l.getD i default)) →
    (∀ i, 0 < i → i < n → (i - 1) / 2 = i0 → 0 < i0 → key (l.getD ((i0 - 1) / 2) default) ≤ key (l.getD i default)) → Heap key n (downF key n l i0) := by
  intro m
  induction m with
  | zero =>
    intro i0 l h _ _ h1 _
    unfold downF
    rw [if_neg (by omega)]
    intro i hi0 hin
    exact h1 i hi0 hin (by omega)
  | succ m ih =>
    intro i0 l h hil hn h1 h2
    unfold downF
    split
    · rename_i hc
      obtain ⟨hcn, hlt⟩ := hc
      have g1 := lowC_gt (key := key) (n := n) (l := l) (i := i0)
      have g2 := lowC_lt (key := key) (l := l) hcn
      have g3 := lowC_par (key := key) (n := n) (l := l) (i := i0)
      have g4 := fun k hk hn hp => lowC_min (key := key) (n := n) (l := l) (i := i0) (k := k) hk hn hp
      generalize hj : lowC key n l i0 = j at *
      have hg : ∀ k, (swp l i0 j).getD k default = if k = j then l.getD i0 default else if k = i0 then l.getD j default else l.getD k default := fun k => swp_get hil (by omega)
      refine ih _ _ (by omega) (by rw [swp_len]; omega) (by rw [swp_len]; exact hn) (fun i hi0 hin hne => ?_) (fun i hi0 hin hp h0p => ?_)
      · rw [hg, hg]
        rw [if_neg hne]
        by_cases e : (i - 1) / 2 = i0
        · rw [if_pos e]
          by_cases e2 : i = j
          · rw [if_pos e2]; omega
          · rw [if_neg e2, if_neg (by omega)]; exact g4 i hi0 hin e
        · rw [if_neg e]
          by_cases e2 : i = j
          · omega
          · rw [if_neg e2]
            by_cases e3 : i = i0
            · rw [if_pos e3]
              have := h2 j (by omega) g2 g3 (by omega)
              rw [e3]; exact this
            · rw [if_neg e3]; exact h1 i hi0 hin e
      · rw [hg, hg, g3]
        rw [if_neg (by omega), if_pos rfl, if_neg (by omega), if_neg (by omega)]
        have := h1 i hi0 hin (by omega)
        rw [hp] at this; exact this
    · rename_i hc
      intro i hi0 hin
      by_cases e : (i - 1) / 2 = i0
      · have hcn : 2 * i0 + 1 < n := by omega
        have : ¬ key (l.getD (lowC key n l i0) default) < key (l.getD i0 default) := fun h => hc ⟨hcn, h⟩
        have := lowC_min (key := key) (n := n) (l := l) hi0 hin e
        rw [e]; omega
      · exact h1 i hi0 hin e
theorem Heap.min (h : Heap key n l) : ∀ i, i < n → key (l.getD 0 default) ≤ key (l.getD i default) := by
  intro i
  induction i using Nat.strongRecOn with
  | ind i ih =>
    intro hi
    by_cases h0 : 0 < i
    · exact Int.le_trans (ih ((i - 1) / 2) (by omega) (by omega)) (h i h0 hi)
    · have : i = 0 := by omega
      subst this; exact Int.le_refl _
/-- What is pushed. -/
def push (key : α → Int) (l : List α) (x : α) : List α := upF key (l ++ [x]) l.length
theorem push_len : (push key l x).length = l.length + 1 := by unfold push; rw [upF_len, List.length_append]; rfl
theorem push_perm : (push key l x).Perm (x :: l) := (upF_perm _ _ (by rw [List.length_append]; simp)).trans (List.perm_append_singleton x l)
theorem app_get (h : k < l.length) : (l ++ [x]).getD k default = l.getD k default := by
  rw [List.getD_eq_getElem?_getD, List.getD_eq_getElem?_getD, List.getElem?_append_left h]
theorem push_heap (h : Heap key l.length l) : Heap key (push key l x).length (push key l x) := by
  rw [push_len]
  refine upF_heap _ _ _ (by omega) (by simp) (fun i hi0 hin hne => ?_) (fun i hi0 hin hp h0 => by omega)
  rw [app_get (by omega), app_get (by omega)]
  exact h i hi0 (by omega)
/-- What is popped: the first; and what is left. -/
def popD (key : α → Int) (l : List α) : List α := downF key (l.length - 1) (swp l 0 (l.length - 1)) 0
def popL (key : α → Int) (l : List α) : List α := (popD key l).take (l.length - 1)
theorem popD_len : (popD key l).length = l.length := by unfold popD; rw [downF_len _ _ _ _ (Nat.le_refl _), swp_len]
theorem popL_len : (popL key l).length = l.length - 1 := by unfold popL; rw [List.length_take, popD_len]; omega
theorem popD_last (h0 : 0 < l.length) : (popD key l).getD (l.length - 1) default = l.getD 0 default := by
  unfold popD
  by_cases h1 : l.length - 1 = 0
  · unfold downF
    rw [if_neg (by omega), swp_get h0 (by omega), if_pos rfl]
  · rw [downF_out _ _ _ _ (Nat.le_refl _) (by rw [swp_len]; omega) (by rw [swp_len]; omega) _ (Nat.le_refl _) (by omega), swp_get h0 (by omega), if_pos rfl]
theorem popL_perm (h0 : 0 < l.length) : (l.getD 0 default :: popL key l).Perm l := by
  have h1 : (popD key l).Perm l := by
    unfold popD
    exact (downF_perm _ _ _ _ (Nat.le_refl _) (by rw [swp_len]; omega) (by rw [swp_len]; exact h0)).trans (swp_perm h0 (by omega))
  have h2 : popL key l ++ [l.getD 0 default] = popD key l := by
    have e := popD_last (key := key) h0
    have hl := popD_len (key := key) (l := l)
    unfold popL
    rw [← e, List.getD_eq_getElem?_getD, List.getElem?_eq_getElem (by omega), Option.getD_some]
    rw [← List.take_succ_eq_append_getElem (by omega)]
    exact List.take_of_length_le (by omega)
  exact ((List.perm_append_singleton _ _).symm.trans (by rw [h2])).trans h1
theorem popL_heap (h : Heap key l.length l) (h0 : 0 < l.length) : Heap key (popL key l).length (popL key l) := by
  rw [popL_len]
  have hd : Heap key (l.length - 1) (popD key l) := by
    unfold popD
    refine downF_heap _ _ _ _ (Nat.le_refl _) (by rw [swp_len]; exact h0) (by rw [swp_len]; omega) (fun i hi0 hin hne => ?_) (fun i _ _ _ h0 => absurd h0 (by omega))
    rw [swp_get h0 (by omega), swp_get h0 (by omega), if_neg (by omega), if_neg hne, if_neg (by omega), if_neg (by omega)]
    exact h i hi0 (by omega)
  intro i hi0 hin
  have ht : ∀ k, k < l.length - 1 → (popL key l).getD k default = (popD key l).getD k default := fun k hk => by
    unfold popL
    rw [List.getD_eq_getElem?_getD, List.getD_eq_getElem?_getD, List.getElem?_take, if_pos hk]
  rw [ht _ (by omega), ht _ hin]
  exact hd i hi0 hin
theorem Heap.least (h : Heap key l.length l) : ∀ y ∈ l, key (l.getD 0 default) ≤ key y := by
  intro y hy
  obtain ⟨i, hi, rfl⟩ := List.mem_iff_getElem.1 hy
  have := h.min i hi
  rwa [show l.getD i default = l[i] by rw [List.getD_eq_getElem?_getD, List.getElem?_eq_getElem hi]; rfl] at this
end
end Hp
end Go.Proofs.Ytffjpfpbpnhmcaa
