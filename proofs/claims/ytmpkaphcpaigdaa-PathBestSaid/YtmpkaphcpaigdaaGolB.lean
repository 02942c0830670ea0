import Derived.Test.YtmpkaphcpaigdaaGol
import Derived.Test.YtmpkaphcpaigdaaBas
import Derived.Test.YtmpkaphcpaigdaaProg
set_option linter.unusedVariables false
set_option linter.unusedSimpArgs false
set_option maxRecDepth 100000
set_option maxHeartbeats 4000000
namespace Go.Proofs.Ytmpkaphcpaigdaa
section
open Go.RowKit
theorem fk1 {B : List Nat} {b n : Nat} (u : ∀ q ∈ B, q < n) (h : n ≤ b) : ∀ q ∈ B, q ∈ [b] → False := fun q hq hb => by have := u q hq; have := List.mem_singleton.1 hb; omega
theorem fk2 {B : List Nat} {b n : Nat} (u : ∀ q ∈ B, n ≤ q) (h : b < n) : ∀ q ∈ B, q ∈ [b] → False := fun q hq hb => by have := u q hq; have := List.mem_singleton.1 hb; omega
theorem nm1 {a b : Nat} (h : a ≠ b) : a ∉ [b] := fun e => h (List.mem_singleton.1 e)
theorem ge1 {b n : Nat} (h : n ≤ b) : ∀ q ∈ [b], n ≤ q := fun q hq => by rw [List.mem_singleton.1 hq]; exact h
theorem eF0 : Fd Try.prog 35 0 0 := fun _ _ _ => by kernel_rfl
theorem eF1 : Ag Try.prog 3 false := fun _ => by kernel_rfl
theorem eF2 : Fd Try.prog 35 1 1 := fun _ _ _ => by kernel_rfl
theorem eF3 : Ag Try.prog 35 true := fun _ => by kernel_rfl
theorem eF4 : Sz Try.prog 35 2 := fun _ => by kernel_rfl
theorem eF5 : Enters Try.prog 96 := en Try.func96 (by kernel_rfl) (by kernel_rfl)
theorem eF6 : Enters Try.prog 97 := en Try.func97 (by kernel_rfl) (by kernel_rfl)
theorem eF7 : Sz Try.prog 147 4 := fun _ => by kernel_rfl
theorem eF8 : Fd Try.prog 147 2 3 := fun _ _ _ => by kernel_rfl
theorem eF9 : Ag Try.prog 147 true := fun _ => by kernel_rfl
theorem eF10 : Ag Try.prog 88 false := fun _ => by kernel_rfl
theorem eF11 : Enters Try.prog 123 := en Try.func123 (by kernel_rfl) (by kernel_rfl)
theorem eF12 : Enters Try.prog 124 := en Try.func124 (by kernel_rfl) (by kernel_rfl)
theorem eF13 : Sz Try.prog 88 1 := fun _ => by kernel_rfl
theorem eF14 : Zv Try.prog 147 (.agg #[.int .i64 0, .int .i64 0, .int .i64 0, .int .i64 0]) := fun _ => by kernel_rfl
theorem eF15 : Enters Try.prog 128 := en Try.func128 (by kernel_rfl) (by kernel_rfl)
theorem eF16 : Enters Try.prog 88 := en Try.func88 (by kernel_rfl) (by kernel_rfl)
theorem eF17 : Enters Try.prog 61 := en Try.func61 (by kernel_rfl) (by kernel_rfl)
theorem eF18 : Enters Try.prog 62 := en Try.func62 (by kernel_rfl) (by kernel_rfl)
theorem eF19 : Enters Try.prog 127 := en Try.func127 (by kernel_rfl) (by kernel_rfl)
theorem eF20 : Fd Try.prog 90 0 0 := fun _ _ _ => by kernel_rfl
theorem eF21 : Fd Try.prog 24 0 0 := fun _ _ _ => by kernel_rfl
theorem eF22 : Ag Try.prog 24 true := fun _ => by kernel_rfl
theorem eF23 : Sz Try.prog 24 3 := fun _ => by kernel_rfl
theorem eF24 : Enters Try.prog 21 := en Try.func21 (by kernel_rfl) (by kernel_rfl)
theorem eF25 : Enters Try.prog 16 := en Try.func16 (by kernel_rfl) (by kernel_rfl)
theorem eF26 : Zv Try.prog 85 (.agg #[.int .i64 0, .int .i64 0, .int .i64 0, .int .i64 0, .int .i64 0, .int .i64 0, .int .i64 0, .int .i64 0]) := fun _ => by kernel_rfl
theorem eF27 : Sz Try.prog 85 8 := fun _ => by kernel_rfl
theorem eF28 : Ag Try.prog 85 true := fun _ => by kernel_rfl
theorem eF29 : Fd Try.prog 90 1 3 := fun _ _ _ => by kernel_rfl
theorem eF30 : Enters Try.prog 87 := en Try.func87 (by kernel_rfl) (by kernel_rfl)
theorem eF31 : Fd Try.prog 90 3 6 := fun _ _ _ => by kernel_rfl
theorem eF32 : Enters Try.prog 34 := en Try.func34 (by kernel_rfl) (by kernel_rfl)
theorem eF33 : Enters Try.prog 42 := en Try.func42 (by kernel_rfl) (by kernel_rfl)
theorem eF34 : Fd Try.prog 90 2 5 := fun _ _ _ => by kernel_rfl
theorem eF35 : Ag Try.prog 22 false := fun _ => by kernel_rfl
theorem eF36 : Sz Try.prog 3 1 := fun _ => by kernel_rfl
theorem eF37 : Enters Try.prog 36 := en Try.func36 (by kernel_rfl) (by kernel_rfl)
theorem eF38 : Fd Try.prog 147 0 0 := fun _ _ _ => by kernel_rfl
theorem eF39 : Fd Try.prog 147 1 2 := fun _ _ _ => by kernel_rfl
theorem eF40 : Enters Try.prog 41 := en Try.func41 (by kernel_rfl) (by kernel_rfl)
theorem eF41 : Zv Try.prog 35 (.agg #[.int .i64 0, .int .i64 0]) := fun _ => by kernel_rfl
theorem eF42 : Enters Try.prog 40 := en Try.func40 (by kernel_rfl) (by kernel_rfl)
theorem eF43 : Enters Try.prog 67 := en Try.func67 (by kernel_rfl) (by kernel_rfl)
theorem eF44 : Enters Try.prog 86 := en Try.func86 (by kernel_rfl) (by kernel_rfl)
theorem eF45 : Fd Try.prog 24 2 2 := fun _ _ _ => by kernel_rfl
theorem eF46 : Enters Try.prog 66 := en Try.func66 (by kernel_rfl) (by kernel_rfl)
theorem eF47 : Enters Try.prog 68 := en Try.func68 (by kernel_rfl) (by kernel_rfl)
theorem eF48 : Enters Try.prog 39 := en Try.func39 (by kernel_rfl) (by kernel_rfl)
theorem eF49 : Enters Try.prog 43 := en Try.func43 (by kernel_rfl) (by kernel_rfl)
theorem eF50 : Enters Try.prog 33 := en Try.func33 (by kernel_rfl) (by kernel_rfl)
theorem eF51 : Zv Try.prog 101 (.slice none 0 0) := fun _ => by kernel_rfl
theorem eF52 : Enters Try.prog 85 := en Try.func85 (by kernel_rfl) (by kernel_rfl)
theorem eF53 : Enters Try.prog 93 := en Try.func93 (by kernel_rfl) (by kernel_rfl)
theorem eF54 : Ag Try.prog 101 false := fun _ => by kernel_rfl
theorem eF55 : Sz Try.prog 101 1 := fun _ => by kernel_rfl
theorem eF56 : Zv Try.prog 24 (.agg #[.int .i64 0, .int .i64 0, .slice none 0 0]) := fun _ => by kernel_rfl
theorem eF57 : Enters Try.prog 63 := en Try.func63 (by kernel_rfl) (by kernel_rfl)
theorem eF58 : Enters Try.prog 64 := en Try.func64 (by kernel_rfl) (by kernel_rfl)
theorem eF59 : Sz Try.prog 22 1 := fun _ => by kernel_rfl
theorem eF60 : Enters Try.prog 65 := en Try.func65 (by kernel_rfl) (by kernel_rfl)
theorem eF61 : Enters Try.prog 38 := en Try.func38 (by kernel_rfl) (by kernel_rfl)
theorem eF62 : Enters Try.prog 19 := en Try.func19 (by kernel_rfl) (by kernel_rfl)
theorem eF63 : Enters Try.prog 44 := en Try.func44 (by kernel_rfl) (by kernel_rfl)
theorem eF64 : Fd Try.prog 24 1 1 := fun _ _ _ => by kernel_rfl
theorem eF65 : Sz Try.prog 75 2 := fun _ => by kernel_rfl
theorem eF66 : Fd Try.prog 75 1 1 := fun _ _ _ => by kernel_rfl
theorem eF67 : Ag Try.prog 75 true := fun _ => by kernel_rfl
theorem eF68 : Ag Try.prog 71 false := fun _ => by kernel_rfl
theorem eF69 : Enters Try.prog 119 := en Try.func119 (by kernel_rfl) (by kernel_rfl)
theorem eF70 : Enters Try.prog 120 := en Try.func120 (by kernel_rfl) (by kernel_rfl)
theorem eF71 : Sz Try.prog 71 1 := fun _ => by kernel_rfl
theorem eF72 : Zv Try.prog 75 (.agg #[.int .i64 0, .int .i64 0]) := fun _ => by kernel_rfl
theorem eF73 : Enters Try.prog 122 := en Try.func122 (by kernel_rfl) (by kernel_rfl)
theorem eF74 : Enters Try.prog 35 := en Try.func35 (by kernel_rfl) (by kernel_rfl)
theorem eF75 : Enters Try.prog 121 := en Try.func121 (by kernel_rfl) (by kernel_rfl)
theorem eF76 : Zv Try.prog 71 (.slice none 0 0) := fun _ => by kernel_rfl
theorem eF77 : Fd Try.prog 75 0 0 := fun _ _ _ => by kernel_rfl
theorem eF78 : Enters Try.prog 37 := en Try.func37 (by kernel_rfl) (by kernel_rfl)
theorem eF79 : Enters Try.prog 20 := en Try.func20 (by kernel_rfl) (by kernel_rfl)
theorem eF80 : Enters Try.prog 14 := en Try.func14 (by kernel_rfl) (by kernel_rfl)
end
section
open Go.RowKit
namespace Hp
section
variable {α : Type} [Inhabited α] {key : α → Int} {l : List α} {i j n k : Nat} {x : α}
def swp (l : List α) (i j : Nat) : List α := (l.set i (l.getD j default)).set j (l.getD i default)
theorem swp_len : (swp l i j).length = l.length := by unfold swp; rw [List.length_set, List.length_set]
theorem getD_set {i k : Nat} (hi : i < l.length) : (l.set i x).getD k default = if k = i then x else l.getD k default := by
 rw [List.getD_eq_getElem?_getD, List.getD_eq_getElem?_getD, List.getElem?_set]
 by_cases e : i = k
 ·subst e; rw [if_pos rfl, if_pos rfl]; simp [hi]
 ·rw [if_neg e, if_neg (fun h => e h.symm)]
theorem swp_get (hi : i < l.length) (hj : j < l.length) : (swp l i j).getD k default = if k = j then l.getD i default else if k = i then l.getD j default else l.getD k default := by
 unfold swp
 rw [getD_set (by rw [List.length_set]; exact hj), getD_set hi]
theorem swp_perm (hi : i < l.length) (hj : j < l.length) : (swp l i j).Perm l := by
 have h := Array.swap_perm (xs := l.toArray) (i := i) (j := j) (by simpa using hi) (by simpa using hj)
 have h := h.toList
 have e : (l.toArray.swap i j (by simpa using hi) (by simpa using hj)).toList = swp l i j := by
  unfold swp
  rw [List.getD_eq_getElem?_getD, List.getD_eq_getElem?_getD, List.getElem?_eq_getElem hi, List.getElem?_eq_getElem hj]
  simp [Array.swap]
 rw [e] at h
 simpa using h
def upF (key : α → Int) (l : List α) (j : Nat) : List α :=
 if 0 < j ∧ key (l.getD j default) < key (l.getD ((j - 1) / 2) default) then upF key (swp l ((j - 1) / 2) j) ((j - 1) / 2) else l
termination_by j
decreasing_by omega
def lowC (key : α → Int) (n : Nat) (l : List α) (i : Nat) : Nat := if 2 * i + 2 < n ∧ key (l.getD (2 * i + 2) default) < key (l.getD (2 * i + 1) default) then 2 * i + 2 else 2 * i + 1
theorem lowC_gt : i < lowC key n l i := by unfold lowC; split <;> omega
theorem lowC_lt (h : 2 * i + 1 < n) : lowC key n l i < n := by unfold lowC; split <;> omega
theorem lowC_par : (lowC key n l i - 1) / 2 = i := by unfold lowC; split <;> omega
theorem lowC_min (hk : 0 < k) (hn : k < n) (hp : (k - 1) / 2 = i) : key (l.getD (lowC key n l i) default) ≤ key (l.getD k default) := by
 have : k = 2 * i + 1 ∨ k = 2 * i + 2 := by omega
 unfold lowC
 split
 ·rename_i h
  rcases this with rfl | rfl
  ·omega
  ·exact Int.le_refl _
 ·rename_i h
  rcases this with rfl | rfl
  ·exact Int.le_refl _
  ·have : ¬ key (l.getD (2 * i + 2) default) < key (l.getD (2 * i + 1) default) := fun hh => h ⟨hn, hh⟩
   omega
def downF (key : α → Int) (n : Nat) (l : List α) (i : Nat) : List α :=
 if 2 * i + 1 < n ∧ key (l.getD (lowC key n l i) default) < key (l.getD i default) then downF key n (swp l i (lowC key n l i)) (lowC key n l i) else l
termination_by n - i
decreasing_by rename_i h; have := lowC_gt (key := key) (n := n) (l := l) (i := i); omega
theorem upF_len : ∀ (j : Nat) (l : List α), (upF key l j).length = l.length := by
 intro j
 induction j using Nat.strongRecOn with
 | ind j ih =>
  intro l
  unfold upF
  split
  ·rw [ih _ (by omega), swp_len]
  ·rfl
theorem upF_perm : ∀ (j : Nat) (l : List α), j < l.length → (upF key l j).Perm l := by
 intro j
 induction j using Nat.strongRecOn with
 | ind j ih =>
  intro l hl
  unfold upF
  split
  ·exact (ih _ (by omega) _ (by rw [swp_len]; omega)).trans (swp_perm (by omega) hl)
  ·exact List.Perm.refl _
theorem downF_len (n : Nat) : ∀ (m i : Nat) (l : List α), n - i ≤ m → (downF key n l i).length = l.length := by
 intro m
 induction m with
 | zero => intro i l h; unfold downF; rw [if_neg (by omega)]
 | succ m ih =>
  intro i l h
  unfold downF
  split
  ·have := lowC_gt (key := key) (n := n) (l := l) (i := i)
   rw [ih _ _ (by omega), swp_len]
  ·rfl
theorem downF_perm (n : Nat) : ∀ (m i : Nat) (l : List α), n - i ≤ m → n ≤ l.length → i < l.length → (downF key n l i).Perm l := by
 intro m
 induction m with
 | zero => intro i l h _ _; unfold downF; rw [if_neg (by omega)]
 | succ m ih =>
  intro i l h hn hi
  unfold downF
  split
  ·rename_i hc
   have := lowC_gt (key := key) (n := n) (l := l) (i := i)
   have := lowC_lt (key := key) (l := l) hc.1
   exact (ih _ _ (by omega) (by rw [swp_len]; exact hn) (by rw [swp_len]; omega)).trans (swp_perm hi (by omega))
  ·exact List.Perm.refl _
theorem downF_out (n : Nat) : ∀ (m i : Nat) (l : List α), n - i ≤ m → n ≤ l.length → i < l.length → ∀ k, n ≤ k → i < n → (downF key n l i).getD k default = l.getD k default := by
 intro m
 induction m with
 | zero => intro i l h _ _ k _ _; unfold downF; rw [if_neg (by omega)]
 | succ m ih =>
  intro i l h hn hi k hk hin
  unfold downF
  split
  ·rename_i hc
   have h1 := lowC_gt (key := key) (n := n) (l := l) (i := i)
   have h2 := lowC_lt (key := key) (l := l) hc.1
   rw [ih _ _ (by omega) (by rw [swp_len]; exact hn) (by rw [swp_len]; omega) k hk h2, swp_get hi (by omega), if_neg (by omega), if_neg (by omega)]
  ·rfl
def Heap (key : α → Int) (n : Nat) (l : List α) : Prop := ∀ i, 0 < i → i < n → key (l.getD ((i - 1) / 2) default) ≤ key (l.getD i default)
theorem upF_heap (n : Nat) : ∀ (j : Nat) (l : List α), j < n → n ≤ l.length → (∀ i, 0 < i → i < n → i ≠ j → key (l.getD ((i - 1) / 2) default) ≤ key (l.getD i default)) →
  (∀ i, 0 < i → i < n → (i - 1) / 2 = j → 0 < j → key (l.getD ((j - 1) / 2) default) ≤ key (l.getD i default)) → Heap key n (upF key l j) := by
 intro j
 induction j using Nat.strongRecOn with
 | ind j ih =>
  intro l hj hn h1 h2
  unfold upF
  split
  ·rename_i hc
   obtain ⟨h0, hlt⟩ := hc
   have hg : ∀ k, (swp l ((j - 1) / 2) j).getD k default = if k = j then l.getD ((j - 1) / 2) default else if k = (j - 1) / 2 then l.getD j default else l.getD k default := fun k => swp_get (by omega) (by omega)
   refine ih _ (by omega) _ (by omega) (by rw [swp_len]; exact hn) (fun i hi0 hin hne => ?_) (fun i hi0 hin hp h0p => ?_)
   ·rw [hg, hg]
    by_cases e : i = j
    ·subst e
     rw [if_pos rfl, if_neg (by omega), if_pos rfl]; omega
    ·rw [if_neg e, if_neg hne]
     by_cases e2 : (i - 1) / 2 = j
     ·rw [if_pos e2]; exact h2 i hi0 hin e2 h0
     ·rw [if_neg e2]
      by_cases e3 : (i - 1) / 2 = (j - 1) / 2
      ·rw [if_pos e3]
       have := h1 i hi0 hin e
       rw [e3] at this; omega
      ·rw [if_neg e3]; exact h1 i hi0 hin e
   ·rw [hg, hg]
    rw [if_neg (by omega), if_neg (by omega)]
    have hpp := h1 ((j - 1) / 2) h0p (by omega) (by omega)
    by_cases e : i = j
    ·rw [if_pos e]; exact hpp
    ·rw [if_neg e, if_neg (by omega)]
     have := h1 i hi0 hin e
     rw [hp] at this; omega
  ·rename_i hc
   intro i hi0 hin
   by_cases e : i = j
   ·subst e
    have : ¬ key (l.getD i default) < key (l.getD ((i - 1) / 2) default) := fun h => hc ⟨hi0, h⟩
    omega
   ·exact h1 i hi0 hin e
theorem downF_heap (n : Nat) : ∀ (m i0 : Nat) (l : List α), n - i0 ≤ m → i0 < l.length → n ≤ l.length → (∀ i, 0 < i → i < n → (i - 1) / 2 ≠ i0 → key (l.getD ((i - 1) / 2) default) ≤ key (l.getD i default)) →
  (∀ i, 0 < i → i < n → (i - 1) / 2 = i0 → 0 < i0 → key (l.getD ((i0 - 1) / 2) default) ≤ key (l.getD i default)) → Heap key n (downF key n l i0) := by
 intro m
 induction m with
 | zero =>
  intro i0 l h _ _ h1 _
  unfold downF
  rw [if_neg (by omega)]
  intro i hi0 hin
  exact h1 i hi0 hin (by omega)
 | succ m ih =>
  intro i0 l h hil hn h1 h2
  unfold downF
  split
  ·rename_i hc
   obtain ⟨hcn, hlt⟩ := hc
   have g1 := lowC_gt (key := key) (n := n) (l := l) (i := i0)
   have g2 := lowC_lt (key := key) (l := l) hcn
   have g3 := lowC_par (key := key) (n := n) (l := l) (i := i0)
   have g4 := fun k hk hn hp => lowC_min (key := key) (n := n) (l := l) (i := i0) (k := k) hk hn hp
   generalize hj : lowC key n l i0 = j at *
   have hg : ∀ k, (swp l i0 j).getD k default = if k = j then l.getD i0 default else if k = i0 then l.getD j default else l.getD k default := fun k => swp_get hil (by omega)
   refine ih _ _ (by omega) (by rw [swp_len]; omega) (by rw [swp_len]; exact hn) (fun i hi0 hin hne => ?_) (fun i hi0 hin hp h0p => ?_)
   ·rw [hg, hg]
    rw [if_neg hne]
    by_cases e : (i - 1) / 2 = i0
    ·rw [if_pos e]
     by_cases e2 : i = j
     ·rw [if_pos e2]; omega
     ·rw [if_neg e2, if_neg (by omega)]; exact g4 i hi0 hin e
    ·rw [if_neg e]
     by_cases e2 : i = j
     ·omega
     ·rw [if_neg e2]
      by_cases e3 : i = i0
      ·rw [if_pos e3]
       have := h2 j (by omega) g2 g3 (by omega)
       rw [e3]; exact this
      ·rw [if_neg e3]; exact h1 i hi0 hin e
   ·rw [hg, hg, g3]
    rw [if_neg (by omega), if_pos rfl, if_neg (by omega), if_neg (by omega)]
    have := h1 i hi0 hin (by omega)
    rw [hp] at this; exact this
  ·rename_i hc
   intro i hi0 hin
   by_cases e : (i - 1) / 2 = i0
   ·have hcn : 2 * i0 + 1 < n := by omega
    have : ¬ key (l.getD (lowC key n l i0) default) < key (l.getD i0 default) := fun h => hc ⟨hcn, h⟩
    have := lowC_min (key := key) (n := n) (l := l) hi0 hin e
    rw [e]; omega
   ·exact h1 i hi0 hin e
theorem Heap.min (h : Heap key n l) : ∀ i, i < n → key (l.getD 0 default) ≤ key (l.getD i default) := by
 intro i
 induction i using Nat.strongRecOn with
 | ind i ih =>
  intro hi
  by_cases h0 : 0 < i
  ·exact Int.le_trans (ih ((i - 1) / 2) (by omega) (by omega)) (h i h0 hi)
  ·have : i = 0 := by omega
   subst this; exact Int.le_refl _
def push (key : α → Int) (l : List α) (x : α) : List α := upF key (l ++ [x]) l.length
theorem push_len : (push key l x).length = l.length + 1 := by unfold push; rw [upF_len, List.length_append]; rfl
theorem push_perm : (push key l x).Perm (x :: l) := (upF_perm _ _ (by rw [List.length_append]; simp)).trans (List.perm_append_singleton x l)
theorem app_get (h : k < l.length) : (l ++ [x]).getD k default = l.getD k default := by
 rw [List.getD_eq_getElem?_getD, List.getD_eq_getElem?_getD, List.getElem?_append_left h]
theorem push_heap (h : Heap key l.length l) : Heap key (push key l x).length (push key l x) := by
 rw [push_len]
 refine upF_heap _ _ _ (by omega) (by simp) (fun i hi0 hin hne => ?_) (fun i hi0 hin hp h0 => by omega)
 rw [app_get (by omega), app_get (by omega)]
 exact h i hi0 (by omega)
def popD (key : α → Int) (l : List α) : List α := downF key (l.length - 1) (swp l 0 (l.length - 1)) 0
def popL (key : α → Int) (l : List α) : List α := (popD key l).take (l.length - 1)
theorem popD_len : (popD key l).length = l.length := by unfold popD; rw [downF_len _ _ _ _ (Nat.le_refl _), swp_len]
theorem popL_len : (popL key l).length = l.length - 1 := by unfold popL; rw [List.length_take, popD_len]; omega
theorem popD_last (h0 : 0 < l.length) : (popD key l).getD (l.length - 1) default = l.getD 0 default := by
 unfold popD
 by_cases h1 : l.length - 1 = 0
 ·unfold downF
  rw [if_neg (by omega), swp_get h0 (by omega), if_pos rfl]
 ·rw [downF_out _ _ _ _ (Nat.le_refl _) (by rw [swp_len]; omega) (by rw [swp_len]; omega) _ (Nat.le_refl _) (by omega), swp_get h0 (by omega), if_pos rfl]
theorem popL_perm (h0 : 0 < l.length) : (l.getD 0 default :: popL key l).Perm l := by
 have h1 : (popD key l).Perm l := by
  unfold popD
  exact (downF_perm _ _ _ _ (Nat.le_refl _) (by rw [swp_len]; omega) (by rw [swp_len]; exact h0)).trans (swp_perm h0 (by omega))
 have h2 : popL key l ++ [l.getD 0 default] = popD key l := by
  have e := popD_last (key := key) h0
  have hl := popD_len (key := key) (l := l)
  unfold popL
  rw [← e, List.getD_eq_getElem?_getD, List.getElem?_eq_getElem (by omega), Option.getD_some]
  rw [← List.take_succ_eq_append_getElem (by omega)]
  exact List.take_of_length_le (by omega)
 exact ((List.perm_append_singleton _ _).symm.trans (by rw [h2])).trans h1
theorem popL_heap (h : Heap key l.length l) (h0 : 0 < l.length) : Heap key (popL key l).length (popL key l) := by
 rw [popL_len]
 have hd : Heap key (l.length - 1) (popD key l) := by
  unfold popD
  refine downF_heap _ _ _ _ (Nat.le_refl _) (by rw [swp_len]; exact h0) (by rw [swp_len]; omega) (fun i hi0 hin hne => ?_) (fun i _ _ _ h0 => absurd h0 (by omega))
  rw [swp_get h0 (by omega), swp_get h0 (by omega), if_neg (by omega), if_neg hne, if_neg (by omega), if_neg (by omega)]
  exact h i hi0 (by omega)
 intro i hi0 hin
 have ht : ∀ k, k < l.length - 1 → (popL key l).getD k default = (popD key l).getD k default := fun k hk => by
  unfold popL
  rw [List.getD_eq_getElem?_getD, List.getD_eq_getElem?_getD, List.getElem?_take, if_pos hk]
 rw [ht _ (by omega), ht _ hin]
 exact hd i hi0 hin
theorem heap_nil : Heap key ([] : List α).length [] := fun i _ h => by simp at h
theorem Heap.least (h : Heap key l.length l) : ∀ y ∈ l, key (l.getD 0 default) ≤ key y := by
 intro y hy
 obtain ⟨i, hi, rfl⟩ := List.mem_iff_getElem.1 hy
 have := h.min i hi
 rwa [show l.getD i default = l[i] by rw [List.getD_eq_getElem?_getD, List.getElem?_eq_getElem hi]; rfl] at this
end
end Hp
end
section
open Go.RowKit
namespace Gra
section
variable {α : Type} {adj : α → List α} {k h : α → Int} {src : α → Prop} {x y s b : α} {d d' D : Int} {fr fr' : α → Int} {Q Q' : List (α × Int)} {rest : List α} {e : α × Int}
inductive Rch (adj : α → List α) (k : α → Int) (src : α → Prop) : α → Int → Prop
 | start {s : α} (hs : src s) : Rch adj k src s 0
 | step {x y : α} {d : Int} (hx : Rch adj k src x d) (hy : y ∈ adj x) : Rch adj k src y (d + k y)
def IsD (adj : α → List α) (k : α → Int) (src : α → Prop) (x : α) (d : Int) : Prop := Rch adj k src x d ∧ ∀ d', Rch adj k src x d' → d ≤ d'
structure Ok (adj : α → List α) (k h : α → Int) : Prop where
 k0 : ∀ x, ∀ y ∈ adj x, 0 < k y
 h0 : ∀ x, 0 ≤ h x
 hk : ∀ x, ∀ y ∈ adj x, h x ≤ k y + h y
theorem Rch.nn (o : Ok adj k h) (r : Rch adj k src x d) : 0 ≤ d := by
 induction r with
 | start _ => exact Int.le_refl 0
 | step _ hy ih => have := o.k0 _ _ hy; omega
theorem IsD.uniq (h1 : IsD adj k src x d) (h2 : IsD adj k src x d') : d = d' := Int.le_antisymm (h1.2 _ h2.1) (h2.2 _ h1.1)
structure Inv (adj : α → List α) (k h : α → Int) (src : α → Prop) (fr : α → Int) (Q : List (α × Int)) (x0 : α) (rest : List α) : Prop where
 q : ∀ e ∈ Q, (src e.1 ∧ e.2 = 0) ∨ ∃ p, 0 ≤ fr p ∧ e.1 ∈ adj p ∧ e.2 = fr p + k e.1
 neg : ∀ x, fr x < 0 → fr x = -1
 dist : ∀ x, 0 ≤ fr x → IsD adj k src x (fr x)
 pred : ∀ x, 0 ≤ fr x → (src x ∧ fr x = 0) ∨ ∃ p, 0 ≤ fr p ∧ x ∈ adj p ∧ fr x = fr p + k x
 opn : ∀ x, 0 ≤ fr x → ∀ y ∈ adj x, 0 ≤ fr y ∨ (y, fr x + k y) ∈ Q ∨ (x = x0 ∧ y ∈ rest)
 srcs : ∀ s, src s → 0 ≤ fr s ∨ (s, 0) ∈ Q
 mono : ∀ x, 0 ≤ fr x → ∀ e ∈ Q, fr x + h x ≤ e.2 + h e.1
 x0d : rest ≠ [] → 0 ≤ fr x0 ∧ (∀ y ∈ rest, y ∈ adj x0) ∧ ∀ z, 0 ≤ fr z → fr z + h z ≤ fr x0 + h x0
theorem Inv.rch (i : Inv adj k h src fr Q x rest) (he : e ∈ Q) : Rch adj k src e.1 e.2 := by
 rcases i.q e he with ⟨h1, h2⟩ | ⟨p, h1, h2, h3⟩
 ·rw [h2]; exact .start h1
 ·rw [h3]; exact .step (i.dist p h1).1 h2
theorem Inv.front (o : Ok adj k h) (i : Inv adj k h src fr Q s []) (r : Rch adj k src x d) : fr x < 0 → ∃ e ∈ Q, e.2 + h e.1 ≤ d + h x := by
 induction r with
 | start hs =>
  intro hx
  rcases i.srcs _ hs with h1 | h1
  ·omega
  ·exact ⟨_, h1, Int.le_refl _⟩
 | @step x y d r hy ih =>
  intro hyn
  by_cases hx : fr x < 0
  ·obtain ⟨e, he, hle⟩ := ih hx
   have := o.hk x y hy
   exact ⟨e, he, by omega⟩
  ·rcases i.opn x (by omega) y hy with h1 | h1 | ⟨_, h1⟩
   ·omega
   ·have := (i.dist x (by omega)).2 d r
    exact ⟨_, h1, by dsimp only; omega⟩
   ·simp at h1
theorem Inv.popSkip (i : Inv adj k h src fr Q x []) (hp : Q.Perm (e :: Q')) (hd : 0 ≤ fr e.1) : Inv adj k h src fr Q' x [] := by
 have hs : ∀ z ∈ Q', z ∈ Q := fun z hz => hp.symm.subset (List.mem_cons_of_mem _ hz)
 have hq : ∀ z ∈ Q, z = e ∨ z ∈ Q' := fun z hz => List.mem_cons.1 (hp.subset hz)
 refine ⟨fun z hz => i.q z (hs z hz), i.neg, i.dist, i.pred, fun a ha c hc => ?_, fun s hs' => ?_, fun a ha z hz => i.mono a ha z (hs z hz), fun hn => absurd rfl hn⟩
 ·rcases i.opn a ha c hc with h1 | h1 | h1
  ·exact .inl h1
  ·rcases hq _ h1 with h2 | h2
   ·left; rw [← h2] at hd; exact hd
   ·exact .inr (.inl h2)
  ·exact .inr (.inr h1)
 ·rcases i.srcs s hs' with h1 | h1
  ·exact .inl h1
  ·rcases hq _ h1 with h2 | h2
   ·left; rw [← h2] at hd; exact hd
   ·exact .inr h2
theorem Inv.popNew (o : Ok adj k h) (i : Inv adj k h src fr Q s []) (hp : Q.Perm (e :: Q')) (hd : fr e.1 < 0) (hmin : ∀ z ∈ Q, e.2 + h e.1 ≤ z.2 + h z.1) (he' : fr' e.1 = e.2) (hne : ∀ z, z ≠ e.1 → fr' z = fr z) : Inv adj k h src fr' Q' e.1 (adj e.1) ∧ 0 ≤ e.2 := by
 have hs : ∀ z ∈ Q', z ∈ Q := fun z hz => hp.symm.subset (List.mem_cons_of_mem _ hz)
 have hq : ∀ z ∈ Q, z = e ∨ z ∈ Q' := fun z hz => List.mem_cons.1 (hp.subset hz)
 have heQ : e ∈ Q := hp.symm.subset List.mem_cons_self
 have hre := i.rch heQ
 have hnn := hre.nn o
 have hup : ∀ z, 0 ≤ fr z → fr' z = fr z := fun z hz => hne z (fun e1 => by rw [e1] at hz; omega)
 have hD : IsD adj k src e.1 e.2 := ⟨hre, fun d' r => by
  obtain ⟨z, hz, hle⟩ := i.front o r hd
  have := hmin z hz
  omega⟩
 have hkey : ∀ a, 0 ≤ fr' a → fr' a + h a ≤ e.2 + h e.1 := fun a ha => by
  by_cases e1 : a = e.1
  ·subst e1; omega
  ·rw [hne a e1] at ha ⊢; exact i.mono a ha e heQ
 refine ⟨⟨fun z hz => ?_, fun a ha => ?_, fun a ha => ?_, fun a ha => ?_, fun a ha c hc => ?_, fun a ha => ?_, fun a ha z hz => ?_, fun _ => ⟨by omega, fun y hy => hy, fun a ha => by rw [he']; exact hkey a ha⟩⟩, hnn⟩
 ·rcases i.q z (hs z hz) with h1 | ⟨p, h1, h2, h3⟩
  ·exact .inl h1
  ·exact .inr ⟨p, by rw [hup p h1]; exact h1, h2, by rw [hup p h1]; exact h3⟩
 ·by_cases e1 : a = e.1
  ·subst e1; omega
  ·rw [hne a e1] at ha ⊢; exact i.neg a ha
 ·by_cases e1 : a = e.1
  ·rw [e1, he']; exact hD
  ·rw [hne a e1] at ha ⊢; exact i.dist a ha
 ·by_cases e1 : a = e.1
  ·rw [e1, he']
   rcases i.q e heQ with h1 | ⟨p, h1, h2, h3⟩
   ·exact .inl h1
   ·exact .inr ⟨p, by rw [hup p h1]; exact h1, h2, by rw [hup p h1]; exact h3⟩
  ·rw [hne a e1] at ha ⊢
   rcases i.pred a ha with h1 | ⟨p, h1, h2, h3⟩
   ·exact .inl h1
   ·exact .inr ⟨p, by rw [hup p h1]; exact h1, h2, by rw [hup p h1]; exact h3⟩
 ·by_cases e1 : a = e.1
  ·exact .inr (.inr ⟨e1, by rw [← e1]; exact hc⟩)
  ·rw [hne a e1] at ha ⊢
   rcases i.opn a ha c hc with h1 | h1 | ⟨_, h1⟩
   ·left; rw [hup c h1]; exact h1
   ·rcases hq _ h1 with h2 | h2
    ·left; have : c = e.1 := by rw [← h2]
     rw [this, he']; exact hnn
    ·exact .inr (.inl h2)
   ·simp at h1
 ·rcases i.srcs a ha with h1 | h1
  ·left; rw [hup a h1]; exact h1
  ·rcases hq _ h1 with h2 | h2
   ·left; have : a = e.1 := by rw [← h2]
    rw [this, he']; exact hnn
   ·exact .inr h2
 ·have := hkey a ha
  have := hmin z (hs z hz)
  omega
theorem Inv.push (o : Ok adj k h) (i : Inv adj k h src fr Q x (y :: rest)) (hp : Q'.Perm ((y, fr x + k y) :: Q)) : Inv adj k h src fr Q' x rest := by
 have hs : ∀ z ∈ Q, z ∈ Q' := fun z hz => hp.symm.subset (List.mem_cons_of_mem _ hz)
 have hn : (y, fr x + k y) ∈ Q' := hp.symm.subset List.mem_cons_self
 have hq : ∀ z ∈ Q', z = (y, fr x + k y) ∨ z ∈ Q := fun z hz => List.mem_cons.1 (hp.subset hz)
 obtain ⟨x1, x2, x3⟩ := i.x0d (by simp)
 have hya := x2 y List.mem_cons_self
 refine ⟨fun z hz => ?_, i.neg, i.dist, i.pred, fun a ha c hc => ?_, fun a ha => (i.srcs a ha).imp id (hs _), fun a ha z hz => ?_, fun _ => ⟨x1, fun c hc => x2 c (List.mem_cons_of_mem _ hc), x3⟩⟩
 ·rcases hq z hz with rfl | h1
  ·exact .inr ⟨x, x1, hya, rfl⟩
  ·exact i.q z h1
 ·rcases i.opn a ha c hc with h1 | h1 | ⟨h1, h2⟩
  ·exact .inl h1
  ·exact .inr (.inl (hs _ h1))
  ·rcases List.mem_cons.1 h2 with h3 | h3
   ·subst h1; subst h3; exact .inr (.inl hn)
   ·exact .inr (.inr ⟨h1, h3⟩)
 ·rcases hq z hz with rfl | h1
  ·have := x3 a ha
   have := o.hk x y hya
   dsimp only; omega
  ·exact i.mono a ha z h1
theorem Inv.skip (i : Inv adj k h src fr Q x (y :: rest)) (hy : 0 ≤ fr y) : Inv adj k h src fr Q x rest := by
 obtain ⟨x1, x2, x3⟩ := i.x0d (by simp)
 refine ⟨i.q, i.neg, i.dist, i.pred, fun a ha c hc => ?_, i.srcs, i.mono, fun _ => ⟨x1, fun c hc => x2 c (List.mem_cons_of_mem _ hc), x3⟩⟩
 rcases i.opn a ha c hc with h1 | h1 | ⟨h1, h2⟩
 ·exact .inl h1
 ·exact .inr (.inl h1)
 ·rcases List.mem_cons.1 h2 with h3 | h3
  ·subst h3; exact .inl hy
  ·exact .inr (.inr ⟨h1, h3⟩)
theorem Inv.start (hn : ∀ x, fr x = -1) (hq : ∀ e ∈ Q, src e.1 ∧ e.2 = 0) (hs : ∀ s, src s → (s, 0) ∈ Q) : Inv adj k h src fr Q x [] :=
 ⟨fun e he => .inl (hq e he), fun a _ => hn a, fun a ha => by rw [hn a] at ha; omega, fun a ha => by rw [hn a] at ha; omega, fun a ha => by rw [hn a] at ha; omega, fun s h1 => .inr (hs s h1), fun a ha => by rw [hn a] at ha; omega, fun h1 => absurd rfl h1⟩
theorem Inv.all (o : Ok adj k h) (i : Inv adj k h src fr [] s []) (r : Rch adj k src x d) : 0 ≤ fr x := by
 by_cases hx : fr x < 0
 ·obtain ⟨e, he, _⟩ := i.front o r hx
  simp at he
 ·omega
structure Spec (adj : α → List α) (k h : α → Int) (src : α → Prop) (b : α) (fr : α → Int) : Prop where
 neg : ∀ x, fr x < 0 → fr x = -1
 dist : ∀ x, 0 ≤ fr x → IsD adj k src x (fr x) ∧ ∀ D, IsD adj k src b D → fr x + h x ≤ D
 known : ∀ x d, IsD adj k src x d → (∀ D, IsD adj k src b D → d + h x ≤ D) → fr x = d
 pred : ∀ x, 0 ≤ fr x → (src x ∧ fr x = 0) ∨ ∃ p, 0 ≤ fr p ∧ x ∈ adj p ∧ fr x = fr p + k x
theorem Spec.uniq (s1 : Spec adj k h src b fr) (s2 : Spec adj k h src b fr') (x : α) : fr x = fr' x := by
 by_cases h1 : 0 ≤ fr x
 ·exact (s2.known x _ (s1.dist x h1).1 (s1.dist x h1).2).symm
 ·by_cases h2 : 0 ≤ fr' x
  ·exact s1.known x _ (s2.dist x h2).1 (s2.dist x h2).2
  ·rw [s1.neg x (by omega), s2.neg x (by omega)]
theorem Inv.ends (o : Ok adj k h) (i : Inv adj k h src fr Q s []) (hb : h b = 0) (hm : 0 ≤ fr b → ∀ x, 0 ≤ fr x → fr x + h x ≤ fr b) (he : (0 ≤ fr b ∧ ∀ e ∈ Q, fr b < e.2 + h e.1) ∨ Q = []) : Spec adj k h src b fr := by
 refine ⟨i.neg, fun x hx => ⟨i.dist x hx, fun D hD => ?_⟩, fun x d hd hle => ?_, i.pred⟩
 ·by_cases h1 : 0 ≤ fr b
  ·have := hm h1 x hx
   rw [hD.uniq (i.dist b h1)]; exact this
  ·rcases he with he | he
   ·omega
   ·subst he; exact absurd (i.all o hD.1) h1
 ·by_cases h1 : fr x < 0
  ·obtain ⟨e, heQ, hk⟩ := i.front o hd.1 h1
   rcases he with ⟨h2, h3⟩ | h2
   ·have := hle _ (i.dist b h2)
    have := h3 e heQ
    omega
   ·subst h2; simp at heQ
  ·exact (i.dist x (by omega)).uniq hd
theorem Spec.end_ (s : Spec adj k h src b fr) (hb : h b = 0) (hd : IsD adj k src b D) : fr b = D := s.known b D hd fun D' h1 => by rw [hb, hd.uniq h1]; omega
theorem Rch.low {φ : α → Int} (h0 : ∀ s, src s → φ s ≤ 0) (h1 : ∀ x, ∀ y ∈ adj x, φ y ≤ φ x + k y) (r : Rch adj k src x d) : φ x ≤ d := by
 induction r with
 | start hs => exact h0 _ hs
 | step _ hy ih => have := h1 _ _ hy; omega
theorem Rch.sub {src' : α → Prop} (hs : ∀ x, src x → src' x) (r : Rch adj k src x d) : Rch adj k src' x d := by
 induction r with
 | start h1 => exact .start (hs _ h1)
 | step _ hy ih => exact .step ih hy
theorem Rch.isD (o : Ok adj k h) (r : Rch adj k src x d) : ∃ d, IsD adj k src x d := by
 have : ∀ n : Nat, ∀ d, Rch adj k src x d → d.toNat = n → ∃ d, IsD adj k src x d := by
  intro n
  induction n using Nat.strongRecOn with
  | ind n ih =>
   intro d r hn
   by_cases hex : ∃ d', Rch adj k src x d' ∧ d' < d
   ·obtain ⟨d', r', hlt⟩ := hex
    have := r'.nn o
    exact ih d'.toNat (by omega) d' r' rfl
   ·exact ⟨d, r, fun d' r' => by
     by_cases hlt : d' < d
     ·exact absurd ⟨d', r', hlt⟩ hex
     ·omega⟩
 exact this _ d r rfl
end
end Gra
end
end Go.Proofs.Ytmpkaphcpaigdaa
set_option linter.unusedVariables false
set_option linter.unusedSimpArgs false
namespace Go.Proofs.Ytmpkaphcpaigdaa
open Go.RowKit

structure Cel where
 x : Int
 y : Int
 deriving DecidableEq, Inhabited
namespace Cel
def cells (a : Cel) : List Value := [.int .i64 (a.x), .int .i64 (a.y)]
def ok (a : Cel) : Prop := (Lit.int .i64 a.x).wf = true ∧ (Lit.int .i64 a.y).wf = true
def raw (j : Nat) (u : Value) : Prop := match j with
 | 0 => ∃ n : Int, u = .int .i64 n
 | 1 => ∃ n : Int, u = .int .i64 n
 | _ => True
theorem cells_raw (a : Cel) : ∀ (j : Nat) u, a.cells[j]? = some u → raw j u := by
 intro j u hu
 match j, hu with
 | 0, hu => exact ⟨_, (Option.some.inj hu).symm⟩
 | 1, hu => exact ⟨_, (Option.some.inj hu).symm⟩
 | j + 2, hu => exact trivial
theorem cells_one (a : Cel) : ∀ u ∈ a.cells, u.oneCell' = true := by
 intro u hu
 unfold cells at hu
 simp only [List.mem_cons, List.not_mem_nil, or_false] at hu
 rcases hu with rfl | rfl <;> rfl
def rep : Rep Cel := Rep.flat 2 cells ok raw (fun _ => rfl) cells_one cells_raw
theorem plain : rep.Plain := Rep.flat_plain
def zero : Value := .agg #[.int .i64 0, .int .i64 0]
theorem zero_raw : ∀ (j : Nat) u, zero.cells[j]? = some u → rep.raw j u := by
 intro j u hu
 have hu : (#[(.int .i64 0 : Value), (.int .i64 0 : Value)] : Array Value)[j]? = some u := hu
 match j, hu with
 | 0, hu => exact ⟨_, (Option.some.inj hu).symm⟩
 | 1, hu => exact ⟨_, (Option.some.inj hu).symm⟩
 | j + 2, hu => cases hu
theorem info : (Try.prog.info? 35).map (fun i => (i.zero, i.size, i.bytes)) = some (some zero, 2, 16) := by kernel_rfl
theorem at_ {by_ : Nat} {w : World} {A : Option Addr} {c : Nat} {l : List Cel} (h : rep.SHas by_ w A c l) (h0 : 0 < l.length) :
  ∃ b o, A = some ⟨b, o, none⟩ ∧ ∀ (i : Nat) (a : Cel), l[i]? = some a → w.cell? ⟨b, o + i * 2, none⟩ = some (.int .i64 (a.x)) ∧ w.cell? ⟨b, o + i * 2 + 1, none⟩ = some (.int .i64 (a.y)) := by
 obtain ⟨b, o, e, hc⟩ := h.at_ h0
 refine ⟨b, o, e, fun i a ha => ?_⟩
 obtain ⟨es, ⟨rfl, _⟩, hj⟩ := hc i a ha
 exact ⟨hj 0 _ rfl, hj 1 _ rfl⟩
theorem all_ok {by_ : Nat} {w : World} {A : Option Addr} {c : Nat} {l : List Cel} (h : rep.SHas by_ w A c l) : ∀ a ∈ l, a.ok := Rep.SHas.all_ (R := rep) (Q := ok) (fun {w cs a} (h : rep.has w cs a) => (show cs = a.cells ∧ a.ok from h).2) h
theorem blk {w : World} {g : Nat} {t : TypeId} {fr : Nat × Nat} {a : Cel} (h : Blk w g a.cells t fr) : w.cell? ⟨g, 0, none⟩ = some (.int .i64 (a.x)) ∧ w.cell? ⟨g, 1, none⟩ = some (.int .i64 (a.y)) :=
 ⟨h.cell 0, h.cell 1⟩
def sh : Sh := (.cons (.int .i64) (.cons (.int .i64) .nil))
theorem opens (w : World) (cs : List Value) (h : sh.Ok w cs) : ∃ a, rep.has w cs a := by
 obtain ⟨_, _, rfl, _, _, ⟨x0, rfl, k0⟩, ⟨_, _, rfl, _, _, ⟨x1, rfl, k1⟩, rfl⟩⟩ := h
 exact ⟨⟨x0, x1⟩, rfl, k0, k1⟩
end Cel
theorem hcC {w : World} {cs : List Value} {a : Cel} (h : Cel.rep.has w cs a) : cs = a.cells := And.left (show cs = a.cells ∧ a.ok from h)
end Go.Proofs.Ytmpkaphcpaigdaa
set_option linter.unusedVariables false
set_option linter.unusedSimpArgs false
namespace Go.Proofs.Ytmpkaphcpaigdaa
open Go.RowKit

structure Trp where
 id : Int
 owner : Int
 kind : Int
 spot : Cel
 life : Int
 load : Int
 deriving DecidableEq, Inhabited
namespace Trp
def cells (a : Trp) : List Value := [.int .i64 (a.id), .int .i64 (a.owner), .int .i64 (a.kind), .int .i64 (a.spot.x), .int .i64 (a.spot.y), .int .i64 (a.life), .int .i64 (a.load)]
def ok (a : Trp) : Prop := (Lit.int .i64 a.id).wf = true ∧ (Lit.int .i64 a.owner).wf = true ∧ (Lit.int .i64 a.kind).wf = true ∧ (Lit.int .i64 a.spot.x).wf = true ∧ (Lit.int .i64 a.spot.y).wf = true ∧ (Lit.int .i64 a.life).wf = true ∧ (Lit.int .i64 a.load).wf = true
def raw (j : Nat) (u : Value) : Prop := match j with
 | 0 => ∃ n : Int, u = .int .i64 n
 | 1 => ∃ n : Int, u = .int .i64 n
 | 2 => ∃ n : Int, u = .int .i64 n
 | 3 => ∃ n : Int, u = .int .i64 n
 | 4 => ∃ n : Int, u = .int .i64 n
 | 5 => ∃ n : Int, u = .int .i64 n
 | 6 => ∃ n : Int, u = .int .i64 n
 | _ => True
theorem cells_raw (a : Trp) : ∀ (j : Nat) u, a.cells[j]? = some u → raw j u := by
 intro j u hu
 match j, hu with
 | 0, hu => exact ⟨_, (Option.some.inj hu).symm⟩
 | 1, hu => exact ⟨_, (Option.some.inj hu).symm⟩
 | 2, hu => exact ⟨_, (Option.some.inj hu).symm⟩
 | 3, hu => exact ⟨_, (Option.some.inj hu).symm⟩
 | 4, hu => exact ⟨_, (Option.some.inj hu).symm⟩
 | 5, hu => exact ⟨_, (Option.some.inj hu).symm⟩
 | 6, hu => exact ⟨_, (Option.some.inj hu).symm⟩
 | j + 7, hu => exact trivial
theorem cells_one (a : Trp) : ∀ u ∈ a.cells, u.oneCell' = true := by
 intro u hu
 unfold cells at hu
 simp only [List.mem_cons, List.not_mem_nil, or_false] at hu
 rcases hu with rfl | rfl | rfl | rfl | rfl | rfl | rfl <;> rfl
def rep : Rep Trp := Rep.flat 7 cells ok raw (fun _ => rfl) cells_one cells_raw
theorem plain : rep.Plain := Rep.flat_plain
def zero : Value := .agg #[.int .i64 0, .int .i64 0, .int .i64 0, .int .i64 0, .int .i64 0, .int .i64 0, .int .i64 0]
theorem zero_raw : ∀ (j : Nat) u, zero.cells[j]? = some u → rep.raw j u := by
 intro j u hu
 have hu : (#[(.int .i64 0 : Value), (.int .i64 0 : Value), (.int .i64 0 : Value), (.int .i64 0 : Value), (.int .i64 0 : Value), (.int .i64 0 : Value), (.int .i64 0 : Value)] : Array Value)[j]? = some u := hu
 match j, hu with
 | 0, hu => exact ⟨_, (Option.some.inj hu).symm⟩
 | 1, hu => exact ⟨_, (Option.some.inj hu).symm⟩
 | 2, hu => exact ⟨_, (Option.some.inj hu).symm⟩
 | 3, hu => exact ⟨_, (Option.some.inj hu).symm⟩
 | 4, hu => exact ⟨_, (Option.some.inj hu).symm⟩
 | 5, hu => exact ⟨_, (Option.some.inj hu).symm⟩
 | 6, hu => exact ⟨_, (Option.some.inj hu).symm⟩
 | j + 7, hu => cases hu
theorem info : (Try.prog.info? 37).map (fun i => (i.zero, i.size, i.bytes)) = some (some zero, 7, 56) := by kernel_rfl
theorem at_ {by_ : Nat} {w : World} {A : Option Addr} {c : Nat} {l : List Trp} (h : rep.SHas by_ w A c l) (h0 : 0 < l.length) :
  ∃ b o, A = some ⟨b, o, none⟩ ∧ ∀ (i : Nat) (a : Trp), l[i]? = some a → w.cell? ⟨b, o + i * 7, none⟩ = some (.int .i64 (a.id)) ∧ w.cell? ⟨b, o + i * 7 + 1, none⟩ = some (.int .i64 (a.owner)) ∧ w.cell? ⟨b, o + i * 7 + 2, none⟩ = some (.int .i64 (a.kind)) ∧ w.cell? ⟨b, o + i * 7 + 3, none⟩ = some (.int .i64 (a.spot.x)) ∧ w.cell? ⟨b, o + i * 7 + 4, none⟩ = some (.int .i64 (a.spot.y)) ∧ w.cell? ⟨b, o + i * 7 + 5, none⟩ = some (.int .i64 (a.life)) ∧ w.cell? ⟨b, o + i * 7 + 6, none⟩ = some (.int .i64 (a.load)) := by
 obtain ⟨b, o, e, hc⟩ := h.at_ h0
 refine ⟨b, o, e, fun i a ha => ?_⟩
 obtain ⟨es, ⟨rfl, _⟩, hj⟩ := hc i a ha
 exact ⟨hj 0 _ rfl, hj 1 _ rfl, hj 2 _ rfl, hj 3 _ rfl, hj 4 _ rfl, hj 5 _ rfl, hj 6 _ rfl⟩
theorem all_ok {by_ : Nat} {w : World} {A : Option Addr} {c : Nat} {l : List Trp} (h : rep.SHas by_ w A c l) : ∀ a ∈ l, a.ok := Rep.SHas.all_ (R := rep) (Q := ok) (fun {w cs a} (h : rep.has w cs a) => (show cs = a.cells ∧ a.ok from h).2) h
theorem blk {w : World} {g : Nat} {t : TypeId} {fr : Nat × Nat} {a : Trp} (h : Blk w g a.cells t fr) : w.cell? ⟨g, 0, none⟩ = some (.int .i64 (a.id)) ∧ w.cell? ⟨g, 1, none⟩ = some (.int .i64 (a.owner)) ∧ w.cell? ⟨g, 2, none⟩ = some (.int .i64 (a.kind)) ∧ w.cell? ⟨g, 3, none⟩ = some (.int .i64 (a.spot.x)) ∧ w.cell? ⟨g, 4, none⟩ = some (.int .i64 (a.spot.y)) ∧ w.cell? ⟨g, 5, none⟩ = some (.int .i64 (a.life)) ∧ w.cell? ⟨g, 6, none⟩ = some (.int .i64 (a.load)) :=
 ⟨h.cell 0, h.cell 1, h.cell 2, h.cell 3, h.cell 4, h.cell 5, h.cell 6⟩
def sh : Sh := (.cons (.int .i64) (.cons (.int .i64) (.cons (.int .i64) (.cons (.cons (.int .i64) (.cons (.int .i64) .nil)) (.cons (.int .i64) (.cons (.int .i64) .nil))))))
theorem opens (w : World) (cs : List Value) (h : sh.Ok w cs) : ∃ a, rep.has w cs a := by
 obtain ⟨_, _, rfl, _, _, ⟨x0, rfl, k0⟩, ⟨_, _, rfl, _, _, ⟨x1, rfl, k1⟩, ⟨_, _, rfl, _, _, ⟨x2, rfl, k2⟩, ⟨_, _, rfl, _, _, ⟨_, _, rfl, _, _, ⟨x3, rfl, k3⟩, ⟨_, _, rfl, _, _, ⟨x4, rfl, k4⟩, rfl⟩⟩, ⟨_, _, rfl, _, _, ⟨x5, rfl, k5⟩, ⟨_, _, rfl, _, _, ⟨x6, rfl, k6⟩, rfl⟩⟩⟩⟩⟩⟩ := h
 exact ⟨⟨x0, x1, x2, ⟨x3, x4⟩, x5, x6⟩, rfl, k0, k1, k2, k3, k4, k5, k6⟩
end Trp
end Go.Proofs.Ytmpkaphcpaigdaa
set_option linter.unusedVariables false
set_option linter.unusedSimpArgs false
namespace Go.Proofs.Ytmpkaphcpaigdaa
open Go.RowKit

structure Fld where
 wide : Int
 high : Int
 places : List Int
 deriving DecidableEq, Inhabited
structure Wd where
 field : Fld
 bases : List Cel
 stocks : List Int
 mines : List Int
 troops : List Trp
 next : Int
 now : Int
 deriving DecidableEq, Inhabited
namespace Fld
def placeOk (p : Int) : Bool := inB p 0 3
def chk (f : Fld) : Int :=
 if inB f.wide 1 40 && inB f.high 1 40 then (if decide ((f.places.length : Int) = f.wide * f.high) && f.places.all placeOk then 0 else 4) else 1
def isIn (f : Fld) (c : Cel) : Bool := inB c.x 0 (f.wide - 1) && inB c.y 0 (f.high - 1)
def place (f : Fld) (c : Cel) : Int := f.places.getD (c.y * f.wide + c.x).toNat 0
def ground (f : Fld) (c : Cel) : Bool := f.isIn c && f.place c != 1
theorem good {f : Fld} (h : f.chk = 0) : 1 ≤ f.wide ∧ f.wide ≤ 40 ∧ 1 ≤ f.high ∧ f.high ≤ 40 ∧ (f.places.length : Int) = f.wide * f.high ∧ ∀ p ∈ f.places, 0 ≤ p ∧ p ≤ 3 := by
 unfold chk at h
 split at h
 ·rename_i h1
  rw [Bool.and_eq_true] at h1
  have a := inB_true h1.1
  have b := inB_true h1.2
  split at h
  ·rename_i h2
   rw [Bool.and_eq_true, List.all_eq_true] at h2
   exact ⟨a.1, a.2, b.1, b.2, by simpa using h2.1, fun p hp => inB_true (h2.2 p hp)⟩
  ·cases h
 ·cases h
theorem chk_one {f : Fld} (h : (inB f.wide 1 40 && inB f.high 1 40) = false) : f.chk = 1 := by unfold chk; rw [h]; rfl
theorem idx {f : Fld} (h : f.chk = 0) {c : Cel} (hc : f.isIn c = true) : 0 ≤ c.y * f.wide + c.x ∧ c.y * f.wide + c.x < (f.places.length : Int) ∧ 0 ≤ c.x ∧ c.x < f.wide ∧ 0 ≤ c.y ∧ c.y < f.high := by
 obtain ⟨g1, g2, g3, g4, g5, _⟩ := good h
 unfold isIn at hc
 rw [Bool.and_eq_true] at hc
 have a := inB_true hc.1
 have b := inB_true hc.2
 have e1 : 0 ≤ c.y * f.wide := Int.mul_nonneg b.1 (by omega)
 have e2 : c.y * f.wide ≤ (f.high - 1) * f.wide := Int.mul_le_mul_of_nonneg_right b.2 (by omega)
 have e3 : (f.high - 1) * f.wide = f.wide * f.high - f.wide := by rw [Int.sub_mul, Int.one_mul, Int.mul_comm]
 rw [g5]
 omega
theorem len_le {f : Fld} (h : f.chk = 0) : f.places.length ≤ 1600 := by
 obtain ⟨g1, g2, g3, g4, g5, _⟩ := good h
 have e2 : f.wide * f.high ≤ 40 * 40 := Int.mul_le_mul g2 g4 (by omega) (by omega)
 omega
end Fld
namespace Fld
def atE (f : Fld) (c : Cel) : Int := if f.chk ≠ 0 then f.chk else if f.isIn c then 0 else 7
def atV (f : Fld) (c : Cel) : Int := if f.chk ≠ 0 then 0 else if f.isIn c then f.place c else 0
theorem at_bad {f : Fld} {c : Cel} (h : f.chk ≠ 0) : f.atE c = f.chk ∧ f.atV c = 0 := by unfold atE atV; rw [if_pos h, if_pos h]; exact ⟨rfl, rfl⟩
theorem at_out {f : Fld} {c : Cel} (h : f.chk = 0) (h2 : f.isIn c = false) : f.atE c = 7 ∧ f.atV c = 0 := by unfold atE atV; simp [h, h2]
theorem at_in {f : Fld} {c : Cel} (h : f.chk = 0) (h2 : f.isIn c = true) : f.atE c = 0 ∧ f.atV c = f.place c := by unfold atE atV; simp [h, h2]
theorem isIn_out {f : Fld} {c : Cel} (h : c.x < 0 ∨ f.wide ≤ c.x ∨ c.y < 0 ∨ f.high ≤ c.y) : f.isIn c = false := by
 unfold isIn
 rcases h with h | h | h | h
 ·rw [inB_not (.inl h)]; rfl
 ·rw [inB_not (n := c.x) (.inr (by omega))]; rfl
 ·rw [inB_not (n := c.y) (.inl h), Bool.and_false]
 ·rw [inB_not (n := c.y) (.inr (by omega)), Bool.and_false]
theorem isIn_mk {f : Fld} {c : Cel} (h1 : 0 ≤ c.x) (h2 : c.x < f.wide) (h3 : 0 ≤ c.y) (h4 : c.y < f.high) : f.isIn c = true := by
 unfold isIn
 rw [inB_mk h1 (by omega), inB_mk h3 (by omega)]; rfl
end Fld
def kindOf (k : Int) : Option (Int × Int × Int × Int) := if k = 1 then some (10, 1, 1, 5) else if k = 2 then some (20, 2, 4, 12) else none
namespace Wd
def okBase (W : Wd) (i : Nat) : Bool := W.field.ground (W.bases.getD i default) && !(W.bases.take i).contains (W.bases.getD i default) && inB (W.stocks.getD i 0) 0 1000000
def players (W : Wd) : Bool := decide (W.stocks.length = W.bases.length) && (List.range W.bases.length).all W.okBase
def okMine (W : Wd) (i : Nat) : Bool := inB (W.mines.getD i 0) 0 1000000 && (decide (W.mines.getD i 0 ≤ 0) || W.field.places.getD i 0 == 3)
def minesOk (W : Wd) : Bool := decide (W.mines.length = W.field.places.length) && (List.range W.mines.length).all W.okMine
def lastId (W : Wd) (i : Nat) : Int := if i = 0 then 0 else (W.troops.getD (i - 1) default).id
def lifeOf (k : Int) : Int := if k = 1 then 10 else if k = 2 then 20 else 0
def mostOf (k : Int) : Int := if k = 1 then 5 else 0
def okOne (W : Wd) (lx nx : Int) (t : Trp) : Bool :=
 inB t.kind 1 2 && inB t.id lx nx && inB t.owner 0 ((W.bases.length : Int) - 1) && W.field.ground t.spot && inB t.life 1 (lifeOf t.kind) && inB t.load 0 (mostOf t.kind)
def spots (W : Wd) (k : Nat) : List Cel := (W.troops.take k).map (·.spot)
def okTroop (W : Wd) (i : Nat) : Bool := W.okOne (wrap64 (W.lastId i + 1)) (wrap64 (W.next - 1)) (W.troops.getD i default) && !(W.spots i).contains (W.troops.getD i default).spot
def troopsOk (W : Wd) : Bool := (List.range W.troops.length).all W.okTroop && (inB W.next 1 1000000 && inB W.now 0 1000000)
def chk (W : Wd) : Int :=
 if W.field.chk ≠ 0 then W.field.chk else if 8 < W.bases.length ∨ 100 < W.troops.length then 2 else if W.players && W.minesOk && W.troopsOk then 0 else 4
structure At where
 P : Option Addr
 B : Option Addr
 S : Option Addr
 M : Option Addr
 T : Option Addr
 p : Nat
 b : Nat
 s : Nat
 m : Nat
 t : Nat
def fcells (A : Option Addr) (c : Nat) (f : Fld) : List Value := [.int .i64 f.wide, .int .i64 f.high, .slice A f.places.length c]
def cells (h : At) (W : Wd) : List Value :=
 [.int .i64 W.field.wide, .int .i64 W.field.high, .slice h.P W.field.places.length h.p, .slice h.B W.bases.length h.b, .slice h.S W.stocks.length h.s, .slice h.M W.mines.length h.m, .slice h.T W.troops.length h.t, .int .i64 W.next, .int .i64 W.now]
structure Has (w : World) (h : At) (W : Wd) : Prop where
 P : repI.SHas 8 w h.P h.p W.field.places
 B : Cel.rep.SHas 16 w h.B h.b W.bases
 S : repI.SHas 8 w h.S h.s W.stocks
 M : repI.SHas 8 w h.M h.m W.mines
 T : Trp.rep.SHas 56 w h.T h.t W.troops
 nums : okI W.field.wide ∧ okI W.field.high ∧ okI W.next ∧ okI W.now
theorem Has.keep {w w' : World} {h : At} {W : Wd} (hw : Has w h W) (hb : Below w.heap.size w w') : Has w' h W :=
 ⟨hw.P.keep hb, hw.B.keep hb, hw.S.keep hb, hw.M.keep hb, hw.T.keep hb, hw.nums⟩
def fsh : Sh := .cons (.int .i64) (.cons (.int .i64) (.cons (.slice (.int .i64) 8) .nil))
def sh : Sh := .cons fsh (.cons (.slice Cel.sh 16) (.cons (.slice (.int .i64) 8) (.cons (.slice (.int .i64) 8) (.cons (.slice Trp.sh 56) (.cons (.int .i64) (.cons (.int .i64) .nil))))))
theorem opens (w : World) (cs : List Value) (h : sh.Ok w cs) : ∃ h W, cs = cells h W ∧ Has w h W := by
 obtain ⟨_, _, rfl, _, _, ⟨_, _, rfl, _, _, ⟨x0, rfl, k0⟩, _, _, rfl, _, _, ⟨x1, rfl, k1⟩, _, _, rfl, _, _, hP, rfl⟩, _, _, rfl, _, _, hB, _, _, rfl, _, _, hS, _, _, rfl, _, _, hM, _, _, rfl, _, _, hT, _, _, rfl, _, _, ⟨x2, rfl, k2⟩, _, _, rfl, _, _, ⟨x3, rfl, k3⟩, rfl⟩ := h
 obtain ⟨aP, cP, lP, rfl, HP⟩ := Rep.opens_slice (R := repI) repI_opens rfl (by decide) hP
 obtain ⟨aB, cB, lB, rfl, HB⟩ := Rep.opens_slice (R := Cel.rep) Cel.opens rfl (by decide) hB
 obtain ⟨aS, cS, lS, rfl, HS⟩ := Rep.opens_slice (R := repI) repI_opens rfl (by decide) hS
 obtain ⟨aM, cM, lM, rfl, HM⟩ := Rep.opens_slice (R := repI) repI_opens rfl (by decide) hM
 obtain ⟨aT, cT, lT, rfl, HT⟩ := Rep.opens_slice (R := Trp.rep) Trp.opens rfl (by decide) hT
 exact ⟨⟨aP, aB, aS, aM, aT, cP, cB, cS, cM, cT⟩, ⟨⟨x0, x1, lP⟩, lB, lS, lM, lT, x2, x3⟩, rfl, HP, HB, HS, HM, HT, k0, k1, k2, k3⟩
theorem fblk {w : World} {g : Nat} {t : TypeId} {fr : Nat × Nat} {A : Option Addr} {c : Nat} {f : Fld} (h : Blk w g (fcells A c f) t fr) :
  w.cell? ⟨g, 0, none⟩ = some (.int .i64 f.wide) ∧ w.cell? ⟨g, 1, none⟩ = some (.int .i64 f.high) ∧ w.cell? ⟨g, 2, none⟩ = some (.slice A f.places.length c) := ⟨h.cell 0, h.cell 1, h.cell 2⟩
end Wd
end Go.Proofs.Ytmpkaphcpaigdaa
set_option linter.unusedVariables false
set_option linter.unusedSimpArgs false
namespace Go.Proofs.Ytmpkaphcpaigdaa
open Go.RowKit

theorem Fld.ground_in {f : Fld} {c : Cel} (h : f.ground c = true) : f.isIn c = true := by
 unfold Fld.ground at h
 rw [Bool.and_eq_true] at h
 exact h.1
namespace Wd
theorem chk_all {W : Wd} (h : W.field.chk = 0) (h2 : ¬ (8 < W.bases.length ∨ 100 < W.troops.length)) : W.chk = if W.players && W.minesOk && W.troopsOk then 0 else 4 := by unfold chk; rw [if_neg (by simpa using h), if_neg h2]
end Wd
theorem Wd.players_ok {W : Wd} (h : W.stocks.length = W.bases.length) (ha : ∀ k, k < W.bases.length → W.okBase k = true) : W.players = true := by
 unfold Wd.players
 rw [decide_eq_true h, Bool.true_and, List.all_eq_true]
 exact fun k hk => ha k (List.mem_range.1 hk)
theorem Wd.mines_ok {W : Wd} (h : W.mines.length = W.field.places.length) (ha : ∀ k, k < W.mines.length → W.okMine k = true) : W.minesOk = true := by
 unfold Wd.minesOk
 rw [decide_eq_true h, Bool.true_and, List.all_eq_true]
 exact fun k hk => ha k (List.mem_range.1 hk)
def isId (id : Int) (t : Trp) : Bool := t.id == id
def isAt (p : Cel) (t : Trp) : Bool := decide (t.spot = p)
def whichI (W : Wd) (p : Trp → Bool) : Int := if W.chk = 0 then max (idxI p W.troops) 0 else 0
def whichB (W : Wd) (p : Trp → Bool) : Bool := decide (W.chk = 0) && decide (0 ≤ idxI p W.troops)
def nearT (c : Cel) (r : Int) (t : Trp) : Bool := inB c.x (t.spot.x - r) (t.spot.x + r) && inB c.y (t.spot.y - r) (t.spot.y + r)
def nearIds (W : Wd) (c : Cel) (r : Int) : List Int := (W.troops.filter (nearT c r)).map (·.id)
def nearE (W : Wd) (r : Int) : Int := if W.chk ≠ 0 then W.chk else if inB r 0 12 then 0 else 1
end Go.Proofs.Ytmpkaphcpaigdaa
set_option linter.unusedVariables false
set_option linter.unusedSimpArgs false
namespace Go.Proofs.Ytmpkaphcpaigdaa
open Go.RowKit

theorem wrap_small {x : Int} (h1 : -1000 ≤ x) (h2 : x ≤ 2000000) : wrap64 x = x := by
 have h := IntKind.wrap_i64 x
 unfold wrap64
 first | (rw [h]; omega) | omega
end Go.Proofs.Ytmpkaphcpaigdaa
set_option linter.unusedVariables false
set_option linter.unusedSimpArgs false
namespace Go.Proofs.Ytmpkaphcpaigdaa
open Go.RowKit
structure TroopOk (f : Fld) (nb : Nat) (t : Trp) : Prop where
 kind : t.kind = 1 ∨ t.kind = 2
 owner : 0 ≤ t.owner ∧ t.owner < (nb : Int)
 ground : f.ground t.spot = true
 life : 1 ≤ t.life ∧ t.life ≤ Wd.lifeOf t.kind
 load : 0 ≤ t.load ∧ t.load ≤ Wd.mostOf t.kind
structure Good (W : Wd) : Prop where
 field : W.field.chk = 0
 nb : W.bases.length ≤ 8
 nt : W.troops.length ≤ 100
 sl : W.stocks.length = W.bases.length
 bases : ∀ (i : Nat) c, W.bases[i]? = some c → W.field.ground c = true ∧ (W.bases.take i).contains c = false
 stocks : ∀ (i : Nat) s, W.stocks[i]? = some s → 0 ≤ s ∧ s ≤ 1000000
 ml : W.mines.length = W.field.places.length
 mines : ∀ (i : Nat) m, W.mines[i]? = some m → 0 ≤ m ∧ m ≤ 1000000 ∧ (m ≤ 0 ∨ W.field.places.getD i 0 = 3)
 troops : ∀ (i : Nat) t, W.troops[i]? = some t → TroopOk W.field W.bases.length t
 ids : ∀ (i : Nat) t, W.troops[i]? = some t → W.lastId i < t.id ∧ t.id < W.next ∧ 0 ≤ W.lastId i
 spots : ∀ (i : Nat) t, W.troops[i]? = some t → (W.spots i).contains t.spot = false
 next : 1 ≤ W.next ∧ W.next ≤ 1000000
 now : 0 ≤ W.now ∧ W.now ≤ 1000000
theorem Good.chk {W : Wd} (h : Good W) : W.chk = 0 := by
 have hp : W.players = true := Wd.players_ok h.sl fun k hk => by
  obtain ⟨c, hc⟩ := get_of hk
  obtain ⟨s, hs⟩ := get_of (l := W.stocks) (i := k) (by rw [h.sl]; exact hk)
  unfold Wd.okBase
  rw [List.getD_eq_getElem?_getD, hc, List.getD_eq_getElem?_getD, hs]
  have h1 := h.bases k c hc
  have h2 := h.stocks k s hs
  simp only [Option.getD_some]
  rw [h1.1, h1.2, inB_mk h2.1 h2.2]; rfl
 have hm : W.minesOk = true := Wd.mines_ok h.ml fun k hk => by
  obtain ⟨m, hm⟩ := get_of hk
  have h1 := h.mines k m hm
  unfold Wd.okMine
  rw [List.getD_eq_getElem?_getD, hm]
  simp only [Option.getD_some]
  rw [inB_mk h1.1 h1.2.1, Bool.true_and, Bool.or_eq_true]
  rcases h1.2.2 with h3 | h3
  ·exact .inl (by simpa using h3)
  ·exact .inr (by simpa using h3)
 have ht : W.troopsOk = true := by
  unfold Wd.troopsOk
  rw [inB_mk h.next.1 h.next.2, inB_mk h.now.1 h.now.2, Bool.and_true, Bool.and_true, List.all_eq_true]
  intro k hk
  obtain ⟨t, ht⟩ := get_of (List.mem_range.1 hk)
  have h1 := h.troops k t ht
  have h2 := h.ids k t ht
  have h3 := h.spots k t ht
  have hn := h.next
  unfold Wd.okTroop Wd.okOne
  rw [List.getD_eq_getElem?_getD, ht]
  simp only [Option.getD_some]
  have k1 : inB t.kind 1 2 = true := by
   rcases h1.kind with h | h
   ·exact inB_mk (by omega) (by omega)
   ·exact inB_mk (by omega) (by omega)
  have k2 : inB t.id (W.lastId k + 1) (W.next - 1) = true := inB_mk (by omega) (by omega)
  have k3 : inB t.owner 0 ((W.bases.length : Int) - 1) = true := inB_mk h1.owner.1 (by have := h1.owner.2; omega)
  rw [wrap_small (by omega) (by omega), wrap_small (by omega) (by omega), k1, k2, k3, h3, h1.ground, inB_mk h1.life.1 h1.life.2, inB_mk h1.load.1 h1.load.2]
  rfl
 rw [Wd.chk_all h.field (by have := h.nb; have := h.nt; omega), hp, hm, ht]
 rfl
end Go.Proofs.Ytmpkaphcpaigdaa
set_option linter.unusedVariables false
set_option linter.unusedSimpArgs false
namespace Go.Proofs.Ytmpkaphcpaigdaa
open Go.RowKit
structure WOwn (w : World) (Z : Nat) (a : Wd.At) (W : Wd) : Prop where
 P : repI.SOwn 3 8 w Z (Rep.blkOf a.P) a.P a.p W.field.places
 B : Cel.rep.SOwn 35 16 w Z (Rep.blkOf a.B) a.B a.b W.bases
 S : repI.SOwn 3 8 w Z (Rep.blkOf a.S) a.S a.s W.stocks
 M : repI.SOwn 3 8 w Z (Rep.blkOf a.M) a.M a.m W.mines
 T : Trp.rep.SOwn 37 56 w Z (Rep.blkOf a.T) a.T a.t W.troops
 apart : (Rep.blkOf a.P ++ Rep.blkOf a.B ++ Rep.blkOf a.S ++ Rep.blkOf a.M ++ Rep.blkOf a.T).Nodup
 nums : okI W.field.wide ∧ okI W.field.high ∧ okI W.next ∧ okI W.now
theorem WOwn.has {w : World} {B : Nat} {a : Wd.At} {W : Wd} (h : WOwn w B a W) : Wd.Has w a W := ⟨h.P.has, h.B.has, h.S.has, h.M.has, h.T.has, h.nums⟩
theorem WOwn.later {w w' : World} {B : Nat} {a : Wd.At} {W : Wd} (h : WOwn w B a W) (hb : Below w.heap.size w w') : WOwn w' B a W := ⟨h.P.later hb, h.B.later hb, h.S.later hb, h.M.later hb, h.T.later hb, h.apart, h.nums⟩
def WOwn.foot (a : Wd.At) : List Nat := Rep.blkOf a.P ++ Rep.blkOf a.B ++ Rep.blkOf a.S ++ Rep.blkOf a.M ++ Rep.blkOf a.T
theorem WOwn.lt {w : World} {B : Nat} {a : Wd.At} {W : Wd} (h : WOwn w B a W) : ∀ g ∈ WOwn.foot a, B ≤ g ∧ g < w.heap.size := by
 intro g hg
 unfold WOwn.foot at hg
 simp only [List.mem_append] at hg
 rcases hg with (((hg | hg) | hg) | hg) | hg
 ·exact h.P.lt g hg
 ·exact h.B.lt g hg
 ·exact h.S.lt g hg
 ·exact h.M.lt g hg
 ·exact h.T.lt g hg
def Half (w wx : World) (pA : Option Addr) (pC : Nat) (W : Wd) (aM : Option Addr) (kM : Nat) (aT : Option Addr) (kT n2 : Nat) : Prop :=
 ∃ (bA : Option Addr) (bC : Nat) (sA : Option Addr) (sC n3 n4 : Nat), Blk wx w.heap.size [.int .i64 W.field.wide, .int .i64 W.field.high, .slice pA W.field.places.length pC, .slice bA W.bases.length bC, .slice sA W.stocks.length sC, .slice aM W.mines.length kM, .slice aT W.troops.length kT, .int .i64 W.next, .int .i64 W.now] 28 (0, 0) ∧
  Blk wx (w.heap.size + 1) [.int .i64 0, .int .i64 0, .slice none 0 0, .slice none 0 0, .slice none 0 0, .slice none 0 0, .slice none 0 0, .int .i64 0, .int .i64 0] 28 (0, 0) ∧ repI.SOwn 3 8 wx w.heap.size (Rep.blkOf pA) pA pC W.field.places ∧ Cel.rep.SOwn 35 16 wx n2 (Rep.blkOf bA) bA bC W.bases ∧ repI.SOwn 3 8 wx n3 (Rep.blkOf sA) sA sC W.stocks ∧
  (∀ g ∈ Rep.blkOf bA, n2 ≤ g ∧ g < n3) ∧ (∀ g ∈ Rep.blkOf sA, n3 ≤ g ∧ g < n4) ∧ Below w.heap.size w wx ∧ n2 ≤ n3 ∧ n3 ≤ n4 ∧ n4 = wx.heap.size
end Go.Proofs.Ytmpkaphcpaigdaa
namespace Go.Proofs.Ytmpkaphcpaigdaa
end Go.Proofs.Ytmpkaphcpaigdaa
set_option linter.unusedVariables false
set_option linter.unusedSimpArgs false
namespace Go.Proofs.Ytmpkaphcpaigdaa
open Go.RowKit

namespace Rep
variable {α : Type} {R : Rep α}
theorem flatten_set {β : Type} {size : Nat} {X : List (List β)} {i : Nat} {es : List β} (hX : ∀ x ∈ X, x.length = size) (hi : i < X.length) : (X.set i es).flatten = X.flatten.take (i * size) ++ es ++ X.flatten.drop (i * size + size) := by
 rw [List.set_eq_take_append_cons_drop, if_pos hi, List.flatten_append, List.flatten_cons, flatten_take i hX, flatten_drop (i + 1) hX, Nat.succ_mul, List.append_assoc]
theorem take_mid {β : Type} {cur es : List β} {p n k : Nat} (hk : es.length = k) (h1 : p + k ≤ n) (h2 : n ≤ cur.length) : (cur.take p ++ es ++ cur.drop (p + k)).take n = (cur.take n).take p ++ es ++ (cur.take n).drop (p + k) := by
 apply List.ext_getElem?
 intro j
 subst hk
 simp only [List.getElem?_take, List.getElem?_append, List.length_append, List.length_take, List.getElem?_drop]
 grind
theorem SOwn.setE {E by_ B c i g : Nat} {f : List Nat} {l : List α} {w : World} {q' : α} {es : List Value} {cur : Array Value} (h : R.SOwn E by_ w B f (some ⟨g, 0, none⟩) c l) (hp : R.Bare) (hi : i < l.length) (hq : ∀ w, R.has w es q') (hcur : w.heap[g]? = some (.cells cur E (0, 0))) :
  R.SOwn E by_ (w.setRow g (cur.toList.take (i * R.size) ++ es ++ cur.toList.drop (i * R.size + es.length)).toArray) B f (some ⟨g, 0, none⟩) c (l.set i q') ∧ i * R.size + es.length ≤ cur.toList.length := by
 obtain ⟨hb, ps, rfl, hn, ho, hall⟩ := h
 have hel : es.length = R.size := R.len (hq w)
 have hl := olens hall
 have hpl : ps.length = l.length := hall.length
 obtain ⟨hx1, hx2⟩ := ho
 obtain ⟨g', cap, cur', hv, hBg, hh, hnc, hcm, hsz, htk, hG⟩ := hx2.resolve_left (fun hz => nomatch hz.1)
 injection hv with hv1 hv2 hv3
 injection hv1 with hv1
 injection hv1 with hv1 hv4 hv5
 subst hv1 hv3
 rw [hh] at hcur
 injection hcur with hcur
 injection hcur with hcur
 subst hcur
 have hle : i * R.size + R.size ≤ l.length * R.size := by rw [← Nat.succ_mul]; exact Nat.mul_le_mul_right _ hi
 have hle2 : l.length * R.size ≤ c * R.size := Nat.mul_le_mul_right _ hnc
 have hsl : cur'.toList.length = c * R.size := by rw [Array.length_toList, hsz]
 obtain ⟨x, hx, hxo⟩ := hall.at_ (get_d (l := l) (u := q') hi)
 have hx0 : x.1 = [] := hp.2 hxo
 have hdiff : ∀ y ∈ ps, ∀ q ∈ y.1, q ≠ g := fun y hy q hq e => by
  obtain ⟨b, hb'⟩ := hall.left y hy
  rw [hp.2 hb'] at hq
  simp at hq
 have e1 : (ps.set i (x.1, es)).map (·.1) = ps.map (·.1) := by
  rw [List.map_set]
  have : (ps.map (·.1))[i]? = some x.1 := by rw [List.getElem?_map, hx]; rfl
  obtain ⟨h2, h3⟩ := List.getElem?_eq_some_iff.1 this
  conv => lhs; rw [← h3]
  exact List.set_getElem_self _
 have e2 : (ps.set i (x.1, es)).map (·.2) = (ps.map (·.2)).set i es := by rw [List.map_set]
 have hfs := flatten_set (es := es) hl (by rw [List.length_map]; omega : i < (ps.map (·.2)).length)
 rw [hel]
 refine ⟨⟨by rw [List.length_set]; exact hb, ps.set i (x.1, es), by rw [e1], hn, ⟨?_, .inr ⟨g, c, (cur'.toList.take (i * R.size) ++ es ++ cur'.toList.drop (i * R.size + R.size)).toArray, by rw [List.length_set], hBg, ?_, by rw [List.length_set]; exact hnc, hcm, ?_, ?_, ?_⟩⟩, ?_⟩, by omega⟩
 ·rw [e2, hfs, List.length_set]
  simp only [List.length_append, List.length_take, List.length_drop, hx1, hel]
  omega
 ·exact Blk.setRow (cur := cur'.toList) (by simpa [Blk] using hh) _
 ·rw [List.size_toArray]
  simp only [List.length_append, List.length_take, List.length_drop, hsl, hel]
  omega
 ·rw [List.length_set, e2, hfs, ← htk]
  exact take_mid hel hle (by omega)
 ·intro j u hu
  rw [List.getElem?_toArray] at hu
  by_cases h1 : j < i * R.size
  ·refine hG j u ?_
   rw [List.append_assoc, List.getElem?_append_left (by rw [List.length_take]; omega), List.getElem?_take, if_pos h1] at hu
   rw [← Array.getElem?_toList]; exact hu
  ·by_cases h2 : j < i * R.size + R.size
   ·rw [List.append_assoc, List.getElem?_append_right (by rw [List.length_take]; omega), List.getElem?_append_left (by rw [List.length_take]; omega), List.length_take] at hu
    have hj : j % R.size = j - i * R.size := by
     have h3 : j = R.size * i + (j - i * R.size) := by rw [Nat.mul_comm]; omega
     have h5 : (j - i * R.size) % R.size = j - i * R.size := Nat.mod_eq_of_lt (by omega)
     conv => lhs; rw [h3, Nat.mul_add_mod, h5]
    rw [hj]
    exact R.raw_ (hq w) _ u (by rw [Nat.min_eq_left (by omega)] at hu; exact hu)
   ·refine hG j u ?_
    rw [List.getElem?_append_right (by simp only [List.length_append, List.length_take]; omega), List.getElem?_drop] at hu
    rw [← Array.getElem?_toList]
    rw [show i * R.size + R.size + (j - (List.take (i * R.size) cur'.toList ++ es).length) = j from by simp only [List.length_append, List.length_take]; omega] at hu
    exact hu
 ·have hall2 : All2 (fun x a => R.own (w.setRow g (cur'.toList.take (i * R.size) ++ es ++ cur'.toList.drop (i * R.size + R.size)).toArray) B x.1 x.2 a) ps l := hall.imp fun y a hy hyo => R.okeep hyo fun q hq => (Mod.setRow w g _).block q (R.olt hyo q hq).2 (by simpa using hdiff y hy q hq)
  exact hall2.set_ (P := fun (x : List Nat × List Value) a => R.own _ B x.1 x.2 a) (by rw [hx0]; exact hp.1 (hq _))
end Rep
section
variable {P : Program} {n : Nat} {E E' : List (Nat × Value)} {a : Act} {w w' w0 w1 : World} {Q : Exit → Act → World → Prop} {ops : Array Oper} {v : Value}
variable {d : Option Nat} {ty : TypeId} {pos : String} {af : Array Edge} {g : Option (Nat × Bool)} {x y z : Operand} {t : TypeId} {rest : List Oper}
theorem soE {α : Type} {R : Rep α} {e by_ B i : Nat} {A : Option Addr} {c : Nat} {l : List α} {q' : α} {p : Addr} {es : List Value} (h : R.SOwn e by_ w B (Rep.blkOf A) A c l) (hR : R.Bare) (hi : i < l.length) (hx : ev E x = some (.pointer (some p))) (hp : p = ⟨bA A, oA A + i * R.size, none⟩) (hy : ev E y = some v) (hc : v.cells = es.toArray)
  (hq : ∀ w, R.has w es q') (hs : Sz P t es.length)
  (hk : ∀ w1, Mod (Rep.blkOf A) w w1 → R.SOwn e by_ w1 B (Rep.blkOf A) A c (l.set i q') → WL P n ops Q rest E w1) : WL P n ops Q (⟨none, .store t x y, ty, pos, af, none⟩ :: rest) E w := by
 obtain ⟨b, rfl⟩ := h.block (by omega)
 have hp' : p = ⟨b, i * R.size, none⟩ := by rw [hp]; simp [bA, oA]
 subst hp'
 obtain ⟨_, ps, _, _, ho, _⟩ := id h
 obtain ⟨cur, hcur, _, _⟩ := ho.cells_at
 obtain ⟨hset, hle⟩ := Rep.SOwn.setE (q' := q') h hR hi hq hcur
 have hst := run_storeVar (P := P) (w := w) (b := b) (p := i * R.size) (cur := cur.toList) (e := e) (by simpa [Blk] using hcur) hc hs (List.all_eq_true.2 (R.one (hq w))) hle
 refine us (fun n a ha => ?_) (hk _ (Mod.setRow w b _) hset)
 simp only [execOp, ha.ev hx, ha.ev hy, Instr.storeAt, Instr.sureAddr, Sem.run_bind, Sem.run_pure, Result.andThen_ok, hst]
def pfx (A : Option Addr) (_hi : Nat) : Option Addr := A
theorem sP {A : Option Addr} {len cap e s : Nat} {k : IntKind} (hi m : Nat) {i : Int} (ht : P.underlying t = some (.slice e)) (hs : Sz P e s) (hx : ev E x = some (.slice A len cap)) (hy : ev E y = some (.int k i)) (h1 : i = (hi : Int)) (h2 : hi ≤ cap) (hm : m = hi) : Runs P E ⟨d, .slice t x none (some y) none, ty, pos, af, g⟩ w (.slice (pfx A hi) m cap) w := fun n a ha => by
 subst h1; subst hm
 have h1 : P.underlying t = some (.slice (P.elem t)) := by simp [Program.elem, ht]
 have q2 : P.elem t = e := by simp [Program.elem, ht]
 have h3 := run_slice_h (P := P) (w := w) t A len cap h1 k (m : Int) (by omega) (by omega)
 have h4 := run_sliceAt_slice (P := P) (w := w) t (.slice A len cap) none (some (.int k (m : Int))) none h1
 rw [q2, hs w] at h3
 simp only [execOp, ha.ev hx, ha.ev hy, Option.map, h4, h3, Sem.run_bind, Result.andThen_ok, Sem.run_pure, sliced, Int.toNat_natCast, Nat.sub_zero]
 unfold pfx
 cases A with
 | none => simp
 | some a => simp [Addr.add]
end
theorem Rep.SHas.pre {α : Type} {R : Rep α} {by_ c : Nat} {A : Option Addr} {l : List α} {w : World} (h : R.SHas by_ w A c l) (k : Nat) : R.SHas by_ w (pfx A k) c (l.take k) := h.take_ k
end Go.Proofs.Ytmpkaphcpaigdaa
namespace Go.Proofs.Ytmpkaphcpaigdaa
open Go.RowKit
section
variable {P : Program} {n : Nat} {E : List (Nat × Value)} {w : World} {Q : Exit → Act → World → Prop} {ops : Array Oper} {kd : Nat → Nat}
def AQ2 (P : Program) (ops : Array Oper) (Q : Exit → Act → World → Prop) (kd : Nat → Nat) (τ1 τ2 : List Nat) : Exit → Act → World → Prop :=
 nrm (fun a w => wpFlow P ops (nrm (Q .normal)) kd τ1 a w ∧ wpFlow P ops (nrm (Q .normal)) kd τ2 a w)
end
end Go.Proofs.Ytmpkaphcpaigdaa
namespace Go.Proofs.Ytmpkaphcpaigdaa
end Go.Proofs.Ytmpkaphcpaigdaa
