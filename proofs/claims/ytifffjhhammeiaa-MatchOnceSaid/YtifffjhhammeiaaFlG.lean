import Derived.Test.YtifffjhhammeiaaFcs
import Derived.Test.YtifffjhhammeiaaPrs
import Derived.Lib.Small
import Derived.Test.YtifffjhhammeiaaBas
import Derived.Shelf.SlSortCmp.WholeK
import Derived.Sort.OwnSortedInts
import Derived.Shelf.SlicesG.Cmp
import Derived.Test.YtifffjhhammeiaaProg
import Derived.Sort.Grow
set_option linter.unusedVariables false
set_option linter.unusedSimpArgs false
set_option maxRecDepth 100000
set_option maxHeartbeats 4000000
namespace Go.Proofs.Ytifffjhhammeiaa
end Go.Proofs.Ytifffjhhammeiaa
set_option linter.unusedVariables false
set_option linter.unusedSimpArgs false
namespace Go.Proofs.Ytifffjhhammeiaa.Mt
def rawP (M r k : Nat) : Nat × Nat := if k = 0 then (M, r) else ((r + k) % M, (r + M - k) % M)
def ord (p : Nat × Nat) : Nat × Nat := (min p.1 p.2, max p.1 p.2)
def addm (M r k : Nat) : Nat := if r + k < M then r + k else r + k - M
def subm (M r k : Nat) : Nat := if k ≤ r then r - k else r + M - k
theorem add_mod {M r k : Nat} (hr : r < M) (hk : k < M) : (r + k) % M = addm M r k := by
 unfold addm
 split
 ·exact Nat.mod_eq_of_lt (by omega)
 ·rw [Nat.mod_eq_sub_mod (by omega)]; exact Nat.mod_eq_of_lt (by omega)
theorem sub_mod {M r k : Nat} (hr : r < M) (hk : k < M) (h0 : 0 < k) : (r + M - k) % M = subm M r k := by
 unfold subm
 split
 ·rw [Nat.mod_eq_sub_mod (by omega)]
  rw [show r + M - k - M = r - k by omega]; exact Nat.mod_eq_of_lt (by omega)
 ·exact Nat.mod_eq_of_lt (by omega)
def meetP (M r k : Nat) : Nat × Nat := ord (rawP M r k)
theorem meet_cases {M r k : Nat} (hr : r < M) (hk : 2 * k < M) : (k = 0 ∧ meetP M r k = (r, M)) ∨
  (0 < k ∧ ∃ x y, x < M ∧ y < M ∧ x ≠ y ∧ (x = r + k ∨ x + M = r + k) ∧ (y + k = r ∨ y + k = r + M) ∧ meetP M r k = ord (x, y)) := by
 by_cases h0 : k = 0
 ·left; subst h0; refine ⟨rfl, ?_⟩; show (min M r, max M r) = (r, M); rw [Nat.min_eq_right (by omega), Nat.max_eq_left (by omega)]
 ·right; refine ⟨by omega, addm M r k, subm M r k, ?_⟩
  refine ⟨?_, ?_, ?_, ?_, ?_, ?_⟩
  ·unfold addm; split <;> omega
  ·unfold subm; split <;> omega
  ·unfold addm subm; split <;> split <;> omega
  ·unfold addm; split <;> omega
  ·unfold subm; split <;> omega
  ·unfold meetP rawP; rw [if_neg h0, add_mod hr (by omega), sub_mod hr (by omega) (by omega)]
theorem ord_mem {x y : Nat} (h : x ≠ y) : (ord (x, y)).1 < (ord (x, y)).2 ∧ ((ord (x, y)).1 = x ∧ (ord (x, y)).2 = y ∨ (ord (x, y)).1 = y ∧ (ord (x, y)).2 = x) := by
 unfold ord; dsimp only
 rcases Nat.lt_or_ge x y with h1 | h1
 ·rw [Nat.min_eq_left (by omega), Nat.max_eq_right (by omega)]; omega
 ·rw [Nat.min_eq_right (by omega), Nat.max_eq_left (by omega)]; omega
theorem meet_lt {M r k : Nat} (hr : r < M) (hk : 2 * k < M) : (meetP M r k).1 < (meetP M r k).2 ∧ (meetP M r k).2 ≤ M ∧ ((meetP M r k).2 = M → k = 0) := by
 rcases meet_cases hr hk with ⟨h0, e⟩ | ⟨h0, x, y, hx, hy, hn, _, _, e⟩
 ·rw [e]; dsimp only; omega
 ·rw [e]; have := ord_mem hn; omega
theorem meet_once {M r k k' : Nat} (hr : r < M) (hk : 2 * k < M) (hk' : 2 * k' < M) (h : (meetP M r k).1 = (meetP M r k').1 ∨ (meetP M r k).1 = (meetP M r k').2 ∨ (meetP M r k).2 = (meetP M r k').1 ∨ (meetP M r k).2 = (meetP M r k').2) : k = k' := by
 rcases meet_cases hr hk with ⟨h0, e⟩ | ⟨h0, x, y, hx, hy, hn, h1, h2, e⟩ <;> rcases meet_cases hr hk' with ⟨h0', e'⟩ | ⟨h0', x', y', hx', hy', hn', h1', h2', e'⟩
 ·omega
 ·rw [e, e'] at h; have := ord_mem hn'; dsimp only at h; omega
 ·rw [e, e'] at h; have := ord_mem hn; dsimp only at h; omega
 ·rw [e, e'] at h
  have a := (ord_mem hn).2
  have b := (ord_mem hn').2
  rcases a with a | a <;> rcases b with b | b <;> rw [a.1, a.2, b.1, b.2] at h <;> omega
theorem meet_round {M r k r' k' : Nat} (ho : M % 2 = 1) (hr : r < M) (hr' : r' < M) (hk : 2 * k < M) (hk' : 2 * k' < M) (h : meetP M r k = meetP M r' k') : r = r' ∧ k = k' := by
 have key : r = r' := by
  rcases meet_cases hr hk with ⟨h0, e⟩ | ⟨h0, x, y, hx, hy, hn, h1, h2, e⟩ <;> rcases meet_cases hr' hk' with ⟨h0', e'⟩ | ⟨h0', x', y', hx', hy', hn', h1', h2', e'⟩
  ·rw [e, e'] at h; injection h
  ·rw [e, e'] at h; have := ord_mem hn'; rw [← h] at this; dsimp only at this; omega
  ·rw [e, e'] at h; have := ord_mem hn; rw [h] at this; dsimp only at this; omega
  ·rw [e, e'] at h
   have a := (ord_mem hn).2
   have b := (ord_mem hn').2
   rw [← h] at b
   have hs : x + y = x' + y' := by omega
   clear a b h e e'
   omega
 subst key
 exact ⟨rfl, meet_once hr hk hk' (.inl (by rw [h]))⟩
section
variable {l : List Gam}
def ptG (x : Int) (g : Gam) : Int := if g.won = 0 then (if g.a = x then 3 else 0) else if g.won = 1 then (if g.b = x then 3 else 0) else (if g.a = x ∨ g.b = x then 1 else 0)
def wnG (x : Int) (g : Gam) : Int := if g.won = 0 then (if g.a = x then 1 else 0) else if g.won = 1 then (if g.b = x then 1 else 0) else 0
def tot (f : Gam → Int) : List Gam → Int
 | [] => 0
 | g :: l => f g + tot f l
theorem tot_app (f : Gam → Int) : ∀ (l m : List Gam), tot f (l ++ m) = tot f l + tot f m
 | [], m => by simp [tot]
 | g :: l, m => by rw [List.cons_append, tot, tot, tot_app f l m]; omega
theorem tot_le {f : Gam → Int} {c : Int} (H : ∀ g, 0 ≤ f g ∧ f g ≤ c) : ∀ (l : List Gam), 0 ≤ tot f l ∧ tot f l ≤ c * l.length
 | [] => by simp [tot]
 | g :: l => by
  have h1 := H g
  have h2 := tot_le H l
  rw [tot, List.length_cons]
  have : c * ((l.length + 1 : Nat) : Int) = c * l.length + c := by rw [Int.natCast_add, Int.mul_add]; simp
  omega
theorem pt_le (x : Int) (g : Gam) : 0 ≤ ptG x g ∧ ptG x g ≤ 3 := by unfold ptG; repeat' split <;> omega
theorem wn_le (x : Int) (g : Gam) : 0 ≤ wnG x g ∧ wnG x g ≤ 1 := by unfold wnG; repeat' split <;> omega
def scF (l : List Gam) (i : Nat) : Sco := ⟨i, tot (ptG i) l, tot (wnG i) l⟩
def scL (n : Nat) (l : List Gam) : List Sco := (List.range n).map (scF l)
theorem scL_len {n : Nat} : (scL n l).length = n := by simp [scL]
theorem scL_at {n i : Nat} (h : i < n) : (scL n l)[i]? = some (scF l i) := by unfold scL; rw [List.getElem?_map, List.getElem?_range h]; rfl
theorem scL_none {n i : Nat} (h : n ≤ i) : (scL n l)[i]? = none := List.getElem?_eq_none (by rw [scL_len]; exact h)
theorem sc_same {i : Nat} {g : Gam} (h1 : ptG i g = 0) (h2 : wnG i g = 0) : scF (l ++ [g]) i = scF l i := by
 unfold scF; rw [tot_app, tot_app]; simp only [tot, h1, h2]; simp
theorem sc_set {n A : Nat} {p w : Int} {g : Gam} (hA : A < n) (hp : p = tot (ptG A) l + ptG A g) (hw : w = tot (wnG A) l + wnG A g) (ho : ∀ i : Nat, i ≠ A → ptG i g = 0 ∧ wnG i g = 0) :
  (scL n l).set A ⟨A, p, w⟩ = scL n (l ++ [g]) := by
 refine List.ext_getElem? λ i => ?_
 by_cases hi : i < n
 ·rw [scL_at hi]
  by_cases e : A = i
  ·subst e; rw [List.getElem?_set_self (by rw [scL_len]; exact hi)]
   unfold scF; rw [tot_app, tot_app, hp, hw]; simp [tot]
  ·rw [List.getElem?_set_ne e, scL_at hi, sc_same (ho i (λ h => e h.symm)).1 (ho i (λ h => e h.symm)).2]
 ·rw [scL_none (by omega), List.getElem?_set_ne (by omega), scL_none (by omega)]
theorem sc_set2 {n A B : Nat} {p q w v : Int} {g : Gam} (hA : A < n) (hB : B < n) (hne : A ≠ B) (hp : p = tot (ptG A) l + ptG A g) (hw : w = tot (wnG A) l + wnG A g) (hq : q = tot (ptG B) l + ptG B g) (hv : v = tot (wnG B) l + wnG B g)
  (ho : ∀ i : Nat, i ≠ A → i ≠ B → ptG i g = 0 ∧ wnG i g = 0) : ((scL n l).set A ⟨A, p, w⟩).set B ⟨B, q, v⟩ = scL n (l ++ [g]) := by
 refine List.ext_getElem? λ i => ?_
 by_cases hi : i < n
 ·rw [scL_at hi]
  by_cases e : B = i
  ·subst e; rw [List.getElem?_set_self (by rw [List.length_set, scL_len]; exact hi)]
   unfold scF; rw [tot_app, tot_app, hq, hv]; simp [tot]
  ·rw [List.getElem?_set_ne e]
   by_cases e' : A = i
   ·subst e'; rw [List.getElem?_set_self (by rw [scL_len]; exact hi)]
    unfold scF; rw [tot_app, tot_app, hp, hw]; simp [tot]
   ·rw [List.getElem?_set_ne e', scL_at hi, sc_same (ho i (λ h => e' h.symm) (λ h => e h.symm)).1 (ho i (λ h => e' h.symm) (λ h => e h.symm)).2]
 ·rw [scL_none (by omega), List.getElem?_set_ne (by omega), List.getElem?_set_ne (by omega), scL_none (by omega)]
def badG (n : Int) (g : Gam) : Bool := decide (g.a < 0 ∨ n ≤ g.a ∨ g.b < 0 ∨ n ≤ g.b ∨ g.a = g.b ∨ g.won < 0 ∨ 2 < g.won)
theorem good_iff {n : Int} {g : Gam} : badG n g = false ↔ (0 ≤ g.a ∧ g.a < n ∧ 0 ≤ g.b ∧ g.b < n ∧ g.a ≠ g.b ∧ 0 ≤ g.won ∧ g.won ≤ 2) := by unfold badG; rw [decide_eq_false_iff_not]; omega
def bef (x y : Sco) : Bool := decide (y.points < x.points ∨ y.points = x.points ∧ (y.won < x.won ∨ y.won = x.won ∧ x.player < y.player))
def orI (a b : Int) : Int := if a ≠ 0 then a else b
def cfS (x y : Sco) : Int := orI (Go.Lib.compareInt y.points x.points) (orI (Go.Lib.compareInt y.won x.won) (Go.Lib.compareInt x.player y.player))
theorem cf_lt (x y : Sco) : decide (cfS x y < 0) = bef x y := by
 unfold cfS orI Go.Lib.compareInt bef
 rw [Bool.eq_iff_iff, decide_eq_true_eq, decide_eq_true_eq]
 repeat' split <;> first | omega | (simp_all <;> omega)
theorem bef_irrefl (x : Sco) : bef x x = false := by unfold bef; rw [decide_eq_false_iff_not]; omega
theorem bef_trans (x y z : Sco) (h1 : bef x y = true) (h2 : bef y z = true) : bef x z = true := by unfold bef at *; rw [decide_eq_true_eq] at *; omega
theorem bef_ntrans (x y z : Sco) (h1 : bef x y = false) (h2 : bef y z = false) : bef x z = false := by unfold bef at *; rw [decide_eq_false_iff_not] at *; omega
theorem bef_total (x y : Sco) (h1 : bef x y = false) (h2 : bef y x = false) : x = y := by
 unfold bef at *; rw [decide_eq_false_iff_not] at *
 cases x; cases y; dsimp only at *; rw [Sco.mk.injEq]; omega
theorem bef_asymm (x y : Sco) (h : bef x y = true) : bef y x = false := by unfold bef at *; rw [decide_eq_true_eq] at h; rw [decide_eq_false_iff_not]; omega
def tabS (S : List Sco) : List Sco := S.mergeSort λ x y => !bef y x
theorem tabS_perm (S : List Sco) : (tabS S).Perm S := List.mergeSort_perm _ _
theorem tabS_sorted (S : List Sco) : (tabS S).Pairwise λ x y => bef y x = false := by
 refine (List.pairwise_mergeSort (le := λ x y => !bef y x) (λ a b c h1 h2 => ?_) (λ a b => ?_) S).imp fun {x y} h => by simpa using h
 ·simp at *; exact bef_ntrans _ _ _ h2 h1
 ·cases hb : bef b a with
  | false => rfl
  | true => simp [bef_asymm _ _ hb]
theorem tabS_uniq {S T : List Sco} (hp : T.Perm S) (hs : T.Pairwise λ x y => bef y x = false) : T = tabS S :=
 List.Perm.eq_of_pairwise (λ x y _ _ h1 h2 => bef_total _ _ h2 h1) hs (tabS_sorted S) (hp.trans (tabS_perm S).symm)
def tabL (n : Nat) (l : List Gam) : List Int := (tabS (scL n l)).map (·.player)
theorem players (n : Nat) (l : List Gam) : (scL n l).map (·.player) = (List.range n).map λ i : Nat => (i : Int) := by unfold scL; rw [List.map_map]; rfl
def flipG (g : Gam) : Gam := if g.won = 0 ∨ g.won = 1 then ⟨g.b, g.a, 1 - g.won⟩ else g
def sumI : List Int → Int
 | [] => 0
 | a :: l => a + sumI l
def wantG (g : Gam) : Int := if g.won = 2 then 2 else 3
def mtE (n : Int) (l : List Gam) : Int := if n < 1 ∨ 64 < n then 1 else if 3000 < l.length then 2 else if l.any (badG n) then 4 else 0
def scR (n : Int) (l : List Gam) : List Sco := if mtE n l = 0 then scL n.toNat l else []
theorem mtE_1 {n : Int} (h : n < 1 ∨ 64 < n) : mtE n l = 1 := if_pos h
theorem mtE_2 {n : Int} (h : ¬ (n < 1 ∨ 64 < n)) (h2 : 3000 < l.length) : mtE n l = 2 := by unfold mtE; rw [if_neg h, if_pos h2]
theorem mtE_4 {n : Int} (h : ¬ (n < 1 ∨ 64 < n)) (h2 : ¬ 3000 < l.length) (h3 : ∃ g ∈ l, badG n g = true) : mtE n l = 4 := by unfold mtE; rw [if_neg h, if_neg h2, if_pos (List.any_eq_true.2 h3)]
theorem mtE_0 {n : Int} (h : ¬ (n < 1 ∨ 64 < n)) (h2 : ¬ 3000 < l.length) (h3 : ∀ g ∈ l, badG n g = false) : mtE n l = 0 := by
 unfold mtE; rw [if_neg h, if_neg h2, if_neg]
 intro hb
 obtain ⟨g, hg, hb⟩ := List.any_eq_true.1 hb
 rw [h3 g hg] at hb; cases hb
theorem mtE_ok {n : Int} (h : mtE n l = 0) : 1 ≤ n ∧ n ≤ 64 ∧ l.length ≤ 3000 ∧ ∀ g ∈ l, badG n g = false := by
 unfold mtE at h
 split at h
 ·omega
 ·split at h
  ·omega
  ·split at h
   ·omega
   ·rename_i h1 h2 h3
    refine ⟨by omega, by omega, by omega, λ g hg => ?_⟩
    cases hb : badG n g with
    | false => rfl
    | true => exact (h3 (List.any_eq_true.2 ⟨g, hg, hb⟩)).elim
theorem scR_bad {n e : Int} (h : mtE n l = e) (he : e ≠ 0) : ([] : List Sco) = scR n l := by unfold scR; rw [h, if_neg he]
theorem scR_ok {n : Nat} (h : mtE (n : Int) l = 0) : scL n l = scR (n : Int) l := by unfold scR; rw [if_pos h, Int.toNat_natCast]
theorem pts_bd (x : Int) (h : l.length ≤ 3000) : 0 ≤ tot (ptG x) l ∧ tot (ptG x) l ≤ 9000 := by have := tot_le (pt_le x) l; omega
theorem wns_bd (x : Int) (h : l.length ≤ 3000) : 0 ≤ tot (wnG x) l ∧ tot (wnG x) l ≤ 3000 := by have := tot_le (wn_le x) l; omega
theorem take_snoc {g : Gam} {k : Nat} (h : l[k]? = some g) : l.take (k + 1) = l.take k ++ [g] := by
 obtain ⟨hk, rfl⟩ := List.getElem?_eq_some_iff.1 h
 exact List.take_succ_eq_append_getElem hk
theorem sc_ok {p q r : Int} (hp : 0 ≤ p ∧ p ≤ 64) (hq : 0 ≤ q ∧ q ≤ 9100) (hr : 0 ≤ r ∧ r ≤ 3100) : Sco.ok ⟨p, q, r⟩ := ⟨okI_iff.2 (by dsimp only; omega), okI_iff.2 (by dsimp only; omega), okI_iff.2 (by dsimp only; omega)⟩
def numL (n i : Nat) : List Sco := (List.range n).map λ j => ⟨if j < i then j else 0, 0, 0⟩
theorem numL_len {n i : Nat} : (numL n i).length = n := by simp [numL]
theorem numL_zero {n : Nat} : numL n 0 = List.replicate n (default : Sco) := by
 refine List.ext_getElem (by rw [numL_len, List.length_replicate]) λ j h1 h2 => ?_
 simp [numL]; rfl
theorem numL_end {n : Nat} : numL n n = scL n [] := by
 unfold numL scL scF; refine List.map_congr_left λ j hj => ?_
 rw [if_pos (List.mem_range.1 hj)]; rfl
theorem numL_at {n i : Nat} (h : i < n) : (numL n i)[i]? = some ⟨0, 0, 0⟩ := by unfold numL; rw [List.getElem?_map, List.getElem?_range h]; simp
theorem numL_set {n i : Nat} (h : i < n) : (numL n i).set i ⟨i, 0, 0⟩ = numL n (i + 1) := by
 refine List.ext_getElem? λ j => ?_
 by_cases hj : j < n
 ·by_cases e : i = j
  ·subst e; rw [List.getElem?_set_self (by rw [numL_len]; exact h)]; unfold numL; rw [List.getElem?_map, List.getElem?_range h]; simp
  ·rw [List.getElem?_set_ne e]; unfold numL; rw [List.getElem?_map, List.getElem?_map, List.getElem?_range hj]
   simp only [Option.map_some]; congr 2; split <;> split <;> omega
 ·rw [List.getElem?_set_ne (by omega), List.getElem?_eq_none (by rw [numL_len]; omega), List.getElem?_eq_none (by rw [numL_len]; omega)]
theorem step0 {n k : Nat} {g : Gam} (hg : l[k]? = some g) (hb : badG n g = false) (h0 : g.won = 0) :
  ((scL n (l.take k)).set g.a.toNat ⟨(scF (l.take k) g.a.toNat).player, (scF (l.take k) g.a.toNat).points + 3, (scF (l.take k) g.a.toNat).won⟩).set g.a.toNat ⟨(scF (l.take k) g.a.toNat).player, (scF (l.take k) g.a.toNat).points + 3, (scF (l.take k) g.a.toNat).won + 1⟩ = scL n (l.take (k + 1)) := by
 obtain ⟨h1, h2, h3, h4, h5, h6, h7⟩ := good_iff.1 hb
 rw [List.set_set, take_snoc hg]
 refine sc_set (A := g.a.toNat) (by omega) ?_ ?_ λ i hi => ?_
 ·unfold ptG; rw [if_pos h0, if_pos (by omega)]; rfl
 ·unfold wnG; rw [if_pos h0, if_pos (by omega)]; rfl
 ·unfold ptG wnG; rw [if_pos h0, if_pos h0, if_neg (by omega), if_neg (by omega)]; exact ⟨rfl, rfl⟩
theorem step1 {n k : Nat} {g : Gam} (hg : l[k]? = some g) (hb : badG n g = false) (h0 : g.won = 1) :
  ((scL n (l.take k)).set g.b.toNat ⟨(scF (l.take k) g.b.toNat).player, (scF (l.take k) g.b.toNat).points + 3, (scF (l.take k) g.b.toNat).won⟩).set g.b.toNat ⟨(scF (l.take k) g.b.toNat).player, (scF (l.take k) g.b.toNat).points + 3, (scF (l.take k) g.b.toNat).won + 1⟩ = scL n (l.take (k + 1)) := by
 obtain ⟨h1, h2, h3, h4, h5, h6, h7⟩ := good_iff.1 hb
 rw [List.set_set, take_snoc hg]
 refine sc_set (A := g.b.toNat) (by omega) ?_ ?_ λ i hi => ?_
 ·unfold ptG; rw [if_neg (by omega), if_pos h0, if_pos (by omega)]; rfl
 ·unfold wnG; rw [if_neg (by omega), if_pos h0, if_pos (by omega)]; rfl
 ·unfold ptG wnG; rw [if_neg (by omega), if_pos h0, if_neg (by omega), if_neg (by omega), if_pos h0, if_neg (by omega)]; exact ⟨rfl, rfl⟩
theorem step2 {n k : Nat} {g : Gam} (hg : l[k]? = some g) (hb : badG n g = false) (h0 : g.won ≠ 0) (h0' : g.won ≠ 1) :
  ((scL n (l.take k)).set g.a.toNat ⟨(scF (l.take k) g.a.toNat).player, (scF (l.take k) g.a.toNat).points + 1, (scF (l.take k) g.a.toNat).won⟩).set g.b.toNat ⟨(scF (l.take k) g.b.toNat).player, (scF (l.take k) g.b.toNat).points + 1, (scF (l.take k) g.b.toNat).won⟩ = scL n (l.take (k + 1)) := by
 obtain ⟨h1, h2, h3, h4, h5, h6, h7⟩ := good_iff.1 hb
 rw [take_snoc hg]
 refine sc_set2 (A := g.a.toNat) (B := g.b.toNat) (by omega) (by omega) (by omega) ?_ ?_ ?_ ?_ λ i hi hj => ?_
 ·unfold ptG; rw [if_neg h0, if_neg h0', if_pos (by omega)]; rfl
 ·unfold wnG; rw [if_neg h0, if_neg h0']; exact (Int.add_zero _).symm
 ·unfold ptG; rw [if_neg h0, if_neg h0', if_pos (by omega)]; rfl
 ·unfold wnG; rw [if_neg h0, if_neg h0']; exact (Int.add_zero _).symm
 ·unfold ptG wnG; rw [if_neg h0, if_neg h0', if_neg (by omega), if_neg h0, if_neg h0']; exact ⟨rfl, rfl⟩
def flK (R : List Gam) (k : Nat) : List Gam := (R.take k).map flipG ++ R.drop k
def ptR (n : Int) (l : List Gam) : List Int := (scR n l).map (·.points)
def tbR (n : Int) (l : List Gam) : List Int := (tabS (scR n l)).map (·.player)
theorem scR_nil {n e : Int} (h : e = mtE n l) (he : e ≠ 0) : scR n l = [] := (scR_bad h.symm he).symm
theorem tbR_bad {n e : Int} (h : e = mtE n l) (he : e ≠ 0) : ([] : List Int) = tbR n l := by unfold tbR; rw [scR_nil h he]; unfold tabS; simp
theorem scR_pos {n e : Int} (h : e = mtE n l) (he : e = 0) : 0 < (scR n l).length := by
 subst h
 have h1 := mtE_ok he
 unfold scR; rw [if_pos he, scL_len]; omega
theorem scR_len {n e : Int} (h : e = mtE n l) (he : e = 0) : (scR n l).length = n.toNat := by subst h; unfold scR; rw [if_pos he, scL_len]
theorem map_snoc {α β : Type} (f : α → β) {L : List α} {s : α} {k : Nat} (h : L[k]? = some s) : (L.take (k + 1)).map f = (L.take k).map f ++ [f s] := by
 obtain ⟨hk, rfl⟩ := List.getElem?_eq_some_iff.1 h
 rw [List.take_succ_eq_append_getElem hk, List.map_append]; rfl
end
def seenB (N : Nat) (t : List Int) : List Bool := (List.range N).map λ i : Nat => decide ((i : Int) ∈ t)
theorem seen_len {N : Nat} {t : List Int} : (seenB N t).length = N := by simp [seenB]
theorem seen_zero {N : Nat} : seenB N [] = List.replicate N false := by
 refine List.ext_getElem (by simp [seenB]) λ i h1 h2 => ?_
 simp [seenB]
theorem seen_at {N : Nat} {t : List Int} {x : Int} (h0 : 0 ≤ x) (h1 : x < N) : (seenB N t)[x.toNat]? = some (decide (x ∈ t)) := by
 unfold seenB; rw [List.getElem?_map, List.getElem?_range (by omega)]
 show some (decide (((x.toNat : Nat) : Int) ∈ t)) = _
 rw [Int.toNat_of_nonneg h0]
theorem seen_set {N : Nat} {t : List Int} {x : Int} (h0 : 0 ≤ x) (h1 : x < N) : (seenB N t).set x.toNat true = seenB N (t ++ [x]) := by
 refine List.ext_getElem? λ i => ?_
 by_cases hi : i < N
 ·by_cases e : x.toNat = i
  ·rw [e, List.getElem?_set_self (by rw [seen_len]; exact hi)]
   unfold seenB; rw [List.getElem?_map, List.getElem?_range hi]
   have : ((i : Nat) : Int) = x := by omega
   simp [this]
  ·rw [List.getElem?_set_ne e]; unfold seenB; rw [List.getElem?_map, List.getElem?_map, List.getElem?_range hi]
   have : ((i : Nat) : Int) ≠ x := by omega
   simp [this]
 ·rw [List.getElem?_set_ne (by omega), List.getElem?_eq_none (by rw [seen_len]; omega), List.getElem?_eq_none (by rw [seen_len]; omega)]
def app (n : Nat) (p : Nat × Nat) (l : List Pr) : List Pr := if p.2 < n then l ++ [⟨p.1, p.2⟩] else l
def rndK (n M r : Nat) : Nat → List Pr
 | 0 => []
 | k + 1 => app n (meetP M r k) (rndK n M r k)
theorem app_yes {n a b : Nat} {l : List Pr} {x y : Int} (hx : x = a) (hy : y = b) (h : max x y < n) : l ++ [⟨min x y, max x y⟩] = app n (ord (a, b)) l := by
 subst hx hy
 unfold app ord; dsimp only
 have e1 : (max (a : Int) (b : Int)) = ((max a b : Nat) : Int) := by omega
 have e2 : (min (a : Int) (b : Int)) = ((min a b : Nat) : Int) := by omega
 rw [if_pos (by omega), e1, e2]
theorem app_no {n a b : Nat} {l : List Pr} {x y : Int} (hx : x = a) (hy : y = b) (h : ¬ max x y < n) : l = app n (ord (a, b)) l := by
 subst hx hy
 unfold app ord; dsimp only
 rw [if_neg (by omega)]
theorem app_len {n : Nat} {p : Nat × Nat} {l : List Pr} : (app n p l).length ≤ l.length + 1 := by unfold app; split <;> simp
theorem rnd_len {n M r : Nat} : ∀ k, (rndK n M r k).length ≤ k
 | 0 => Nat.le_refl _
 | k + 1 => by have := rnd_len (n := n) (M := M) (r := r) k; have := app_len (n := n) (p := meetP M r k) (l := rndK n M r k); rw [rndK]; omega
theorem set_same_ {α : Type} {T : List α} {r : Nat} {v : α} (h : T[r]? = some v) : T.set r v = T := by
 obtain ⟨hr, rfl⟩ := List.getElem?_eq_some_iff.1 h; exact List.set_getElem_self _
theorem hcG {w : World} {cs : List Value} {a : Gam} (h : Gam.rep.has w cs a) : cs = a.cells := And.left (show cs = a.cells ∧ a.ok from h)
theorem hcS {w : World} {cs : List Value} {a : Sco} (h : Sco.rep.has w cs a) : cs = a.cells := And.left (show cs = a.cells ∧ a.ok from h)
theorem hcP {w : World} {cs : List Value} {a : Pr} (h : Pr.rep.has w cs a) : cs = a.cells := And.left (show cs = a.cells ∧ a.ok from h)
end Go.Proofs.Ytifffjhhammeiaa.Mt
namespace Go.Proofs.Ytifffjhhammeiaa
end Go.Proofs.Ytifffjhhammeiaa
set_option linter.unusedVariables false
set_option linter.unusedSimpArgs false
namespace Go.Proofs.Ytifffjhhammeiaa
open Go.RowKit

namespace Rep
variable {α : Type} {R : Rep α}
end Rep
section
variable {P : Program} {n : Nat} {E E' : List (Nat × Value)} {a : Act} {w w' w0 w1 : World} {Q : Exit → Act → World → Prop} {ops : Array Oper} {v : Value}
variable {d : Option Nat} {ty : TypeId} {pos : String} {af : Array Edge} {g : Option (Nat × Bool)} {x y z : Operand} {t : TypeId} {rest : List Oper}
def pfx (A : Option Addr) (_hi : Nat) : Option Addr := A
end
theorem Rep.SHas.pre {α : Type} {R : Rep α} {by_ c : Nat} {A : Option Addr} {l : List α} {w : World} (h : R.SHas by_ w A c l) (k : Nat) : R.SHas by_ w (pfx A k) c (l.take k) := h.take_ k
end Go.Proofs.Ytifffjhhammeiaa
namespace Go.Proofs.Ytifffjhhammeiaa
open Go.RowKit
section
variable {P : Program} {n : Nat} {E : List (Nat × Value)} {w : World} {Q : Exit → Act → World → Prop} {ops : Array Oper} {kd : Nat → Nat}
def AQ2 (P : Program) (ops : Array Oper) (Q : Exit → Act → World → Prop) (kd : Nat → Nat) (τ1 τ2 : List Nat) : Exit → Act → World → Prop :=
 nrm (λ a w => wpFlow P ops (nrm (Q .normal)) kd τ1 a w ∧ wpFlow P ops (nrm (Q .normal)) kd τ2 a w)
end
end Go.Proofs.Ytifffjhhammeiaa
namespace Go.Proofs.Ytifffjhhammeiaa
section
open Go.RowKit
theorem made_list (z : Array Value) (n : Nat) : (madeCells z n).toList = (List.range n).map λ i => z[i % z.size]! := by
 unfold madeCells; rw [Array.toList_map, Array.toList_range]
theorem made_flat (z : Array Value) (h0 : 0 < z.size) : ∀ c : Nat, (List.replicate c z.toList).flatten = (madeCells z (c * z.size)).toList
 | 0 => by simp [made_list]
 | c + 1 => by
  rw [List.replicate_succ', List.flatten_append, made_flat z h0 c, made_list, made_list, Nat.succ_mul, List.range_add, List.map_append, List.map_map]
  congr 1
  rw [List.flatten_cons, List.flatten_nil, List.append_nil]
  refine List.ext_getElem (by simp) λ i h1 h2 => ?_
  have h1' : i < z.size := by simpa using h1
  rw [List.getElem_map, List.getElem_range, Array.getElem_toList]
  show z[i] = z[(c * z.size + i) % z.size]!
  rw [Nat.mul_comm, Nat.mul_add_mod, Nat.mod_eq_of_lt h1', getElem!_pos z i h1']
section
variable {P : Program} {n : Nat} {E E' : List (Nat × Value)} {a : Act} {w w' w0 w1 : World} {Q : Exit → Act → World → Prop} {ops : Array Oper}
variable {d : Nat} {ty : TypeId} {pos : String} {af : Array Edge} {g : Option (Nat × Bool)} {x y z : Operand} {t : TypeId} {rest : List Oper}
theorem mK {α : Type} {R : Rep α} {e by_ B c : Nat} {zv : Value} {q : α} (hP : R.Plain) (ht : P.underlying t = some (.slice e)) (hi : (P.info? e).map (λ i => (i.zero, i.size, i.bytes)) = some (some zv, R.size, by_)) (h1 : zv.cells.size = R.size) (h2 : 0 < R.size) (h3 : ∀ (j : Nat) u, zv.cells[j]? = some u → R.raw j u) (hq : ∀ w, R.has w zv.cells.toList q)
  (hx : ev E x = some (.int .i64 (c : Int))) (hy : ev E y = some (.int .i64 (c : Int))) (hd : Nat.blt d n = true) (hb : c * by_ ≤ 140737488355328) (hc : c ≤ 9223372036854775807) (hB : B ≤ w.heap.size)
  (h : ∀ w1 b, Ext w w1 → w.heap.size ≤ b → R.SOwn e by_ w1 B (Rep.blkOf (some ⟨b, 0, none⟩)) (some ⟨b, 0, none⟩) c (List.replicate c q) → WL P n ops Q rest ((d, .slice (some ⟨b, 0, none⟩) c c) :: E) w1) : WL P n ops Q (⟨some d, .makeSlice t x y, ty, pos, af, none⟩ :: rest) E w := by
 refine make_core (m := c) (ess := List.replicate c zv.cells.toList) hP ht hi h1 h2 h3 hx hy hd (Nat.le_refl _) hb hc hB (by simp) (λ w => ?_) ?_ h
 ·clear h hb hc hx hy
  induction c with
  | zero => trivial
  | succ c ih => exact ⟨hq w, ih⟩
 ·rw [made_flat _ (by rw [h1]; exact h2), h1, List.take_of_length_le]
  rw [Array.length_toList, size_madeCells]; exact Nat.le_refl _
end
end
section
open Go.RowKit
open Go.Proofs.Ytifffjhhammeiaa.Mt
theorem scores_bad (n : Int) (l : List Gam) (A : Option Addr) (c : Nat) (w : World) (hl : Gam.rep.SHas 24 w A c l) (hn : n < 1 ∨ 64 < n) :
  Calls Try.prog 41 #[.int .i64 n, .slice A l.length c] w (λ e w' => ∃ e' A' c' L, e = .returned (.tuple #[.slice A' (L : List Sco).length c', .int .i64 e']) ∧ (e' = mtE n l ∧ L = scR n l) ∧ Sco.rep.SOwn 87 24 w' w.heap.size (Rep.blkOf A') A' c' L ∧ Ext w w') := by
 have hkn : (decide (n < 1) || decide (64 < n)) = true := by simpa using hn
 refine calls_W (n := 137) Try.func41 rfl rfl rfl ?_
 refine sg <| va rfl <| va rfl <| nK <| sq <| sg <| vm rfl <| vL (blt rfl rfl) <| vm rfl <| vQ rfl rfl rfl rfl (λ hc => mv rfl) rfl <| vQ rfl rfl rfl rfl (λ hc => bgt (gt hc rfl) rfl) rfl <| vL (pO rfl rfl rfl rfl) <| nK <| cT (evb rfl hkn) <| sg <| va rfl <| va rfl <| nK <| ?_
 refine rt <| tT <| tR (.tmp rfl (.tmp rfl .nil)) <| ?_
 exact ⟨1, none, 0, [], rfl, ⟨(mtE_1 hn).symm, scR_bad (mtE_1 hn) (by decide)⟩, Rep.SOwn.nil _, (Ext.rf w)⟩
theorem scores_nat (N : Nat) (l : List Gam) (A : Option Addr) (c : Nat) (w : World) (hl : Gam.rep.SHas 24 w A c l) (hn : ¬ ((N : Int) < 1 ∨ 64 < (N : Int))) :
  Calls Try.prog 41 #[.int .i64 (N : Int), .slice A l.length c] w (λ e w' => ∃ e' A' c' L, e = .returned (.tuple #[.slice A' (L : List Sco).length c', .int .i64 e']) ∧ (e' = mtE (N : Int) l ∧ L = scR (N : Int) l) ∧ Sco.rep.SOwn 87 24 w' w.heap.size (Rep.blkOf A') A' c' L ∧ Ext w w') := by
 have hkn : (decide ((N : Int) < 1) || decide (64 < (N : Int))) = false := by simpa using hn
 have hN : 1 ≤ N ∧ N ≤ 64 := by omega
 refine calls_W (n := 137) Try.func41 rfl rfl rfl ?_
 refine sg <| va rfl <| va rfl <| nK <| sq <| sg <| vm rfl <| vL (blt rfl rfl) <| vm rfl <| vQ rfl rfl rfl rfl (λ hc => mv rfl) rfl <| vQ rfl rfl rfl rfl (λ hc => bgt (gt hc rfl) rfl) rfl <| vL (pO rfl rfl rfl rfl) <| nK <| cF (evb rfl hkn) <| sK <| sq <| sg <| vm rfl <| ?_
 refine vL (ln Try.underlying33 rfl) <| vL (bgt rfl rfl) <| nK <| ?_
 refine clt rfl (λ h_1 => ?_) (λ h_1 => ?_)
 ·have h3 : 3000 < l.length := by omega
  refine sg <| va rfl <| va rfl <| nK <| rt <| tT <| tR (.tmp rfl (.tmp rfl .nil)) <| ?_
  exact ⟨2, none, 0, [], rfl, ⟨(mtE_2 hn (by omega)).symm, scR_bad (mtE_2 hn (by omega)) (by decide)⟩, Rep.SOwn.nil _, (Ext.rf w)⟩
 ·have hl3 : ¬ 3000 < l.length := by omega
  refine sK <| sg <| vm rfl <| mK (R := Sco.rep) (by_ := 24) (B := w.heap.size) (c := N) (zv := Sco.zero) (q := default) Rep.flat_plain Try.underlying83 Sco.info rfl (by decide) Sco.zero_raw (λ _ => ⟨rfl, by decide, by decide, by decide⟩) rfl rfl rfl (by omega) (by omega) (by omega) λ w_2 b_3 x_4 l_5 O_6 => ?_
  have := x_4.size
  have z_2 := eT (Ext.rf w) x_4
  have u_8 := λ q hq => (O_6.lt q hq).2
  refine va rfl <| nK <| sq <| sg <| vm rfl <| vL (ln Try.underlying83 rfl) <| vm rfl <| nK <| bk <| ?_
  refine lp (λ mI EI wI => ∃ i : Nat, EI = [(0, .int .i64 (N : Int)), (1, .slice A l.length c), (4, .slice none 0 0), (5, .int .i64 0), (6, .slice (some ⟨b_3, 0, none⟩) N N), (22, .int .i64 (N : Int)), (23, .int .i64 (i : Int))] ∧ mI = N - i ∧ Ext w wI ∧ Sco.rep.SOwn 87 24 wI w.heap.size (Rep.blkOf (some ⟨b_3, 0, none⟩)) (some ⟨b_3, 0, none⟩) N (numL N i) ∧ (i ≤ N)) _ _ ⟨0, rfl, rfl, z_2, (by rw [numL_zero]; exact O_6), by omega⟩ (.cons rfl (.cons rfl (.cons rfl (.cons rfl (.cons rfl (.cons rfl (.cons (loI rfl (by first | omega | rfl | (simp <;> omega))) .nil))))))) ?_
  rintro m_11 E_12 w_10 ⟨i, rfl, rfl, z_10, HS0, hi⟩
  have := z_10.size
  have u_14 := λ q hq => (HS0.lt q hq).2
  refine sg <| vL (blt rfl rfl) <| nK <| sq <| ?_
  refine clt rfl (λ h_15 => ?_) (λ h_15 => ?_)
  ·refine sK <| sq <| bk <| sg <| vm rfl <| va rfl <| nK <| rg <| vm rfl <| vm rfl <| vm rfl <| vL (iA i Try.underlying83 eF0 rfl rfl (HS0.has.adr (zl i (by first | omega | (rw [hLk, scL_len]; omega) | (rw [List.length_set, hLk, scL_len]; omega) | (rw [numL_len]; omega)))) rfl (by first | omega | (rw [hLk, scL_len]; omega) | (rw [List.length_set, hLk, scL_len]; omega) | (rw [numL_len]; omega))) <| vL (fa eF1 rfl) <| so (q' := (⟨(i : Int), (⟨0, 0, 0⟩ : Sco).points, (⟨0, 0, 0⟩ : Sco).won⟩ : Sco)) (j := 0) (i := i) HS0 Rep.flat_bare (numL_at (by omega)) rfl rfl rfl rfl (λ _ cs h => by have ok_ := (show _ ∧ _ from h).2; obtain rfl := Mt.hcS h; exact ⟨rfl, (sc_ok (by (try dsimp only); omega) (by (try dsimp only); omega) (by (try dsimp only); omega))⟩) rfl rfl eF2 λ w_16 m_17 O_18 => ?_
   have := m_17.size
   have z_16 := Ext.mod z_10 m_17 (λ q hq => Nat.le_trans (by omega) (HS0.lt q hq).1)
   have := m_17.size
   refine nl <| nB <| nT <| rg <| vL (bad rfl rfl (inI (by omega))) <| vm rfl <| nl <| ?_
   exact nI _ _ ⟨i + 1, rfl, rfl, z_16, (by rw [← numL_set (by omega)]; exact O_18), by omega⟩ (by omega) (.cons rfl (.cons rfl (.cons rfl (.cons rfl (.cons rfl (.cons rfl (.cons (loI rfl (by first | omega | rfl | (simp <;> omega))) .nil)))))))
  ·refine xt <| xT <| xK <| xB <| nT <| sq <| sg <| vm rfl <| vL (ln Try.underlying33 rfl) <| vm rfl <| nK <| bk <| ?_
   have ei : i = N := by omega
   refine lp (λ mI EI wI => ∃ k : Nat, ∃ Lk : List Sco, EI = [(0, .int .i64 (N : Int)), (6, .slice (some ⟨b_3, 0, none⟩) N N), (32, .slice A l.length c), (33, .int .i64 (l.length : Int)), (34, .int .i64 (k : Int))] ∧ mI = l.length - k ∧ Ext w wI ∧ Sco.rep.SOwn 87 24 wI w.heap.size (Rep.blkOf (some ⟨b_3, 0, none⟩)) (some ⟨b_3, 0, none⟩) N (Lk) ∧ (k ≤ l.length) ∧ (Lk = scL N (l.take k)) ∧ (∀ x ∈ l.take k, badG (N : Int) x = false)) _ _ ⟨0, numL N i, rfl, rfl, z_10, HS0, by omega, by rw [ei, numL_end, List.take_zero], λ x hx => by rw [List.take_zero] at hx; cases hx⟩ (.cons rfl (.cons rfl (.cons rfl (.cons rfl (.cons (loI rfl (by first | omega | rfl | (simp <;> omega))) .nil))))) ?_
   rintro m_22 E_23 w_21 ⟨k, Lk, rfl, rfl, z_21, HS1, hk, hLk, hgo⟩
   have := z_21.size
   have u_25 := λ q hq => (HS1.lt q hq).2
   have hLl : Lk.length = N := by rw [hLk, scL_len]
   refine sg <| vL (blt rfl rfl) <| nK <| sq <| ?_
   refine clt rfl (λ h_26 => ?_) (λ h_26 => ?_)
   ·obtain ⟨g, hg⟩ : ∃ g, l[k]? = some g := ⟨_, List.getElem?_eq_getElem (by omega)⟩
    have hgm : g ∈ l := List.mem_of_getElem? hg
    refine sK <| sq <| bk <| sg <| vL (iA k Try.underlying33 eF3 rfl rfl ((hl.keep z_21).adr (zl k (by omega))) rfl (by omega)) <| vL (ld rfl (Rep.SHas.elt Mt.hcG ((hl.keep z_21).adh (zl k (by omega))) hg eF4 eF3)) <| al rfl eF5 rfl rfl λ w_27 b_28 x_29 l_30 B_31 => ?_
    have := x_29.size
    have z_27 := eT z_21 x_29
    have q_33 := B_31.lt
    refine st (new := [.int .i64 g.a, .int .i64 g.b, .int .i64 g.won]) rfl rfl B_31 rfl eF3 rfl rfl rfl λ w_34 m_35 B_31 => ?_
    have := m_35.size
    have z_34 := Ext.mod z_27 m_35 (ge1 (by omega))
    have := m_35.size
    refine nK <| sq <| sg <| vL (fa eF6 rfl) <| vL (ld rfl (B_31.one eF7 rfl)) <| vL (blt rfl rfl) <| vm rfl <| vQ rfl rfl rfl rfl (λ hc => fa eF6 rfl) rfl <| vQ rfl rfl rfl rfl (λ hc => ld (gt hc rfl) (B_31.one eF7 rfl)) rfl <| vQ rfl rfl rfl rfl (λ hc => mv rfl) rfl <| vQ rfl rfl rfl rfl (λ hc => bge (gt hc rfl) (gt hc rfl)) rfl <| vL (pO rfl rfl rfl rfl) <| vm rfl <| vQ rfl rfl rfl rfl (λ hc => fa eF8 rfl) rfl <| vQ rfl rfl rfl rfl (λ hc => ld (gt hc rfl) (B_31.one eF7 rfl)) rfl <| vQ rfl rfl rfl rfl (λ hc => blt (gt hc rfl) rfl) rfl <| vL (pO rfl rfl rfl rfl) <| vm rfl <| vQ rfl rfl rfl rfl (λ hc => fa eF8 rfl) rfl <| vQ rfl rfl rfl rfl (λ hc => ld (gt hc rfl) (B_31.one eF7 rfl)) rfl <| vQ rfl rfl rfl rfl (λ hc => mv rfl) rfl <| vQ rfl rfl rfl rfl (λ hc => bge (gt hc rfl) (gt hc rfl)) rfl <| ?_
    refine vL (pO rfl rfl rfl rfl) <| vm rfl <| vQ rfl rfl rfl rfl (λ hc => fa eF6 rfl) rfl <| vQ rfl rfl rfl rfl (λ hc => ld (gt hc rfl) (B_31.one eF7 rfl)) rfl <| vQ rfl rfl rfl rfl (λ hc => fa eF8 rfl) rfl <| vQ rfl rfl rfl rfl (λ hc => ld (gt hc rfl) (B_31.one eF7 rfl)) rfl <| vQ rfl rfl rfl rfl (λ hc => beq (gt hc rfl) (gt hc rfl)) rfl <| vL (pO rfl rfl rfl rfl) <| vm rfl <| vQ rfl rfl rfl rfl (λ hc => fa eF9 rfl) rfl <| vQ rfl rfl rfl rfl (λ hc => ld (gt hc rfl) (B_31.one eF7 rfl)) rfl <| vQ rfl rfl rfl rfl (λ hc => blt (gt hc rfl) rfl) rfl <| vL (pO rfl rfl rfl rfl) <| vm rfl <| vQ rfl rfl rfl rfl (λ hc => fa eF9 rfl) rfl <| vQ rfl rfl rfl rfl (λ hc => ld (gt hc rfl) (B_31.one eF7 rfl)) rfl <| vQ rfl rfl rfl rfl (λ hc => bgt (gt hc rfl) rfl) rfl <| vL (pO rfl rfl rfl rfl) <| nK <| ?_
    refine cb rfl (λ h_38 => ?_) (λ h_38 => ?_)
    ·simp only [bS] at h_38
     refine sg <| va rfl <| va rfl <| nK <| rt <| tT <| tB <| tT <| tK <| tB <| tT <| tR (.tmp rfl (.tmp rfl .nil)) <| ?_
     exact ⟨4, none, 0, [], rfl, ⟨(mtE_4 hn hl3 ⟨g, hgm, by unfold badG; rw [decide_eq_true_eq]; have h_ := h_38; omega⟩).symm, scR_bad (mtE_4 hn hl3 ⟨g, hgm, by unfold badG; rw [decide_eq_true_eq]; have h_ := h_38; omega⟩) (by decide)⟩, Rep.SOwn.nil _, z_34⟩
    ·simp only [bS] at h_38
     have hbg : badG (N : Int) g = false := by unfold badG; rw [decide_eq_false_iff_not]; have h_ := h_38; omega
     obtain ⟨g1, g2, g3, g4, g5, g6, g7⟩ := good_iff.1 hbg
     have hp1 := λ x => pts_bd (l := l.take k) x (by rw [List.length_take]; omega)
     have hwn := λ x => wns_bd (l := l.take k) x (by rw [List.length_take]; omega)
     refine sK <| sg <| vL (fa eF9 rfl) <| vL (ld rfl (B_31.one eF7 rfl)) <| nK <| bk <| sg <| vL (beq rfl rfl) <| va rfl <| nK <| ?_
     refine ceq rfl (λ h_39 => ?_) (λ h_39 => ?_)
     ·have hw0 : g.won = 0 := by first | exact h_39 | simpa using h_39
      refine sg <| vm rfl <| vL (fa eF6 rfl) <| vL (ld rfl (B_31.one eF7 rfl)) <| ?_
      have HS1 := HS1.later x_29
      have HS1 := HS1.mod m_35 (fk1 u_25 (by omega))
      refine vL (iA g.a.toNat Try.underlying83 eF0 rfl rfl (HS1.has.adr (zl g.a.toNat (by first | omega | (rw [hLk, scL_len]; omega) | (rw [List.length_set, hLk, scL_len]; omega) | (rw [numL_len]; omega)))) (by omega) (by first | omega | (rw [hLk, scL_len]; omega) | (rw [List.length_set, hLk, scL_len]; omega) | (rw [numL_len]; omega))) <| vL (fa eF10 rfl) <| vL (ld rfl (Rep.SHas.fld Mt.hcS (HS1.has.adh (zl g.a.toNat (by first | omega | (rw [hLk, scL_len]; omega) | (rw [List.length_set, hLk, scL_len]; omega) | (rw [numL_len]; omega)))) 1 (by rw [hLk]; exact scL_at (by omega)) rfl eF7)) <| vL (bad rfl rfl (inI (by dsimp only [scF]; have h1_ := hp1 (g.a.toNat : Nat); have h2_ := hwn (g.a.toNat : Nat); omega))) <| vL (iA g.a.toNat Try.underlying83 eF0 rfl rfl (HS1.has.adr (zl g.a.toNat (by first | omega | (rw [hLk, scL_len]; omega) | (rw [List.length_set, hLk, scL_len]; omega) | (rw [numL_len]; omega)))) (by omega) (by first | omega | (rw [hLk, scL_len]; omega) | (rw [List.length_set, hLk, scL_len]; omega) | (rw [numL_len]; omega))) <| vL (fa eF10 rfl) <| so (q' := (⟨(scF (l.take k) (g.a.toNat)).player, ((scF (l.take k) (g.a.toNat)).points) + 3, (scF (l.take k) (g.a.toNat)).won⟩ : Sco)) (j := 1) (i := g.a.toNat) HS1 Rep.flat_bare (by rw [hLk]; exact scL_at (by omega)) rfl rfl rfl rfl (λ _ cs h => by have ok_ := (show _ ∧ _ from h).2; obtain rfl := Mt.hcS h; exact ⟨rfl, (sc_ok (by show 0 ≤ ((g.a.toNat : Nat) : Int) ∧ ((g.a.toNat : Nat) : Int) ≤ 64; omega) (by have h_ := hp1 (g.a.toNat : Nat); (try dsimp only [scF]); omega) (by have h_ := hwn (g.a.toNat : Nat); (try dsimp only [scF]); omega))⟩) rfl rfl eF2 λ w_40 m_41 O_42 => ?_
      have := m_41.size
      have z_40 := Ext.mod z_34 m_41 (λ q hq => Nat.le_trans (by omega) (HS1.lt q hq).1)
      have := m_41.size
      refine nK <| rg <| vm rfl <| vL (fa eF6 rfl) <| ?_
      have d_45 : ∀ q ∈ Rep.blkOf (some ⟨b_3, 0, none⟩), q = b_28 → False := λ q hq hb => by (have := u_25 q hq; omega)
      have B_31 := B_31.mod m_41 (λ hq => d_45 _ hq rfl)
      refine vL (ld rfl (B_31.one eF7 rfl)) <| vL (iA g.a.toNat Try.underlying83 eF0 rfl rfl (O_42.has.adr (zl g.a.toNat (by first | omega | (rw [hLk, scL_len]; omega) | (rw [List.length_set, hLk, scL_len]; omega) | (rw [numL_len]; omega)))) (by omega) (by first | omega | (rw [hLk, scL_len]; omega) | (rw [List.length_set, hLk, scL_len]; omega) | (rw [numL_len]; omega))) <| vL (fa eF11 rfl) <| vL (ld rfl (Rep.SHas.fld Mt.hcS (O_42.has.adh (zl g.a.toNat (by first | omega | (rw [hLk, scL_len]; omega) | (rw [List.length_set, hLk, scL_len]; omega) | (rw [numL_len]; omega)))) 2 (List.getElem?_set_self (by rw [hLk, scL_len]; omega)) rfl eF7)) <| vL (bad rfl rfl (inI (by dsimp only [scF]; have h1_ := hp1 (g.a.toNat : Nat); have h2_ := hwn (g.a.toNat : Nat); omega))) <| vL (iA g.a.toNat Try.underlying83 eF0 rfl rfl (O_42.has.adr (zl g.a.toNat (by first | omega | (rw [hLk, scL_len]; omega) | (rw [List.length_set, hLk, scL_len]; omega) | (rw [numL_len]; omega)))) (by omega) (by first | omega | (rw [hLk, scL_len]; omega) | (rw [List.length_set, hLk, scL_len]; omega) | (rw [numL_len]; omega))) <| vL (fa eF11 rfl) <| so (q' := (⟨(((⟨(scF (l.take k) (g.a.toNat)).player, ((scF (l.take k) (g.a.toNat)).points) + 3, (scF (l.take k) (g.a.toNat)).won⟩ : Sco))).player, (((⟨(scF (l.take k) (g.a.toNat)).player, ((scF (l.take k) (g.a.toNat)).points) + 3, (scF (l.take k) (g.a.toNat)).won⟩ : Sco))).points, ((((⟨(scF (l.take k) (g.a.toNat)).player, ((scF (l.take k) (g.a.toNat)).points) + 3, (scF (l.take k) (g.a.toNat)).won⟩ : Sco))).won) + 1⟩ : Sco)) (j := 2) (i := g.a.toNat) O_42 Rep.flat_bare (List.getElem?_set_self (by rw [hLk, scL_len]; omega)) rfl rfl rfl rfl (λ _ cs h => by have ok_ := (show _ ∧ _ from h).2; obtain rfl := Mt.hcS h; exact ⟨rfl, (sc_ok (by show 0 ≤ ((g.a.toNat : Nat) : Int) ∧ ((g.a.toNat : Nat) : Int) ≤ 64; omega) (by have h_ := hp1 (g.a.toNat : Nat); (try dsimp only [scF]); omega) (by have h_ := hwn (g.a.toNat : Nat); (try dsimp only [scF]); omega))⟩) rfl rfl eF2 λ w_46 m_47 O_48 => ?_
      have := m_47.size
      have z_46 := Ext.mod z_40 m_47 (λ q hq => Nat.le_trans (by omega) (O_42.lt q hq).1)
      have := m_47.size
      refine nl <| nB <| nB <| nT <| rg <| vL (bad rfl rfl (inI (by omega))) <| vm rfl <| nl <| ?_
      exact nI _ _ ⟨k + 1, ((Lk).set g.a.toNat ((⟨(scF (l.take k) (g.a.toNat)).player, ((scF (l.take k) (g.a.toNat)).points) + 3, (scF (l.take k) (g.a.toNat)).won⟩ : Sco))).set g.a.toNat ((⟨(((⟨(scF (l.take k) (g.a.toNat)).player, ((scF (l.take k) (g.a.toNat)).points) + 3, (scF (l.take k) (g.a.toNat)).won⟩ : Sco))).player, (((⟨(scF (l.take k) (g.a.toNat)).player, ((scF (l.take k) (g.a.toNat)).points) + 3, (scF (l.take k) (g.a.toNat)).won⟩ : Sco))).points, ((((⟨(scF (l.take k) (g.a.toNat)).player, ((scF (l.take k) (g.a.toNat)).points) + 3, (scF (l.take k) (g.a.toNat)).won⟩ : Sco))).won) + 1⟩ : Sco)), rfl, rfl, z_46, O_48, by omega, by rw [hLk]; exact step0 hg hbg hw0, λ x hx => by rw [take_snoc hg] at hx; rcases List.mem_append.1 hx with h_ | h_; exact hgo x h_; rw [List.mem_singleton.1 h_]; exact hbg⟩ (by omega) (.cons rfl (.cons rfl (.cons rfl (.cons rfl (.cons (loI rfl (by first | omega | rfl | (simp <;> omega))) .nil)))))
     ·have hw0 : g.won ≠ 0 := by first | exact h_39 | simpa using h_39
      refine sg <| vL (beq rfl rfl) <| va rfl <| nK <| ?_
      refine ceq rfl (λ h_51 => ?_) (λ h_51 => ?_)
      ·have hw1 : g.won = 1 := by first | exact h_51 | simpa using h_51
       refine sg <| vm rfl <| vL (fa eF8 rfl) <| vL (ld rfl (B_31.one eF7 rfl)) <| ?_
       have HS1 := HS1.later x_29
       have HS1 := HS1.mod m_35 (fk1 u_25 (by omega))
       refine vL (iA g.b.toNat Try.underlying83 eF0 rfl rfl (HS1.has.adr (zl g.b.toNat (by first | omega | (rw [hLk, scL_len]; omega) | (rw [List.length_set, hLk, scL_len]; omega) | (rw [numL_len]; omega)))) (by omega) (by first | omega | (rw [hLk, scL_len]; omega) | (rw [List.length_set, hLk, scL_len]; omega) | (rw [numL_len]; omega))) <| vL (fa eF10 rfl) <| vL (ld rfl (Rep.SHas.fld Mt.hcS (HS1.has.adh (zl g.b.toNat (by first | omega | (rw [hLk, scL_len]; omega) | (rw [List.length_set, hLk, scL_len]; omega) | (rw [numL_len]; omega)))) 1 (by rw [hLk]; exact scL_at (by omega)) rfl eF7)) <| vL (bad rfl rfl (inI (by dsimp only [scF]; have h1_ := hp1 (g.b.toNat : Nat); have h2_ := hwn (g.b.toNat : Nat); omega))) <| vL (iA g.b.toNat Try.underlying83 eF0 rfl rfl (HS1.has.adr (zl g.b.toNat (by first | omega | (rw [hLk, scL_len]; omega) | (rw [List.length_set, hLk, scL_len]; omega) | (rw [numL_len]; omega)))) (by omega) (by first | omega | (rw [hLk, scL_len]; omega) | (rw [List.length_set, hLk, scL_len]; omega) | (rw [numL_len]; omega))) <| vL (fa eF10 rfl) <| so (q' := (⟨(scF (l.take k) (g.b.toNat)).player, ((scF (l.take k) (g.b.toNat)).points) + 3, (scF (l.take k) (g.b.toNat)).won⟩ : Sco)) (j := 1) (i := g.b.toNat) HS1 Rep.flat_bare (by rw [hLk]; exact scL_at (by omega)) rfl rfl rfl rfl (λ _ cs h => by have ok_ := (show _ ∧ _ from h).2; obtain rfl := Mt.hcS h; exact ⟨rfl, (sc_ok (by show 0 ≤ ((g.b.toNat : Nat) : Int) ∧ ((g.b.toNat : Nat) : Int) ≤ 64; omega) (by have h_ := hp1 (g.b.toNat : Nat); (try dsimp only [scF]); omega) (by have h_ := hwn (g.b.toNat : Nat); (try dsimp only [scF]); omega))⟩) rfl rfl eF2 λ w_52 m_53 O_54 => ?_
       have := m_53.size
       have z_52 := Ext.mod z_34 m_53 (λ q hq => Nat.le_trans (by omega) (HS1.lt q hq).1)
       have := m_53.size
       refine nK <| rg <| vm rfl <| vL (fa eF8 rfl) <| ?_
       have d_57 : ∀ q ∈ Rep.blkOf (some ⟨b_3, 0, none⟩), q = b_28 → False := λ q hq hb => by (have := u_25 q hq; omega)
       have B_31 := B_31.mod m_53 (λ hq => d_57 _ hq rfl)
       refine vL (ld rfl (B_31.one eF7 rfl)) <| vL (iA g.b.toNat Try.underlying83 eF0 rfl rfl (O_54.has.adr (zl g.b.toNat (by first | omega | (rw [hLk, scL_len]; omega) | (rw [List.length_set, hLk, scL_len]; omega) | (rw [numL_len]; omega)))) (by omega) (by first | omega | (rw [hLk, scL_len]; omega) | (rw [List.length_set, hLk, scL_len]; omega) | (rw [numL_len]; omega))) <| vL (fa eF11 rfl) <| vL (ld rfl (Rep.SHas.fld Mt.hcS (O_54.has.adh (zl g.b.toNat (by first | omega | (rw [hLk, scL_len]; omega) | (rw [List.length_set, hLk, scL_len]; omega) | (rw [numL_len]; omega)))) 2 (List.getElem?_set_self (by rw [hLk, scL_len]; omega)) rfl eF7)) <| vL (bad rfl rfl (inI (by dsimp only [scF]; have h1_ := hp1 (g.b.toNat : Nat); have h2_ := hwn (g.b.toNat : Nat); omega))) <| vL (iA g.b.toNat Try.underlying83 eF0 rfl rfl (O_54.has.adr (zl g.b.toNat (by first | omega | (rw [hLk, scL_len]; omega) | (rw [List.length_set, hLk, scL_len]; omega) | (rw [numL_len]; omega)))) (by omega) (by first | omega | (rw [hLk, scL_len]; omega) | (rw [List.length_set, hLk, scL_len]; omega) | (rw [numL_len]; omega))) <| vL (fa eF11 rfl) <| so (q' := (⟨(((⟨(scF (l.take k) (g.b.toNat)).player, ((scF (l.take k) (g.b.toNat)).points) + 3, (scF (l.take k) (g.b.toNat)).won⟩ : Sco))).player, (((⟨(scF (l.take k) (g.b.toNat)).player, ((scF (l.take k) (g.b.toNat)).points) + 3, (scF (l.take k) (g.b.toNat)).won⟩ : Sco))).points, ((((⟨(scF (l.take k) (g.b.toNat)).player, ((scF (l.take k) (g.b.toNat)).points) + 3, (scF (l.take k) (g.b.toNat)).won⟩ : Sco))).won) + 1⟩ : Sco)) (j := 2) (i := g.b.toNat) O_54 Rep.flat_bare (List.getElem?_set_self (by rw [hLk, scL_len]; omega)) rfl rfl rfl rfl (λ _ cs h => by have ok_ := (show _ ∧ _ from h).2; obtain rfl := Mt.hcS h; exact ⟨rfl, (sc_ok (by show 0 ≤ ((g.b.toNat : Nat) : Int) ∧ ((g.b.toNat : Nat) : Int) ≤ 64; omega) (by have h_ := hp1 (g.b.toNat : Nat); (try dsimp only [scF]); omega) (by have h_ := hwn (g.b.toNat : Nat); (try dsimp only [scF]); omega))⟩) rfl rfl eF2 λ w_58 m_59 O_60 => ?_
       have := m_59.size
       have z_58 := Ext.mod z_52 m_59 (λ q hq => Nat.le_trans (by omega) (O_54.lt q hq).1)
       have := m_59.size
       refine nl <| nB <| nB <| nT <| rg <| vL (bad rfl rfl (inI (by omega))) <| vm rfl <| nl <| ?_
       exact nI _ _ ⟨k + 1, ((Lk).set g.b.toNat ((⟨(scF (l.take k) (g.b.toNat)).player, ((scF (l.take k) (g.b.toNat)).points) + 3, (scF (l.take k) (g.b.toNat)).won⟩ : Sco))).set g.b.toNat ((⟨(((⟨(scF (l.take k) (g.b.toNat)).player, ((scF (l.take k) (g.b.toNat)).points) + 3, (scF (l.take k) (g.b.toNat)).won⟩ : Sco))).player, (((⟨(scF (l.take k) (g.b.toNat)).player, ((scF (l.take k) (g.b.toNat)).points) + 3, (scF (l.take k) (g.b.toNat)).won⟩ : Sco))).points, ((((⟨(scF (l.take k) (g.b.toNat)).player, ((scF (l.take k) (g.b.toNat)).points) + 3, (scF (l.take k) (g.b.toNat)).won⟩ : Sco))).won) + 1⟩ : Sco)), rfl, rfl, z_58, O_60, by omega, by rw [hLk]; exact step1 hg hbg hw1, λ x hx => by rw [take_snoc hg] at hx; rcases List.mem_append.1 hx with h_ | h_; exact hgo x h_; rw [List.mem_singleton.1 h_]; exact hbg⟩ (by omega) (.cons rfl (.cons rfl (.cons rfl (.cons rfl (.cons (loI rfl (by first | omega | rfl | (simp <;> omega))) .nil)))))
      ·have hw1 : g.won ≠ 1 := by first | exact h_51 | simpa using h_51
       refine sg <| vm rfl <| vL (fa eF6 rfl) <| vL (ld rfl (B_31.one eF7 rfl)) <| ?_
       have HS1 := HS1.later x_29
       have HS1 := HS1.mod m_35 (fk1 u_25 (by omega))
       refine vL (iA g.a.toNat Try.underlying83 eF0 rfl rfl (HS1.has.adr (zl g.a.toNat (by first | omega | (rw [hLk, scL_len]; omega) | (rw [List.length_set, hLk, scL_len]; omega) | (rw [numL_len]; omega)))) (by omega) (by first | omega | (rw [hLk, scL_len]; omega) | (rw [List.length_set, hLk, scL_len]; omega) | (rw [numL_len]; omega))) <| vL (fa eF10 rfl) <| vL (ld rfl (Rep.SHas.fld Mt.hcS (HS1.has.adh (zl g.a.toNat (by first | omega | (rw [hLk, scL_len]; omega) | (rw [List.length_set, hLk, scL_len]; omega) | (rw [numL_len]; omega)))) 1 (by rw [hLk]; exact scL_at (by omega)) rfl eF7)) <| vL (bad rfl rfl (inI (by dsimp only [scF]; have h1_ := hp1 (g.a.toNat : Nat); have h2_ := hwn (g.a.toNat : Nat); omega))) <| vL (iA g.a.toNat Try.underlying83 eF0 rfl rfl (HS1.has.adr (zl g.a.toNat (by first | omega | (rw [hLk, scL_len]; omega) | (rw [List.length_set, hLk, scL_len]; omega) | (rw [numL_len]; omega)))) (by omega) (by first | omega | (rw [hLk, scL_len]; omega) | (rw [List.length_set, hLk, scL_len]; omega) | (rw [numL_len]; omega))) <| vL (fa eF10 rfl) <| so (q' := (⟨(scF (l.take k) (g.a.toNat)).player, ((scF (l.take k) (g.a.toNat)).points) + 1, (scF (l.take k) (g.a.toNat)).won⟩ : Sco)) (j := 1) (i := g.a.toNat) HS1 Rep.flat_bare (by rw [hLk]; exact scL_at (by omega)) rfl rfl rfl rfl (λ _ cs h => by have ok_ := (show _ ∧ _ from h).2; obtain rfl := Mt.hcS h; exact ⟨rfl, (sc_ok (by show 0 ≤ ((g.a.toNat : Nat) : Int) ∧ ((g.a.toNat : Nat) : Int) ≤ 64; omega) (by have h_ := hp1 (g.a.toNat : Nat); (try dsimp only [scF]); omega) (by have h_ := hwn (g.a.toNat : Nat); (try dsimp only [scF]); omega))⟩) rfl rfl eF2 λ w_63 m_64 O_65 => ?_
       have := m_64.size
       have z_63 := Ext.mod z_34 m_64 (λ q hq => Nat.le_trans (by omega) (HS1.lt q hq).1)
       have := m_64.size
       refine nK <| rg <| vm rfl <| vL (fa eF8 rfl) <| ?_
       have d_68 : ∀ q ∈ Rep.blkOf (some ⟨b_3, 0, none⟩), q = b_28 → False := λ q hq hb => by (have := u_25 q hq; omega)
       have B_31 := B_31.mod m_64 (λ hq => d_68 _ hq rfl)
       refine vL (ld rfl (B_31.one eF7 rfl)) <| vL (iA g.b.toNat Try.underlying83 eF0 rfl rfl (O_65.has.adr (zl g.b.toNat (by first | omega | (rw [hLk, scL_len]; omega) | (rw [List.length_set, hLk, scL_len]; omega) | (rw [numL_len]; omega)))) (by omega) (by first | omega | (rw [hLk, scL_len]; omega) | (rw [List.length_set, hLk, scL_len]; omega) | (rw [numL_len]; omega))) <| vL (fa eF10 rfl) <| vL (ld rfl (Rep.SHas.fld Mt.hcS (O_65.has.adh (zl g.b.toNat (by first | omega | (rw [hLk, scL_len]; omega) | (rw [List.length_set, hLk, scL_len]; omega) | (rw [numL_len]; omega)))) 1 (by rw [List.getElem?_set_ne (by omega), hLk]; exact scL_at (by omega)) rfl eF7)) <| vL (bad rfl rfl (inI (by dsimp only [scF]; have h1_ := hp1 (g.b.toNat : Nat); have h2_ := hwn (g.b.toNat : Nat); omega))) <| vL (iA g.b.toNat Try.underlying83 eF0 rfl rfl (O_65.has.adr (zl g.b.toNat (by first | omega | (rw [hLk, scL_len]; omega) | (rw [List.length_set, hLk, scL_len]; omega) | (rw [numL_len]; omega)))) (by omega) (by first | omega | (rw [hLk, scL_len]; omega) | (rw [List.length_set, hLk, scL_len]; omega) | (rw [numL_len]; omega))) <| vL (fa eF10 rfl) <| so (q' := (⟨(scF (l.take k) (g.b.toNat)).player, ((scF (l.take k) (g.b.toNat)).points) + 1, (scF (l.take k) (g.b.toNat)).won⟩ : Sco)) (j := 1) (i := g.b.toNat) O_65 Rep.flat_bare (by rw [List.getElem?_set_ne (by omega), hLk]; exact scL_at (by omega)) rfl rfl rfl rfl (λ _ cs h => by have ok_ := (show _ ∧ _ from h).2; obtain rfl := Mt.hcS h; exact ⟨rfl, (sc_ok (by show 0 ≤ ((g.b.toNat : Nat) : Int) ∧ ((g.b.toNat : Nat) : Int) ≤ 64; omega) (by have h_ := hp1 (g.b.toNat : Nat); (try dsimp only [scF]); omega) (by have h_ := hwn (g.b.toNat : Nat); (try dsimp only [scF]); omega))⟩) rfl rfl eF2 λ w_69 m_70 O_71 => ?_
       have := m_70.size
       have z_69 := Ext.mod z_63 m_70 (λ q hq => Nat.le_trans (by omega) (O_65.lt q hq).1)
       have := m_70.size
       refine nl <| nB <| nB <| nT <| rg <| vL (bad rfl rfl (inI (by omega))) <| vm rfl <| nl <| ?_
       exact nI _ _ ⟨k + 1, ((Lk).set g.a.toNat ((⟨(scF (l.take k) (g.a.toNat)).player, ((scF (l.take k) (g.a.toNat)).points) + 1, (scF (l.take k) (g.a.toNat)).won⟩ : Sco))).set g.b.toNat ((⟨(scF (l.take k) (g.b.toNat)).player, ((scF (l.take k) (g.b.toNat)).points) + 1, (scF (l.take k) (g.b.toNat)).won⟩ : Sco)), rfl, rfl, z_69, O_71, by omega, by rw [hLk]; exact step2 hg hbg hw0 hw1, λ x hx => by rw [take_snoc hg] at hx; rcases List.mem_append.1 hx with h_ | h_; exact hgo x h_; rw [List.mem_singleton.1 h_]; exact hbg⟩ (by omega) (.cons rfl (.cons rfl (.cons rfl (.cons rfl (.cons (loI rfl (by first | omega | rfl | (simp <;> omega))) .nil)))))
   ·have ek : k = l.length := by omega
    rw [ek, List.take_length] at hLk hgo
    have hLl : Lk.length = N := by rw [hLk, scL_len]
    refine xt <| xT <| xK <| xB <| nT <| sg <| vm rfl <| va rfl <| va rfl <| nK <| rt <| tR (.tmp rfl (.tmp rfl .nil)) <| ?_
    have h0 : mtE (N : Int) l = 0 := mtE_0 hn hl3 hgo
    exact ⟨0, some ⟨b_3, 0, none⟩, N, Lk, by rw [hLl]; rfl, ⟨h0.symm, by rw [hLk]; exact scR_ok h0⟩, HS1, z_21⟩
theorem scores_any (n : Int) (l : List Gam) (A : Option Addr) (c : Nat) (w : World) (hl : Gam.rep.SHas 24 w A c l) :
  Calls Try.prog 41 #[.int .i64 n, .slice A l.length c] w (λ e w' => ∃ e' A' c' L, e = .returned (.tuple #[.slice A' (L : List Sco).length c', .int .i64 e']) ∧ (e' = mtE n l ∧ L = scR n l) ∧ Sco.rep.SOwn 87 24 w' w.heap.size (Rep.blkOf A') A' c' L ∧ Ext w w') := by
 by_cases h : n < 1 ∨ 64 < n
 ·exact scores_bad n l A c w hl h
 ·obtain ⟨N, rfl⟩ : ∃ N : Nat, n = N := ⟨n.toNat, by omega⟩
  exact scores_nat N l A c w hl h
end
section
open Go.RowKit Go.Sort
section
variable {α : Type} {size : Nat} {cells : α → List Value} {ok : α → Prop} {raw : Nat → Value → Prop} {hl : ∀ a, (cells a).length = size} {h1 : ∀ a, ∀ u ∈ cells a, u.oneCell' = true} {hr : ∀ a (j : Nat) u, (cells a)[j]? = some u → raw j u}
theorem flat_at (hl : ∀ a, (cells a).length = size) (h0 : 0 < size) : ∀ (ts : List α) (i : Nat), (ts.map cells).flatten[i]? = (ts[i / size]?).bind λ a => (cells a)[i % size]?
 | [], i => by simp
 | a :: ts, i => by
  rw [List.map_cons, List.flatten_cons]
  by_cases hi : i < size
  ·rw [List.getElem?_append_left (by rw [hl]; exact hi), Nat.div_eq_of_lt hi, Nat.mod_eq_of_lt hi]; rfl
  ·rw [List.getElem?_append_right (by rw [hl]; omega), hl, flat_at hl h0 ts (i - size)]
   have e1 : i / size = (i - size) / size + 1 := by rw [Nat.div_eq_sub_div h0 (by omega)]
   have e2 : i % size = (i - size) % size := by rw [Nat.mod_eq_sub_mod (by omega)]
   rw [e1, e2, List.getElem?_cons_succ]
theorem flatK_list [Inhabited α] (hl : ∀ a, (cells a).length = size) (h0 : 0 < size) (ts : List α) : (flatK cells size ts.toArray).toList = (ts.map cells).flatten := by
 refine List.ext_getElem? λ i => ?_
 rw [flat_at hl h0, Array.getElem?_toList]
 by_cases hi : i < ts.length * size
 ·have hd : i / size < ts.length := (Nat.div_lt_iff_lt_mul h0).2 hi
  have hm : i % size < size := Nat.mod_lt _ h0
  have e : (flatK cells size ts.toArray)[i]? = some ((flatK cells size ts.toArray)[i]!) := by
   rw [Array.getElem?_eq_getElem (by simpa using hi), getElem!_pos _ i (by simpa using hi)]
  rw [e, get_flatK _ _ _ i (by simpa using hi), List.getElem?_eq_getElem hd, Option.bind_some, List.getElem?_eq_getElem (by rw [hl]; exact hm)]
  have e2 : (ts.toArray)[i / size]! = ts[i / size] := by rw [getElem!_pos _ _ (by simpa using hd)]; rfl
  rw [e2, getElem!_pos _ _ (by rw [hl]; exact hm)]
 ·rw [Array.getElem?_eq_none (by simpa using hi)]
  have : ts.length ≤ i / size := by rcases Nat.lt_or_ge (i / size) ts.length with h | h; exact absurd ((Nat.div_lt_iff_lt_mul h0).1 h) hi; exact h
  rw [List.getElem?_eq_none this]; rfl
theorem heap_put {w : World} {g n : Nat} {os : Array Obj} {cur : Array Value} {e : TypeId} {fr : Nat × Nat} (F : Array Value) (hb : w.heap[g]? = some (.cells cur e fr)) :
  (grow (putRow id (Sort.ahead w n) g 0 F) os).heap[g]? = some (.cells (putCells id 0 F cur) e fr) := by
 have hg : g < w.heap.size := (Array.getElem?_eq_some_iff.1 hb).1
 rw [heap_grow_old _ _ (by simpa using hg)]
 simp [putRow, mapBlock, Sort.ahead, Array.getElem?_modify, hb, onCells]
theorem grown_put {w : World} {g n : Nat} {os : Array Obj} (F : Array Value) : w.grownBy (grow (putRow id (Sort.ahead w n) g 0 F) os) (some g) := by
 refine ⟨rfl, rfl, rfl, by simp, λ k hk hne => ?_⟩
 rw [heap_grow_old _ _ (by simpa using hk)]
 have : g ≠ k := λ e => hne (by rw [e])
 simp [putRow, mapBlock, Sort.ahead, Array.getElem?_modify, this]
theorem mod_put {w : World} {g n : Nat} {os : Array Obj} (F : Array Value) : Mod [g] w (grow (putRow id (Sort.ahead w n) g 0 F) os) := Mod.grown (grown_put F)
theorem take_put (cur F : Array Value) (h : F.size ≤ cur.size) : (putCells id 0 F cur).toList.take F.size = F.toList := by
 apply List.ext_getElem?
 intro j
 by_cases hj : j < F.size
 ·rw [List.getElem?_take_of_lt hj, Array.getElem?_toList]
  simp [putCells, hj, show j < cur.size by omega]
 ·rw [List.getElem?_take_eq_none (by omega), List.getElem?_eq_none (by simp; omega)]
theorem holds_blk {w : World} {g : Nat} {cur F : Array Value} {e : TypeId} (hb : w.heap[g]? = some (.cells cur e (0, 0))) (ht : cur.toList.take F.size = F.toList) : Holds id w g 0 F := by
 intro j hj
 refine ⟨?_, by simp [World.frozen?, hb]⟩
 have h1 : (cur.toList.take F.size)[j]? = F.toList[j]? := by rw [ht]
 rw [List.getElem?_take_of_lt hj] at h1
 simp only [World.cell?, hb, Nat.zero_add]
 simp only [Option.isSome_none, Bool.false_eq_true, if_false]
 rw [← Array.getElem?_toList, h1]
 simp [hj]
theorem own_flat {w : World} {B : Nat} : ∀ {ps : List (List Nat × List Value)} {l : List α}, All2 (λ x a => (Rep.flat size cells ok raw hl h1 hr).own w B x.1 x.2 a) ps l → (ps.map (·.2)).flatten = (l.map cells).flatten
 | [], [], _ => rfl
 | y :: ps, a :: l, h => by
  obtain ⟨h1, h2⟩ := h
  have h1 : y.1 = [] ∧ y.2 = cells a ∧ ok a := h1
  rw [List.map_cons, List.flatten_cons, List.map_cons, List.flatten_cons, h1.2.1, own_flat h2]
 | [], _ :: _, h => h.elim
 | _ :: _, [], h => h.elim
theorem own_oks {w : World} {B : Nat} : ∀ {ps : List (List Nat × List Value)} {l : List α}, All2 (λ x a => (Rep.flat size cells ok raw hl h1 hr).own w B x.1 x.2 a) ps l → ∀ a ∈ l, ok a
 | [], [], _ => λ a h => nomatch h
 | y :: ps, a :: l, h => by
  obtain ⟨h1, h2⟩ := h
  have h1 : y.1 = [] ∧ y.2 = cells a ∧ ok a := h1
  intro x hx
  rcases List.mem_cons.1 hx with rfl | hx
  ·exact h1.2.2
  ·exact own_oks h2 x hx
 | [], _ :: _, h => h.elim
 | _ :: _, [], h => h.elim
theorem all_flat {w : World} : ∀ {l : List α}, (∀ a ∈ l, ok a) → All2 (λ es a => (Rep.flat size cells ok raw hl h1 hr).has w es a) (l.map cells) l
 | [], _ => trivial
 | a :: l, h => ⟨⟨rfl, h a List.mem_cons_self⟩, all_flat λ b hb => h b (List.mem_cons_of_mem _ hb)⟩
theorem own_holdsK [Inhabited α] (h0 : 0 < size) {e B c g by_ : Nat} {l : List α} {w : World} (h : (Rep.flat size cells ok raw hl h1 hr).SOwn e by_ w B (Rep.blkOf (some ⟨g, 0, none⟩)) (some ⟨g, 0, none⟩) c l) :
  HoldsK cells size w g 0 l.toArray ∧ g < w.heap.size ∧ l.length ≤ c ∧ c ≤ maxLen := by
 obtain ⟨hb, ps, hf, hn, ⟨hx1, hx2⟩, h5⟩ := h
 rcases hx2 with ⟨hx2, _⟩ | ⟨g2, cap, cur, hv, hB, hh, hnc, hcm2, hcs, ht2, hG⟩
 ·exact nomatch hx2
 injection hv with e1 e2 e3
 injection e1 with e1
 injection e1 with e1
 subst e1 e3
 rw [own_flat h5] at ht2
 refine ⟨holds_blk hh ?_, (Array.getElem?_eq_some_iff.1 hh).1, hnc, hcm2⟩
 rw [flatK_list hl h0, size_flatK, List.size_toArray]; exact ht2
theorem own_sortedK [Inhabited α] (h0 : 0 < size) {e B c g n by_ : Nat} {l ts : List α} {w : World} {os : Array Obj} (h : (Rep.flat size cells ok raw hl h1 hr).SOwn e by_ w B (Rep.blkOf (some ⟨g, 0, none⟩)) (some ⟨g, 0, none⟩) c l) (hp : ts.Perm l) :
  (Rep.flat size cells ok raw hl h1 hr).SOwn e by_ (sortWorldK cells size w g 0 n ts.toArray os) B (Rep.blkOf (some ⟨g, 0, none⟩)) (some ⟨g, 0, none⟩) c ts := by
 have hlen := hp.length_eq
 obtain ⟨hb, ps, hf, hn, ⟨hx1, hx2⟩, h5⟩ := h
 have hall := own_oks h5
 rcases hx2 with ⟨hx2, _⟩ | ⟨g2, cap, cur, hv, hB, hh, hnc, hcm2, hcs, ht2, hG⟩
 ·exact nomatch hx2
 injection hv with e1 e2 e3
 injection e1 with e1
 injection e1 with e1
 subst e1 e3
 have hcs : cur.size = c * size := hcs
 have hF : (flatK cells size ts.toArray).size ≤ cur.size := by rw [size_flatK, List.size_toArray, hcs, hlen]; exact Nat.mul_le_mul_right _ hnc
 refine Rep.SOwn.of_plain (ess := ts.map cells) Rep.flat_plain (all_flat λ a ha => hall a (hp.mem_iff.1 ha)) (by rw [hlen]; exact hb) ?_
 have hfl := flatK_list hl h0 ts
 refine ⟨?_, .inr ⟨g, c, _, by rw [hlen], hB, heap_put _ hh, by rw [hlen]; exact hnc, hcm2, by simp only [Sort.putCells, Array.size_mapIdx, hcs]; rfl, ?_, ?_⟩⟩
 ·rw [← hfl, Array.length_toList, size_flatK, List.size_toArray]; rfl
 ·have := take_put cur (flatK cells size ts.toArray) hF
  rw [hfl] at this
  rw [size_flatK, List.size_toArray] at this
  exact this
 ·intro j u hu
  have hjs : j < cur.size := by
   obtain ⟨hj, _⟩ := Array.getElem?_eq_some_iff.1 hu
   simpa [Sort.putCells] using hj
  by_cases hj : j < (flatK cells size ts.toArray).size
  ·have h1' : (Sort.putCells id 0 (flatK cells size ts.toArray) cur).toList[j]? = some u := by rw [Array.getElem?_toList]; exact hu
   have h2' := take_put cur (flatK cells size ts.toArray) hF
   have h3' : ((Sort.putCells id 0 (flatK cells size ts.toArray) cur).toList.take (flatK cells size ts.toArray).size)[j]? = some u := by rw [List.getElem?_take_of_lt hj]; exact h1'
   rw [h2', hfl, flat_at hl h0] at h3'
   cases hq : ts[j / size]? with
   | none => rw [hq] at h3'; cases h3'
   | some a => rw [hq, Option.bind_some] at h3'; exact hr a _ u h3'
  ·have : cur[j]? = some u := by
    rw [← hu]; simp only [Sort.putCells, Array.getElem?_mapIdx]
    rw [Array.getElem?_eq_getElem hjs, Option.map_some, if_neg (by omega)]
   exact hG j u this
theorem mod_sortedK [Inhabited α] {g n : Nat} {w : World} {os : Array Obj} (d : Array α) : Mod [g] w (sortWorldK cells size w g 0 n d os) := mod_put _
end
theorem own_addr {α : Type} {R : Rep α} {e by_ B c : Nat} {A : Option Addr} {l : List α} {w : World} (h : R.SOwn e by_ w B (Rep.blkOf A) A c l) (h0 : 0 < l.length) : ∃ g, A = some ⟨g, 0, none⟩ := by
 obtain ⟨hb, ps, hf, hn, ⟨hx1, hx2⟩, h5⟩ := h
 rcases hx2 with ⟨hx2, _⟩ | ⟨g2, cap, cur, hv, _⟩
 ·injection hx2 with _ e2 _; omega
 ·injection hv with e1 _ _; exact ⟨g2, e1⟩
theorem perm_all {α : Type} [Inhabited α] {l : List α} {d : Array α} (h : PermIn 0 l.length l.toArray d) : d.toList.Perm l := by
 obtain ⟨h1, h2, h3⟩ := h
 have hs : d.size = l.length := by simpa using h1
 rw [show d.extract 0 l.length = d by rw [← hs]; simp, show l.toArray.extract 0 l.length = l.toArray by simp] at h3
 exact h3
theorem sorted_all {α : Type} [Inhabited α] {lt : α → α → Bool} {n : Nat} {d : Array α} (hs : d.size = n) (h : SortedIn lt 0 n d) : d.toList.Pairwise λ x y => lt y x = false := by
 rw [List.pairwise_iff_getElem]
 intro i j hi hj hij
 have := h i j (Nat.zero_le _) hij (by rw [← hs]; simpa using hj)
 rw [getElem!_pos d j (by simpa using hj), getElem!_pos d i (by simpa using hi)] at this
 simpa using this
end
end Go.Proofs.Ytifffjhhammeiaa
namespace Go.Proofs
open Go.Shelf
def Try.sortPr_ren : Go.Shelf.Ren := ⟨fun | 6 => 37 | 15 => 46 | 14 => 54 | 28 => 66 | 29 => 67 | 20 => 71 | 21 => 72 | 22 => 73 | 23 => 74 | 24 => 75 | 25 => 76 | 26 => 77 | 27 => 78 | 46 => 96 | 47 => 88 | 48 => 89 | 49 => 97 | 50 => 98 | 57 => 105 | n => n, fun | 22 => 28 | 24 => 31 | 25 => 81 | 3 => 3 | 39 => 93 | 0 => 0 | 53 => 67 | 55 => 44 | 4 => 4 | 46 => 105 | 45 => 104 | 50 => 110 | 5 => 5 | 9 => 9 | 66 => 130 | 70 => 134 | 76 => 144 | 77 => 145 | n => n, fun | n => n⟩
theorem Try.sortPr : Go.Proofs.SlLaysF0.n6 Try.prog Try.sortPr_ren := {
 mixed := by kernel_rfl
 f6 := ⟨Try.f37.name, by decide, Try.func37.trans (congrArg some (by kernel_rfl))⟩
 f14 := ⟨Try.f54.name, by decide, Try.func54.trans (congrArg some (by kernel_rfl))⟩
 f15 := Try.func46.trans (congrArg some (by kernel_rfl))
 f20 := ⟨Try.f71.name, by decide, Try.func71.trans (congrArg some (by kernel_rfl))⟩
 f21 := ⟨Try.f72.name, by decide, Try.func72.trans (congrArg some (by kernel_rfl))⟩
 f22 := ⟨Try.f73.name, by decide, Try.func73.trans (congrArg some (by kernel_rfl))⟩
 f23 := ⟨Try.f74.name, by decide, Try.func74.trans (congrArg some (by kernel_rfl))⟩
 f24 := ⟨Try.f75.name, by decide, Try.func75.trans (congrArg some (by kernel_rfl))⟩
 f25 := ⟨Try.f76.name, by decide, Try.func76.trans (congrArg some (by kernel_rfl))⟩
 f26 := ⟨Try.f77.name, by decide, Try.func77.trans (congrArg some (by kernel_rfl))⟩
 f27 := ⟨Try.f78.name, by decide, Try.func78.trans (congrArg some (by kernel_rfl))⟩
 f28 := Try.func66.trans (congrArg some (by kernel_rfl))
 f29 := Try.func67.trans (congrArg some (by kernel_rfl))
 f46 := ⟨Try.f96.name, by decide, Try.func96.trans (congrArg some (by kernel_rfl))⟩
 f47 := Try.func88.trans (congrArg some (by kernel_rfl))
 f48 := Try.func89.trans (congrArg some (by kernel_rfl))
 f49 := ⟨Try.f97.name, by decide, Try.func97.trans (congrArg some (by kernel_rfl))⟩
 f50 := ⟨Try.f98.name, by decide, Try.func98.trans (congrArg some (by kernel_rfl))⟩
 f57 := ⟨Try.f105.name, by decide, Try.func105.trans (congrArg some (by kernel_rfl))⟩
 t0 := Try.underlying0
 a0 := Try.isAgg0
 z0 := Try.sizeOf0
 v0 := Try.zeroValue0
 t3 := Try.underlying3
 a3 := Try.isAgg3
 z3 := Try.sizeOf3
 v3 := Try.zeroValue3
 t4 := Try.underlying4
 a4 := Try.isAgg4
 z4 := Try.sizeOf4
 v4 := Try.zeroValue4
 t5 := Try.underlying5
 a5 := Try.isAgg5
 z5 := Try.sizeOf5
 v5 := Try.zeroValue5
 t9 := Try.underlying9
 a9 := Try.isAgg9
 z9 := Try.sizeOf9
 v9 := Try.zeroValue9
 t22 := Try.underlying28
 a22 := Try.isAgg28
 z22 := Try.sizeOf28
 v22 := Try.zeroValue28
 t25 := Try.underlying81
 a25 := Try.isAgg81
 z25 := Try.sizeOf81
 v25 := Try.zeroValue81
 t39 := Try.underlying93
 a39 := Try.isAgg93
 z39 := Try.sizeOf93
 v39 := Try.zeroValue93
 t45 := Try.underlying104
 a45 := Try.isAgg104
 z45 := Try.sizeOf104
 v45 := Try.zeroValue104
 t46 := Try.underlying105
 a46 := Try.isAgg105
 z46 := Try.sizeOf105
 v46 := Try.zeroValue105
 t50 := Try.underlying110
 a50 := Try.isAgg110
 z50 := Try.sizeOf110
 v50 := Try.zeroValue110
 t53 := Try.underlying67
 a53 := Try.isAgg67
 z53 := Try.sizeOf67
 v53 := Try.zeroValue67
 t55 := Try.underlying44
 a55 := Try.isAgg44
 z55 := Try.sizeOf44
 v55 := Try.zeroValue44
 t66 := Try.underlying130
 a66 := Try.isAgg130
 z66 := Try.sizeOf130
 v66 := Try.zeroValue130
 t70 := Try.underlying134
 a70 := Try.isAgg134
 z70 := Try.sizeOf134
 v70 := Try.zeroValue134
 t76 := Try.underlying144
 a76 := Try.isAgg144
 z76 := Try.sizeOf144
 v76 := Try.zeroValue144
 t77 := Try.underlying145
 a77 := Try.isAgg145
 z77 := Try.sizeOf145
 v77 := Try.zeroValue145 }
def Try.sortSc_ren : Go.Shelf.Ren := ⟨fun | 6 => 42 | 15 => 46 | 14 => 56 | 28 => 66 | 29 => 67 | 20 => 79 | 21 => 80 | 22 => 81 | 23 => 82 | 24 => 83 | 25 => 84 | 26 => 85 | 27 => 86 | 46 => 99 | 47 => 88 | 48 => 89 | 49 => 100 | 50 => 101 | 57 => 106 | n => n, fun | 22 => 83 | 24 => 87 | 25 => 90 | 3 => 3 | 39 => 93 | 0 => 0 | 53 => 67 | 55 => 44 | 4 => 4 | 46 => 105 | 45 => 104 | 50 => 110 | 5 => 5 | 9 => 9 | 66 => 130 | 70 => 134 | 76 => 144 | 77 => 145 | n => n, fun | n => n⟩
theorem Try.sortSc : Go.Proofs.SlLaysF0.n6 Try.prog Try.sortSc_ren := {
 mixed := by kernel_rfl
 f6 := ⟨Try.f42.name, by decide, Try.func42.trans (congrArg some (by kernel_rfl))⟩
 f14 := ⟨Try.f56.name, by decide, Try.func56.trans (congrArg some (by kernel_rfl))⟩
 f15 := Try.func46.trans (congrArg some (by kernel_rfl))
 f20 := ⟨Try.f79.name, by decide, Try.func79.trans (congrArg some (by kernel_rfl))⟩
 f21 := ⟨Try.f80.name, by decide, Try.func80.trans (congrArg some (by kernel_rfl))⟩
 f22 := ⟨Try.f81.name, by decide, Try.func81.trans (congrArg some (by kernel_rfl))⟩
 f23 := ⟨Try.f82.name, by decide, Try.func82.trans (congrArg some (by kernel_rfl))⟩
 f24 := ⟨Try.f83.name, by decide, Try.func83.trans (congrArg some (by kernel_rfl))⟩
 f25 := ⟨Try.f84.name, by decide, Try.func84.trans (congrArg some (by kernel_rfl))⟩
 f26 := ⟨Try.f85.name, by decide, Try.func85.trans (congrArg some (by kernel_rfl))⟩
 f27 := ⟨Try.f86.name, by decide, Try.func86.trans (congrArg some (by kernel_rfl))⟩
 f28 := Try.func66.trans (congrArg some (by kernel_rfl))
 f29 := Try.func67.trans (congrArg some (by kernel_rfl))
 f46 := ⟨Try.f99.name, by decide, Try.func99.trans (congrArg some (by kernel_rfl))⟩
 f47 := Try.func88.trans (congrArg some (by kernel_rfl))
 f48 := Try.func89.trans (congrArg some (by kernel_rfl))
 f49 := ⟨Try.f100.name, by decide, Try.func100.trans (congrArg some (by kernel_rfl))⟩
 f50 := ⟨Try.f101.name, by decide, Try.func101.trans (congrArg some (by kernel_rfl))⟩
 f57 := ⟨Try.f106.name, by decide, Try.func106.trans (congrArg some (by kernel_rfl))⟩
 t0 := Try.underlying0
 a0 := Try.isAgg0
 z0 := Try.sizeOf0
 v0 := Try.zeroValue0
 t3 := Try.underlying3
 a3 := Try.isAgg3
 z3 := Try.sizeOf3
 v3 := Try.zeroValue3
 t4 := Try.underlying4
 a4 := Try.isAgg4
 z4 := Try.sizeOf4
 v4 := Try.zeroValue4
 t5 := Try.underlying5
 a5 := Try.isAgg5
 z5 := Try.sizeOf5
 v5 := Try.zeroValue5
 t9 := Try.underlying9
 a9 := Try.isAgg9
 z9 := Try.sizeOf9
 v9 := Try.zeroValue9
 t22 := Try.underlying83
 a22 := Try.isAgg83
 z22 := Try.sizeOf83
 v22 := Try.zeroValue83
 t25 := Try.underlying90
 a25 := Try.isAgg90
 z25 := Try.sizeOf90
 v25 := Try.zeroValue90
 t39 := Try.underlying93
 a39 := Try.isAgg93
 z39 := Try.sizeOf93
 v39 := Try.zeroValue93
 t45 := Try.underlying104
 a45 := Try.isAgg104
 z45 := Try.sizeOf104
 v45 := Try.zeroValue104
 t46 := Try.underlying105
 a46 := Try.isAgg105
 z46 := Try.sizeOf105
 v46 := Try.zeroValue105
 t50 := Try.underlying110
 a50 := Try.isAgg110
 z50 := Try.sizeOf110
 v50 := Try.zeroValue110
 t53 := Try.underlying67
 a53 := Try.isAgg67
 z53 := Try.sizeOf67
 v53 := Try.zeroValue67
 t55 := Try.underlying44
 a55 := Try.isAgg44
 z55 := Try.sizeOf44
 v55 := Try.zeroValue44
 t66 := Try.underlying130
 a66 := Try.isAgg130
 z66 := Try.sizeOf130
 v66 := Try.zeroValue130
 t70 := Try.underlying134
 a70 := Try.isAgg134
 z70 := Try.sizeOf134
 v70 := Try.zeroValue134
 t76 := Try.underlying144
 a76 := Try.isAgg144
 z76 := Try.sizeOf144
 v76 := Try.zeroValue144
 t77 := Try.underlying145
 a77 := Try.isAgg145
 z77 := Try.sizeOf145
 v77 := Try.zeroValue145 }
def Try.cmpInt_ren : Go.Shelf.Ren := ⟨fun | 5 => 39 | 7 => 55 | n => n, fun | 22 => 3 | 3 => 3 | 4 => 4 | n => n, fun | n => n⟩
theorem Try.cmpInt : Go.Proofs.SlLaysC2.n5 Try.prog Try.cmpInt_ren := {
 mixed := by kernel_rfl
 f5 := ⟨Try.f39.name, by decide, Try.func39.trans (congrArg some (by kernel_rfl))⟩
 f7 := ⟨Try.f55.name, by decide, Try.func55.trans (congrArg some (by kernel_rfl))⟩
 t3 := Try.underlying3
 a3 := Try.isAgg3
 z3 := Try.sizeOf3
 v3 := Try.zeroValue3
 t4 := Try.underlying4
 a4 := Try.isAgg4
 z4 := Try.sizeOf4
 v4 := Try.zeroValue4
 t22 := Try.underlying3
 a22 := Try.isAgg3
 z22 := Try.sizeOf3
 v22 := Try.zeroValue3 }
end Go.Proofs
namespace Go.Proofs.Ytifffjhhammeiaa
section
open Go.RowKit
def GX (w w' : World) : Prop := Ext w w' ∧ w.drawn ≤ w'.drawn
theorem GX.rf (w : World) : GX w w := ⟨Ext.rf w, Nat.le_refl _⟩
theorem GX.tr {a b c : World} (h : GX a b) (k : GX b c) : GX a c := ⟨eT h.1 k.1, Nat.le_trans h.2 k.2⟩
theorem GX.drew (w : World) : GX w w.drew := ⟨(Below.refl _ w).drew, Nat.le_succ _⟩
theorem GX.alloc (w : World) (o : Obj) : GX w (w.alloc o) := ⟨(Below.refl _ w).alloc (Nat.le_refl _) _, Nat.le_refl _⟩
theorem GX.size {w w' : World} (h : GX w w') : w.heap.size ≤ w'.heap.size := h.1.size
theorem GX.grown {w w' : World} (h : GX w w') : ∃ q os', w' = Sort.grow (w.drewN q) os' := by
  obtain ⟨⟨h1, h2, h3, h4, h5⟩, h6⟩ := h
  refine ⟨w'.drawn - w.drawn, w'.heap.extract w.heap.size w'.heap.size, ?_⟩
  have e : w'.heap = w.heap ++ w'.heap.extract w.heap.size w'.heap.size := by
    refine Array.ext_getElem? λ i => ?_
    by_cases hi : i < w.heap.size
    · rw [Array.getElem?_append_left hi]; exact h5 i hi
    · rw [Array.getElem?_append_right (by omega), Array.getElem?_extract]
      by_cases h' : i < w'.heap.size
      · rw [if_pos (by omega)]; congr 1; omega
      · rw [if_neg (by omega)]; exact Array.getElem?_eq_none (by omega)
  have ed : w.drawn + (w'.drawn - w.drawn) = w'.drawn := by omega
  cases w'
  simp only at e h1 h2 h3 ed
  subst h1 h2 h3
  simp only [Sort.grow, World.drewN, ed, ← e]
section
variable {P : Program} {ops : Array Oper} {Q : Exit → Act → World → Prop} {kd : Nat → Nat}
def qUponG (P : Program) (w : World) (v : Value) : Result Next → Prop
  | .ok (.value u) w' => w' = w ∧ u = v
  | .ok .skip w' => w' = w ∧ v = undef
  | .ok (.enter f args) w' => w' = w ∧ Calls P f args w (λ e w'' => e = .returned v ∧ GX w w'')
  | _ => False
def QInG (P : Program) (ops : Array Oper) (w0 : World) (o : Oper) (v : Value) (a : Act) : Prop :=
  (Region.wanted o (yielded ops a.tmps) = true ∧ ∀ w, GX w0 w → qUponG P w v ((execOp a.eval o).run P w)) ∨
  (Region.wanted o (yielded ops a.tmps) = false ∧ v = undef)
theorem QInG.of_same {w0 : World} {o : Oper} {v : Value} {a a' : Act} (h : QInG P ops w0 o v a) (he : execOp a'.eval o = execOp a.eval o) (hw : Region.wanted o (yielded ops a'.tmps) = Region.wanted o (yielded ops a.tmps)) : QInG P ops w0 o v a' := by
  unfold QInG at *; rw [he, hw]; exact h
theorem QInG.on {w0 w1 : World} {o : Oper} {v : Value} {a : Act} (h : QInG P ops w0 o v a) (hx : GX w0 w1) : QInG P ops w1 o v a :=
  h.imp (λ ⟨h1, h2⟩ => ⟨h1, λ w hw => h2 w (hx.tr hw)⟩) id
theorem Yields.qinG {w0 : World} {o : Oper} {v : Value} {a : Act} (h : Yields P ops o v a) : QInG P ops w0 o v a :=
  h.imp (λ ⟨h1, h2⟩ => ⟨h1, λ w _ => by rw [h2 w]; exact ⟨rfl, rfl⟩⟩) id
def stepFG (P : Program) (ops : Array Oper) (Q : Exit → Act → World → Prop) (kd : Nat → Nat) (i : Nat) (K : Act → World → Prop) (a : Act) (w0 : World) : Prop :=
  ∃ o, ops[i]? = some o ∧
    ((kd i ≤ 1 ∧ ∃ v, QInG P ops w0 o v a ∧ K (a.put o.dst v) w0) ∨
     (1 < kd i ∧ ∀ w, GX w0 w → wpOp P ops Q i (λ a' w' => (kd i = 2 → GX w0 w') ∧ K a' w') a w))
def anyFG (P : Program) (ops : Array Oper) (Q : Exit → Act → World → Prop) (kd : Nat → Nat) : Nat → Array Bool → Act → World → Prop
  | 0, l, a, w0 => Region.ready .any ops l = [] ∧ ∀ w, GX w0 w → Q .normal a w
  | f + 1, l, a, w0 => (Region.ready .any ops l = [] → ∀ w, GX w0 w → Q .normal a w) ∧ ∀ i ∈ Region.ready .any ops l, stepFG P ops Q kd i (anyFG P ops Q kd f (l.setIfInBounds i true)) a w0
theorem any_of_FG : ∀ (f : Nat) (l : Array Bool) (a : Act) (w0 : World), anyFG P ops Q kd f l a w0 → ∀ w, GX w0 w → wpAny P .any ops Q f l a w
  | 0, _, _, _, h, w, hw => ⟨h.1, h.2 w hw⟩
  | f + 1, l, a, w0, h, w, hw => ⟨λ h0 => h.1 h0 w hw, λ i hi => by
      obtain ⟨o, ho, h2⟩ := h.2 i hi
      rcases h2 with ⟨_, v, hq, hk⟩ | ⟨_, h2⟩
      · unfold wpOp
        simp only [ho]
        rcases hq with ⟨hw1, hq⟩ | ⟨hw1, rfl⟩
        · rw [if_pos hw1]
          refine .inl ?_
          have hq := hq w hw
          unfold Oper.wp
          generalize (execOp a.eval o).run P w = r at *
          cases r with
          | ok n w' =>
            cases n <;> simp only [qUponG] at hq <;> simp only [Oper.upon]
            case value u => obtain ⟨rfl, rfl⟩ := hq; exact any_of_FG f _ _ _ hk _ hw
            case skip => obtain ⟨rfl, rfl⟩ := hq; exact any_of_FG f _ _ _ hk _ hw
            case enter f' args => obtain ⟨rfl, hc⟩ := hq; exact hc.mono λ e w'' ⟨he, hx⟩ => by subst he; exact any_of_FG f _ _ _ hk _ (hw.tr hx)
          | halt x w' => simp only [qUponG] at hq
        · rw [if_neg (by rw [hw1]; decide)]
          exact any_of_FG f _ _ _ hk _ hw
      · exact wpOp_mono (λ a' w' h3 => any_of_FG f _ _ _ h3.2 _ (GX.rf w')) (h2 w hw)⟩
theorem firstFG {i : Nat} {oi : Oper} {v : Value} (hi : ops[i]? = some oi) (hk : kd i ≤ 1) (hsel : ∀ (j : Nat) (o : Oper) cs b, ops[j]? = some o → o.op ≠ .select cs b)
    (hQ : ∀ c a w, ¬ Q (.panic c) a w) (Z : World → Act → Prop) (z1 : ∀ w0 a, Z w0 a → QInG P ops w0 oi v a)
    (z2 : ∀ w0 a a', Z w0 a → execOp a'.eval oi = execOp a.eval oi → Region.wanted oi (yielded ops a'.tmps) = Region.wanted oi (yielded ops a.tmps) → Z w0 a')
    (z3 : ∀ w0 w1 a, GX w0 w1 → Z w0 a → Z w1 a) (R : Nat → Bool) (l0 : Array Bool)
    (hR : ∀ j oj, ops[j]? = some oj → j ≠ i → (∀ e ∈ oj.after, Region.binds .any e = true → R e.on = true) → R j = true)
    (hB : (∀ w0 w1 a, Z w0 a → Z w1 a) ∨ ∀ j, R j = true → 3 ≤ kd j → l0.getD j true = true) :
    ∀ (f : Nat) (l : Array Bool) (a : Act) (w0 : World), (∀ j, l.getD j false = true → R j = true) → (∀ j, l0.getD j true = true → l.getD j true = true) →
      (∀ j oj, ops[j]? = some oj → j ≠ i → l.getD j true = false → (∀ e ∈ oj.after, Region.binds .any e = true → e.on ≠ i) → oi.apart ops oj = true) →
      i ∈ Region.ready .any ops l → Z w0 a → anyFG P ops Q kd f (l.setIfInBounds i true) (a.put oi.dst v) w0 → anyFG P ops Q kd (f + 1) l a w0 := by
  intro f
  induction f with
  | zero =>
    intro l a w0 _ _ _ hr hz H
    refine ⟨λ h => (by rw [h] at hr; cases hr), λ j hj => ?_⟩
    by_cases hji : j = i
    · subst hji; exact ⟨oi, hi, .inl ⟨hk, v, z1 _ _ hz, H⟩⟩
    · have := ready_mono hj hji
      rw [H.1] at this
      cases this
  | succ f ih =>
    intro l a w0 hlR hl0 hfree hr hz H
    refine ⟨λ h => (by rw [h] at hr; cases hr), λ j hj => ?_⟩
    by_cases hji : j = i
    · subst hji; exact ⟨oi, hi, .inl ⟨hk, v, z1 _ _ hz, H⟩⟩
    · obtain ⟨oj, hoj, h1⟩ := H.2 j (ready_mono hj hji)
      obtain ⟨hjun, oj', hoj', hall⟩ := mem_ready.1 hj
      obtain rfl : oj' = oj := by rw [hoj] at hoj'; exact (Option.some.inj hoj').symm
      have hnot : ∀ e ∈ oj'.after, Region.binds .any e = true → e.on ≠ i := λ e he hb heq => by
        have h1 := hall e he hb
        have h0 := (mem_ready.1 hr).1
        rw [heq] at h1
        rcases Nat.lt_or_ge i l.size with h' | h'
        · simp [h'] at h0 h1; rw [h0] at h1; cases h1
        · simp [Array.getElem?_eq_none h'] at h1
      have hap := hfree j oj' hoj hji hjun hnot
      obtain ⟨a1, a2, a3⟩ := Oper.apart_spec hap
      have hsi : ∀ cs b, oi.op ≠ .select cs b := λ cs b => hsel i oi cs b hi
      have hsj : ∀ cs b, oj'.op ≠ .select cs b := λ cs b => hsel j oj' cs b hoj
      have keep : ∀ w1 a u, Z w1 a → Z w1 (a.put oj'.dst u) := λ w1 a u hz => z2 _ _ _ hz (execOp_put oi hsi a oj'.dst u a3) (wanted_put oi a oj'.dst u a3)
      have hRj : R j = true := hR j oj' hoj hji λ e he hb => hlR _ (hall e he hb)
      have hlR' : ∀ k, (l.setIfInBounds j true).getD k false = true → R k = true := λ k hk => by
        by_cases hjk : j = k
        · rw [← hjk]; exact hRj
        · rw [getD_set_ne false hjk] at hk; exact hlR k hk
      have hl0' : ∀ k, l0.getD k true = true → (l.setIfInBounds j true).getD k true = true := λ k hk => by
        by_cases hjk : j = k
        · subst hjk
          rcases Nat.lt_or_ge j l.size with h' | h'
          · simp [h']
          · simp [Array.getElem?_eq_none h']
        · rw [getD_set_ne true hjk]; exact hl0 k hk
      have hfree' : ∀ k ok, ops[k]? = some ok → k ≠ i → (l.setIfInBounds j true).getD k true = false →
          (∀ e ∈ ok.after, Region.binds .any e = true → e.on ≠ i) → oi.apart ops ok = true := λ k ok hk hki hun hno => by
        refine hfree k ok hk hki ?_ hno
        by_cases hjk : j = k
        · subst hjk; exact hjun
        · rw [getD_set_ne true hjk] at hun; exact hun
      have hri := ready_mono hr (Ne.symm hji)
      rcases h1 with ⟨hkj, u, hq, hK⟩ | ⟨hkj, h1⟩
      · refine ⟨oj', hoj, .inl ⟨hkj, u, hq.of_same (execOp_put oj' hsj a oi.dst v a1).symm (wanted_put oj' a oi.dst v a1).symm, ?_⟩⟩
        refine ih _ _ _ hlR' hl0' hfree' hri (keep _ _ _ hz) ?_
        rw [Array.setIfInBounds_comm _ _ hji, ← Act.put_comm a v u a2]
        exact hK
      · refine ⟨oj', hoj, .inr ⟨hkj, λ w hw => ?_⟩⟩
        refine wpOp_mono (λ a' w' h3 => ⟨h3.2.1, ?_⟩) (wpOp_putZ (Z := Z w0) hoj a1 a2 hsj hQ (keep w0) (λ a d hz => z2 _ _ _ hz rfl rfl) hz (h1 w hw))
        have hzw : Z w' a' := by
          rcases Nat.lt_or_ge (kd j) 3 with hlt | hge
          · exact z3 _ _ _ (h3.2.1 (by omega)) h3.1
          · rcases hB with hB | hB
            · exact hB _ _ _ h3.1
            · have := hl0 j (hB j hRj hge); rw [hjun] at this; cases this
        refine ih _ _ _ hlR' hl0' hfree' hri hzw ?_
        rw [Array.setIfInBounds_comm _ _ hji]
        exact h3.2.2
def wpFlowG (P : Program) (ops : Array Oper) (Q : Exit → Act → World → Prop) (kd : Nat → Nat) : List Nat → Act → World → Prop
  | [], a, w0 => ∀ w, GX w0 w → Q .normal a w
  | i :: r, a, w0 => ∃ o, ops[i]? = some o ∧
      ((kd i = 0 ∧ ∃ v, QInG P ops w0 o v a ∧ wpFlowG P ops Q kd r (a.put o.dst v) w0) ∨
       (kd i = 1 ∧ ∃ v, Yields P ops o v a ∧ wpFlowG P ops Q kd r (a.put o.dst v) w0) ∨
       (1 < kd i ∧ ∀ w, GX w0 w → wpOp P ops Q i (λ a' w' => (kd i = 2 → GX w0 w') ∧ wpFlowG P ops Q kd r a' w') a w))
theorem any_of_flowG (hs : Region.noSelect ops = true) (hQ : ∀ c a w, ¬ Q (.panic c) a w) : ∀ (r : List Nat) (l : Array Bool) (a : Act) (w0 : World), l.size = ops.size → flowB ops kd r l = true → wpFlowG P ops Q kd r a w0 → anyFG P ops Q kd r.length l a w0
  | [], l, a, w0, _, hB, h => ⟨by simpa [flowB] using hB, h⟩
  | i :: r, l, a, w0, hl, hB, h => by
    obtain ⟨o, ho, h⟩ := h
    have hsel := Region.noSelect_spec hs
    rcases h with ⟨hk, v, hq, hK⟩ | ⟨hk, v, hq, hK⟩ | ⟨hk, h⟩
    · simp only [flowB, hk, Bool.and_eq_true] at hB
      obtain ⟨⟨⟨hf, hr⟩, hb⟩, hB⟩ := hB
      obtain ⟨R, r1, r2, r3⟩ := barOk_spec hl hb
      exact firstFG ho (by omega) hsel hQ (λ w0 a => QInG P ops w0 o v a) (λ _ _ h => h) (λ _ _ _ h he hw => h.of_same he hw) (λ _ _ _ hx h => h.on hx) R l r1 (.inr r3) _ _ _ _ r2 (λ _ h => h) (Region.free_spec ho hf) (by simpa using hr) hq
        (any_of_flowG hs hQ r _ _ _ (by simpa using hl) hB hK)
    · simp only [flowB, hk, Bool.and_eq_true] at hB
      obtain ⟨⟨hf, hr⟩, hB⟩ := hB
      exact firstFG ho (by omega) hsel hQ (λ _ a => Yields P ops o v a) (λ _ _ h => Yields.qinG h) (λ _ _ _ h he hw => h.of_same he hw) (λ _ _ _ _ h => h) (λ _ => true) l (λ _ _ _ _ _ => rfl) (.inl λ _ _ _ h => h) _ _ _ _ (λ _ _ => rfl) (λ _ h => h) (Region.free_spec ho hf) (by simpa using hr) hq
        (any_of_flowG hs hQ r _ _ _ (by simpa using hl) hB hK)
    · obtain ⟨k, hk2⟩ : ∃ k, kd i = k + 2 := ⟨kd i - 2, by omega⟩
      simp only [flowB, hk2, Bool.and_eq_true, beq_iff_eq] at hB
      obtain ⟨hr, hB⟩ := hB
      refine ⟨λ h0 => (by rw [hr] at h0; cases h0), λ j hj => ?_⟩
      rw [hr] at hj
      obtain rfl : j = i := by simpa using hj
      exact ⟨o, ho, .inr ⟨hk, λ w hw => wpOp_mono (λ a' w' h3 => ⟨h3.1, any_of_flowG hs hQ r _ _ _ (by simpa using hl) hB h3.2⟩) (h w hw)⟩⟩
theorem region_flowG {id : Nat} {a : Act} {w : World} (τ : List Nat) (hm : P.follows .mixedOrders = true) (hB : (Region.noSelect ops && (τ.length == ops.size) && flowB ops kd τ (Array.replicate ops.size false)) = true)
    (h : wpFlowG P ops (nrm (Q .normal)) kd τ a w) : (Code.region id ops true).wp P Q a w := by
  simp only [Bool.and_eq_true, beq_iff_eq] at hB
  obtain ⟨⟨hs, hl⟩, hB⟩ := hB
  refine wp_mono (wp_region_any hm (Q := nrm (Q .normal)) ?_) (λ e a w hq => by cases e <;> first | exact hq | exact hq.elim)
  have := any_of_flowG (P := P) hs (Q := nrm (Q .normal)) (λ _ _ _ h => h) τ (Array.replicate ops.size false) a w (by simp) hB h
  rw [hl] at this
  exact any_of_FG _ _ _ _ this _ (GX.drew w)
end
section
variable {P : Program} {n : Nat} {E E' : List (Nat × Value)} {a : Act} {w w' w0 w1 : World} {Q : Exit → Act → World → Prop} {ops : Array Oper} {v : Value} {kd : Nat → Nat}
variable {d : Option Nat} {ty : TypeId} {pos : String} {af : Array Edge} {g : Option (Nat × Bool)} {x y z : Operand} {t : TypeId} {rest : List Oper} {τ : List Nat} {i : Nat}
theorem bxG {op : Op} {d : Nat} {cs : List Value} (hop : op = .box t x) (hx : ev E x = some v) (hc : v.cells = cs.toArray) (hd : Nat.blt d n = true)
    (h : ∀ w1 b, GX w w1 → w.heap.size ≤ b → Blk w1 b cs t (0, 0) → WL P n ops Q rest ((d, .pointer (some ⟨b, 0, none⟩)) :: E) w1) : WL P n ops Q (⟨some d, op, ty, pos, af, none⟩ :: rest) E w := by
  subst hop
  refine vl (w' := w.alloc (.cells v.cells t)) (v := .pointer (some ⟨w.heap.size, 0, none⟩)) (λ n a ha => ?_) hd (h _ _ (GX.alloc w _) (Nat.le_refl _) (by rw [hc]; exact Blk.new w cs t (0, 0)))
  simp only [execOp, ha.ev hx, Instr.box, newVar, newRow, Sem.run_bind, run_newObj_alloc, Result.andThen_ok, Sem.run_pure]
theorem bsG {ps : Array (Nat × Operand)} {l : List (Nat × Value)} {d k e : Nat} {cs : List Value} (he : evp E ps.toList = some l) (hr : ∀ w, (Instr.buildSlice t k l.toArray).run P w = .ok (.slice (some ⟨w.heap.size, 0, none⟩) k k) (w.alloc (.cells cs.toArray e))) (hd : Nat.blt d n = true)
    (h : ∀ w1 b, GX w w1 → w.heap.size ≤ b → Blk w1 b cs e (0, 0) → WL P n ops Q rest ((d, .slice (some ⟨b, 0, none⟩) k k) :: E) w1) : WL P n ops Q (⟨some d, .buildSlice t k ps, ty, pos, af, none⟩ :: rest) E w := by
  refine vl (w' := w.alloc (.cells cs.toArray e)) (v := .slice (some ⟨w.heap.size, 0, none⟩) k k) (λ n a ha => ?_) hd (h _ _ (GX.alloc w _) (Nat.le_refl _) (Blk.new w cs e (0, 0)))
  have e1 : ps.map (λ (i, x) => (i, a.eval x)) = l.toArray := by rw [← ha.evp he]; apply Array.ext'; simp
  simp only [execOp, e1, Sem.run_bind, hr, Result.andThen_ok, Sem.run_pure]
def FLG (P : Program) (n : Nat) (ops : Array Oper) (Q : Exit → Act → World → Prop) (kd : Nat → Nat) (τ : List Nat) (E : List (Nat × Value)) (w0 : World) : Prop := ∀ a, Agr n E a → wpFlowG P ops (nrm (Q .normal)) kd τ a w0
theorem rdG {id : Nat} (ks : List (Nat × Nat)) (τ : List Nat) (hm : P.follows .mixedOrders = true) (hB : (Region.noSelect ops && (τ.length == ops.size) && flowB ops (kds ks) τ (Array.replicate ops.size false)) = true)
    (h : FLG P n ops Q (kds ks) τ E w) : W P n (.region id ops true) Q E w := λ a ha => region_flowG τ hm hB (h a ha)
theorem fnG (h : ∀ w, GX w0 w → N n Q E w) : FLG P n ops Q kd [] E w0 := λ a ha w hw => h w hw a ha
theorem fqG {d : Nat} {op : Op} (hi : ops[i]? = some ⟨some d, op, ty, pos, af, none⟩) (hk : kd i = 0) (hr : ∀ w, GX w0 w → Runs P E ⟨some d, op, ty, pos, af, none⟩ w v w) (hd : Nat.blt d n = true)
    (h : FLG P n ops Q kd τ ((d, v) :: E) w0) : FLG P n ops Q kd (i :: τ) E w0 := λ a ha =>
  ⟨_, hi, .inl ⟨hk, v, .inl ⟨wanted_none rfl, λ w hw => by rw [hr w hw n a ha]; exact ⟨rfl, rfl⟩⟩, h _ (ha.put hd v)⟩⟩
theorem fwG {d : Nat} {op : Op} (hi : ops[i]? = some ⟨some d, op, ty, pos, af, none⟩) (hk : kd i = 1) (hr : ∀ w, Runs P E ⟨some d, op, ty, pos, af, none⟩ w v w) (hd : Nat.blt d n = true)
    (h : FLG P n ops Q kd τ ((d, v) :: E) w0) : FLG P n ops Q kd (i :: τ) E w0 := λ a ha =>
  ⟨_, hi, .inr (.inl ⟨hk, v, .inl ⟨wanted_none rfl, λ w => hr w n a ha⟩, h _ (ha.put hd v)⟩)⟩
theorem fcG {d : Nat} {f : FuncId} {xs : Array Operand} {ts : Array TypeId} {args : List Value} (hi : ops[i]? = some ⟨some d, .call { callee := .value (.func f), args := xs, argTypes := ts }, ty, pos, af, none⟩) (hk : kd i = 0) (hf : Enters P f) (he : evs E xs.toList = some args)
    (hr : ∀ w, GX w0 w → Calls P f args.toArray w λ e w' => e = .returned v ∧ GX w w') (hd : Nat.blt d n = true)
    (h : FLG P n ops Q kd τ ((d, v) :: E) w0) : FLG P n ops Q kd (i :: τ) E w0 := λ a ha =>
  ⟨_, hi, .inl ⟨hk, v, .inl ⟨wanted_none rfl, λ w hw => by rw [run_call hf ha he]; exact ⟨rfl, hr w hw⟩⟩, h _ (ha.put hd v)⟩⟩
theorem fxG {o : Oper} (hg : o.guard = none) (hi : ops[i]? = some o) (hk : kd i = 2) (h : ∀ w, GX w0 w → Stp P n ops o E w λ E' w' => GX w0 w' ∧ FLG P n ops Q kd τ E' w') : FLG P n ops Q kd (i :: τ) E w0 := λ a ha =>
  ⟨_, hi, .inr (.inr ⟨by omega, λ w hw => stp_op hg hi (h w hw) (λ E' w' a' hk ha' => ⟨λ _ => hk.1, hk.2 a' ha'⟩) ha⟩)⟩
end
end
end Go.Proofs.Ytifffjhhammeiaa
