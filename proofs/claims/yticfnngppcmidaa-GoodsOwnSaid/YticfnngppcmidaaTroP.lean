/-
  Right worlds: troops stand apart, and their numbers rise.
-/
import Derived.Test.YticfnngppcmidaaWdP
set_option linter.unusedVariables false
namespace Go.Proofs.Yticfnngppcmidaa
open Go.RowKit

theorem mem_spots {W : Wd} {k j : Nat} {t : Trp} (hj : W.troops[j]? = some t) (hjk : j < k) : (W.spots k).contains t.spot = true := by
  rw [List.contains_iff_mem]
  unfold Wd.spots
  rw [List.mem_map]
  refine ⟨t, List.mem_iff_getElem?.2 ⟨j, ?_⟩, rfl⟩
  rw [List.getElem?_take, if_pos hjk, hj]
/-- Two troops that stand on one cell are one. -/
theorem spot_inj {W : Wd} (h : W.chk = 0) {i j : Nat} {t u : Trp} (hi : W.troops[i]? = some t) (hj : W.troops[j]? = some u) (he : t.spot = u.spot) : i = j := by
  rcases Nat.lt_trichotomy i j with hlt | rfl | hlt
  · have := (good_troop h hj).2.2.2.2.2.1
    rw [← he, mem_spots hi hlt] at this
    cases this
  · rfl
  · have := (good_troop h hi).2.2.2.2.2.1
    rw [he, mem_spots hj hlt] at this
    cases this
theorem next_ok {W : Wd} (h : W.chk = 0) : 1 ≤ W.next ∧ W.next ≤ 1000000 ∧ 0 ≤ W.now ∧ W.now ≤ 1000000 := by
  obtain ⟨_, _, _, _, _, h6⟩ := good_spots h
  unfold Wd.troopsOk at h6
  rw [Bool.and_eq_true, Bool.and_eq_true] at h6
  have a := inB_true h6.2.1
  have b := inB_true h6.2.2
  exact ⟨a.1, a.2, b.1, b.2⟩
theorem wrap_small {x : Int} (h1 : -1000 ≤ x) (h2 : x ≤ 2000000) : wrap64 x = x := by
  have h := IntKind.wrap_i64 x
  unfold wrap64
  first | (rw [h]; omega) | omega
/-- The numbers rise. -/
theorem id_step {W : Wd} (h : W.chk = 0) : ∀ (k : Nat) (t : Trp), W.troops[k]? = some t → W.lastId k < t.id ∧ t.id < W.next ∧ 0 ≤ W.lastId k := by
  obtain ⟨n1, n2, _, _⟩ := next_ok h
  intro k
  induction k with
  | zero =>
    intro t ht
    have h7 := inB_true (good_troop h ht).2.2.2.2.2.2
    have e : W.lastId 0 = 0 := rfl
    rw [e] at h7 ⊢
    rw [wrap_small (by omega) (by omega), wrap_small (by omega) (by omega)] at h7
    omega
  | succ k ih =>
    intro t ht
    have hlt := (List.getElem?_eq_some_iff.1 ht).1
    obtain ⟨u, hu⟩ := get_of (l := W.troops) (i := k) (by omega)
    have h8 := ih u hu
    have h7 := inB_true (good_troop h ht).2.2.2.2.2.2
    have e : W.lastId (k + 1) = u.id := by
      unfold Wd.lastId
      rw [if_neg (by omega), List.getD_eq_getElem?_getD, Nat.add_sub_cancel, hu]; rfl
    rw [e] at h7 ⊢
    rw [wrap_small (by omega) (by omega), wrap_small (by omega) (by omega)] at h7
    omega
theorem id_lt {W : Wd} (h : W.chk = 0) {i j : Nat} {t u : Trp} (hi : W.troops[i]? = some t) (hj : W.troops[j]? = some u) (hij : i < j) : t.id < u.id := by
  induction j generalizing u with
  | zero => omega
  | succ j ih =>
    have hlt := (List.getElem?_eq_some_iff.1 hj).1
    obtain ⟨v, hv⟩ := get_of (l := W.troops) (i := j) (by omega)
    have h8 := id_step h _ _ hj
    have e : W.lastId (j + 1) = v.id := by
      unfold Wd.lastId
      rw [if_neg (by omega), List.getD_eq_getElem?_getD, Nat.add_sub_cancel, hv]; rfl
    rw [e] at h8
    rcases Nat.lt_or_eq_of_le (Nat.le_of_lt_succ hij) with h9 | rfl
    · have := ih hv h9; omega
    · rw [hi] at hv
      obtain rfl := Option.some.inj hv
      omega
theorem id_inj {W : Wd} (h : W.chk = 0) {i j : Nat} {t u : Trp} (hi : W.troops[i]? = some t) (hj : W.troops[j]? = some u) (he : t.id = u.id) : i = j := by
  rcases Nat.lt_trichotomy i j with hlt | rfl | hlt
  · have := id_lt h hi hj hlt; omega
  · rfl
  · have := id_lt h hj hi hlt; omega
theorem idx_of_unique {p : Trp → Bool} {l : List Trp} {k : Nat} {t : Trp} (hk : l[k]? = some t) (hp : p t = true) (hu : ∀ (j : Nat) u, l[j]? = some u → p u = true → j = k) : idxI p l = (k : Int) := by
  obtain ⟨h1, h2⟩ := List.getElem?_eq_some_iff.1 hk
  refine idxI_some h1 (by rw [h2]; exact hp) fun j hj => ?_
  cases hb : p (l[j]'(by omega)) with
  | false => rfl
  | true => have := hu j _ (List.getElem?_eq_getElem (by omega)) hb; omega
theorem on_same {W : Wd} (h : W.chk = 0) {k : Nat} {t : Trp} (ht : W.troops[k]? = some t) : idxI (isAt t.spot) W.troops = (k : Int) :=
  idx_of_unique ht (by simp [isAt]) fun j u hj hu => spot_inj h hj ht (by simpa [isAt] using hu)
theorem filter_one {α : Type} {p : α → Bool} : ∀ {l : List α} {k : Nat} {t : α}, l[k]? = some t → p t = true → (∀ (j : Nat) u, l[j]? = some u → p u = true → j = k) → l.filter p = [t]
  | [], _, _, h, _, _ => by simp at h
  | x :: r, 0, t, h, hp, hu => by
    have e : x = t := by simpa using h
    subst e
    rw [List.filter_cons_of_pos hp]
    have : r.filter p = [] := by
      rw [List.filter_eq_nil_iff]
      intro y hy hpy
      obtain ⟨j, hj, rfl⟩ := List.mem_iff_getElem.1 hy
      have := hu (j + 1) r[j] (by simp [hj]) hpy
      omega
    rw [this]
  | x :: r, k + 1, t, h, hp, hu => by
    have hx : p x = false := by
      cases hb : p x with
      | false => rfl
      | true => have := hu 0 x rfl hb; omega
    rw [List.filter_cons_of_neg (by rw [hx]; simp)]
    exact filter_one (by simpa using h) hp fun j u hj hb => by have := hu (j + 1) u (by simpa using hj) hb; omega
theorem nearT_zero {p : Cel} {t : Trp} : nearT p 0 t = true ↔ t.spot = p := by
  unfold nearT
  rw [Bool.and_eq_true]
  obtain ⟨a, b⟩ := p
  obtain ⟨_, _, _, ⟨c, d⟩, _, _⟩ := t
  constructor
  · rintro ⟨h1, h2⟩
    have := inB_true h1
    have := inB_true h2
    simp at *
    omega
  · intro h
    simp at h
    exact ⟨inB_mk (by simp; omega) (by simp; omega), inB_mk (by simp; omega) (by simp; omega)⟩
theorem near_one {W : Wd} (h : W.chk = 0) {k : Nat} {t : Trp} (ht : W.troops[k]? = some t) : nearIds W t.spot 0 = [t.id] := by
  unfold nearIds
  rw [filter_one ht (nearT_zero.2 rfl) fun j u hj hu => spot_inj h hj ht (nearT_zero.1 hu)]
  rfl
end Go.Proofs.Yticfnngppcmidaa
