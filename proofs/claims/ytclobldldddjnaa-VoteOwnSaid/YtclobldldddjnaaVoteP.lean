/-
  Voting as plain mathematics: what a purge leaves is right; who votes, and takes back.
-/
import Derived.Test.YtclobldldddjnaaVoteE
set_option linter.unusedVariables false
namespace Go.Proofs.Ytclobldldddjnaa.Vote
open Go.RowKit Go.Proofs.Ytclobldldddjnaa Go.Proofs.Ytclobldldddjnaa.Bv

/-- One is a part of another. -/
def Part (a b : Nat) : Prop := ∀ i, a.testBit i = true → b.testBit i = true
theorem Part.refl (a : Nat) : Part a a := fun _ h => h
theorem Part.trans {a b c : Nat} (h : Part a b) (g : Part b c) : Part a c := fun i hi => g i (h i hi)
theorem Part.and {a b : Nat} (h : Part a b) : a &&& b = a := eq_of_bits fun i => by
  rw [Nat.testBit_and]
  cases ha : a.testBit i with
  | false => rfl
  | true => rw [h i ha]; rfl
theorem Part.size {a b : Nat} (h : Part a b) : size a ≤ size b := cnt_sub 32 a b h.and
theorem Part.zero {a : Nat} (h : Part a 0) : a = 0 := eq_of_bits fun i => by
  rw [Nat.zero_testBit]
  cases ha : a.testBit i with
  | false => rfl
  | true => have := h i ha; rw [Nat.zero_testBit] at this; cases this
theorem Part.lt {a b : Nat} (h : Part a b) {n : Nat} (hb : b < 2 ^ n) : a < 2 ^ n := by
  rw [← h.and]; exact Nat.lt_of_le_of_lt Nat.and_le_right hb
theorem diff_at (a k i : Nat) (ha : a < 4294967296) (hk : k < 32) : (diff a (2 ^ k)).testBit i = (a.testBit i && !decide (k = i)) := by
  by_cases hi : i < 32
  · rw [diff_bit a _ i ha hi, Nat.testBit_two_pow]
  · rw [diff_top _ _ _ hi]
    have : a.testBit i = false := Nat.testBit_lt_two_pow (Nat.lt_of_lt_of_le ha (Nat.pow_le_pow_right (n := 2) (by decide) (by omega : 32 ≤ i)))
    rw [this]; rfl
theorem diff_part (a k : Nat) (ha : a < 4294967296) (hk : k < 32) : Part (diff a (2 ^ k)) a := fun i h => by
  rw [diff_at a k i ha hk] at h
  simp at h; exact h.1
theorem diff_zero_part {a b : Nat} (ha : a < 4294967296) : diff a b = 0 ↔ Part a b := by
  constructor
  · intro h i hi
    have hi32 : i < 32 := by
      rcases Nat.lt_or_ge i 32 with h | h
      · exact h
      · rw [Nat.testBit_lt_two_pow (Nat.lt_of_lt_of_le ha (Nat.pow_le_pow_right (n := 2) (by decide) h))] at hi; cases hi
    have := diff_bit a b i ha hi32
    rw [h, hi, Nat.zero_testBit] at this
    simpa using this.symm
  · intro h
    refine eq_of_bits fun i => ?_
    rw [Nat.zero_testBit]
    by_cases hi : i < 32
    · rw [diff_bit a b i ha hi]
      cases hx : a.testBit i with
      | false => rfl
      | true => rw [h i hx]; rfl
    · exact diff_top _ _ _ hi

/-- Right sets, but that someone may be outvoted. -/
structure Good0 (m : Nat) (l : List Nat) : Prop where
  m16 : m < 65536
  len : l.length = 16
  lt : ∀ k, l.getD k 0 < 4294967296
  sub : ∀ k, Part (l.getD k 0) m
  self : ∀ k, (l.getD k 0).testBit k = false
  mem : ∀ k, l.getD k 0 ≠ 0 → m.testBit k = true
theorem okSets_iff (m : Nat) : ∀ (l : List Nat) (k : Nat), okSets m l k = true ↔ ∀ j, j < l.length → okSet m (l.getD j 0) (k + j) = true
  | [], k => by simp [okSets]
  | x :: xs, k => by
    rw [okSets, Bool.and_eq_true, okSets_iff m xs (k + 1)]
    constructor
    · rintro ⟨h1, h2⟩ j hj
      match j with
      | 0 => exact h1
      | j + 1 =>
        have := h2 j (by simpa using hj)
        rw [show k + (j + 1) = k + 1 + j from by omega]
        exact this
    · intro h
      refine ⟨h 0 (by simp), fun j hj => ?_⟩
      have := h (j + 1) (by simpa using hj)
      rw [show k + (j + 1) = k + 1 + j from by omega] at this
      exact this
theorem okSet_iff (m x k : Nat) (hx : x < 4294967296) : okSet m x k = true ↔ Part x m ∧ x.testBit k = false ∧ (x ≠ 0 → m.testBit k = true) := by
  unfold okSet
  rw [Bool.and_eq_true, Bool.and_eq_true, beq_iff_eq, diff_zero_part hx]
  simp only [Bool.not_eq_true', Bool.or_eq_true, beq_iff_eq]
  constructor
  · rintro ⟨⟨h1, h2⟩, h3⟩
    exact ⟨h1, h2, fun h => h3.resolve_left h⟩
  · rintro ⟨h1, h2, h3⟩
    refine ⟨⟨h1, h2⟩, ?_⟩
    by_cases h : x = 0
    · exact .inl h
    · exact .inr (h3 h)
theorem getD_big (l : List Nat) (k : Nat) (h : l.length ≤ k) : l.getD k 0 = 0 := by simp [h]
theorem check_zero {m : Nat} {l : List Nat} (hl : l.length = 16) (hs : ∀ k, l.getD k 0 < 4294967296) : check m l = 0 ↔ m ≠ 0 ∧ Good0 m l ∧ worst m l < 0 := by
  unfold check
  constructor
  · intro h
    split at h
    · cases h
    · rename_i h0
      split at h
      · cases h
      · rename_i h1
        split at h
        · cases h
        · rename_i h2
          have h1 : okSets m l 0 = true := by simpa using h1
          rw [okSets_iff] at h1
          have hb : ∀ k, Part (l.getD k 0) m ∧ (l.getD k 0).testBit k = false ∧ (l.getD k 0 ≠ 0 → m.testBit k = true) := by
            intro k
            by_cases hk : k < l.length
            · have := h1 k hk
              rw [Nat.zero_add, okSet_iff _ _ _ (hs k)] at this
              exact this
            · rw [getD_big l k (by omega)]
              exact ⟨fun i hi => by simp at hi, by simp, fun h => absurd rfl h⟩
          exact ⟨by omega, ⟨by omega, hl, hs, fun k => (hb k).1, fun k => (hb k).2.1, fun k => (hb k).2.2⟩, by show outIdx _ _ _ < 0; omega⟩
  · rintro ⟨h0, g, h2⟩
    have h1 : okSets m l 0 = true := by
      rw [okSets_iff]
      intro j hj
      rw [Nat.zero_add, okSet_iff _ _ _ (hs j)]
      exact ⟨g.sub j, g.self j, g.mem j⟩
    have := g.m16
    have h2 : ¬ 0 ≤ outIdx ((size m : Int) / 2 + 1) l 0 := by
      show ¬ 0 ≤ worst m l
      omega
    rw [if_neg (by omega), if_neg (by rw [h1]; decide), if_neg h2]
theorem leave_get (l : List Nat) (k j : Nat) (hl : l.length = 16) : (leaveL l k).getD j 0 = if j = k then 0 else out1 k (l.getD j 0) := by
  rw [leaveL_eq l k hl]
  by_cases hj : j < l.length
  · rw [List.getD_eq_getElem?_getD, List.getElem?_map, List.getElem?_set]
    by_cases hk : k = j
    · subst hk
      simp [hj, out1_zero]
    · rw [if_neg hk, if_neg (fun h => hk h.symm)]
      simp [hj]
  · rw [getD_big _ _ (by simp; omega), getD_big l j (by omega), out1_zero]
    split <;> rfl
theorem Good0.leave {m : Nat} {l : List Nat} (g : Good0 m l) {k : Nat} (hk : k < 16) : Good0 (diff m (2 ^ k)) (leaveL l k) := by
  have hm : m < 4294967296 := by have := g.m16; omega
  refine ⟨(diff_part m k hm (by omega)).lt (n := 16) g.m16, leaveL_len l k g.len, fun j => ?_, fun j => ?_, fun j => ?_, fun j => ?_⟩
  · rw [leave_get l k j g.len]; split
    · decide
    · exact diff_lt _ _
  · rw [leave_get l k j g.len]; split
    · intro i hi; simp at hi
    · intro i hi
      unfold out1 at hi
      rw [diff_at _ _ _ (g.lt j) (by omega)] at hi
      rw [diff_at _ _ _ hm (by omega)]
      simp at hi ⊢
      exact ⟨g.sub j i hi.1, hi.2⟩
  · rw [leave_get l k j g.len]; split
    · simp
    · unfold out1
      rw [diff_at _ _ _ (g.lt j) (by omega), g.self j]; rfl
  · rw [leave_get l k j g.len]; split
    · intro h; exact absurd rfl h
    · rename_i hjk
      intro h
      have h0 : l.getD j 0 ≠ 0 := by intro h0; rw [h0, out1_zero] at h; exact h rfl
      rw [diff_at _ _ _ hm (by omega), g.mem j h0]
      simp; omega
theorem outIdx_neg (t : Int) : ∀ (l : List Nat) (i : Nat), outIdx t l i < 0 → ∀ j, j < l.length → ¬ t ≤ (size (l.getD j 0) : Int)
  | [], _, _, j, hj => by simp at hj
  | x :: xs, i, h, j, hj => by
    unfold outIdx at h
    by_cases hx : t ≤ (size x : Int)
    · rw [if_pos hx] at h; omega
    · rw [if_neg hx] at h
      match j with
      | 0 => exact hx
      | j + 1 => exact outIdx_neg t xs (i + 1) h j (by simpa using hj)
theorem worst_neg {m : Nat} {l : List Nat} (h : worst m l < 0) (j : Nat) (hj : j < l.length) : ¬ (size m : Int) / 2 + 1 ≤ (size (l.getD j 0) : Int) := outIdx_neg _ l 0 h j hj
theorem worst_lt {m : Nat} {l : List Nat} (h : ∀ j, j < l.length → ¬ (size m : Int) / 2 + 1 ≤ (size (l.getD j 0) : Int)) : worst m l < 0 := by
  rcases Int.lt_or_le (worst m l) 0 with h0 | h0
  · exact h0
  · obtain ⟨k, _, hk, hs⟩ := worst_at h0
    have := h k hk
    simp [hk] at this
    omega
/-- What a purge leaves. -/
structure Purged (m : Nat) (l : List Nat) (r : Nat × List Nat) : Prop where
  good : Good0 r.1 r.2
  some_ : r.1 ≠ 0
  worst : worst r.1 r.2 < 0
  sub : Part r.1 m
  subs : ∀ j, Part (r.2.getD j 0) (l.getD j 0)
  gone : ∀ j, m.testBit j = true → r.1.testBit j = false → size r.1 < 2 * size (l.getD j 0)
theorem purged (f m : Nat) (l : List Nat) (g : Good0 m l) (h0 : m ≠ 0) (hf : nz l ≤ f) : Purged m l (purge f m l) := by
  induction f generalizing m l with
  | zero =>
    have hw : worst m l < 0 := by
      rcases Int.lt_or_le (worst m l) 0 with h | h
      · exact h
      · obtain ⟨k, _, hk, hs⟩ := worst_at h
        have := leave_less g.len hk hs
        omega
    exact ⟨g, h0, hw, .refl _, fun j => .refl _, fun j h1 h2 => by rw [show (purge 0 m l).1 = m from rfl, h1] at h2; cases h2⟩
  | succ f ih =>
    unfold purge
    split
    · rename_i hw
      obtain ⟨k, hk, hkl, hs⟩ := worst_at hw
      rw [hk, Int.toNat_natCast]
      have hk16 : k < 16 := by have := g.len; omega
      have hm : m < 4294967296 := by have := g.m16; omega
      have hgd : l.getD k 0 = l[k] := by simp [hkl]
      have hsub : Part l[k] (diff m (2 ^ k)) := by
        intro i hi
        rw [diff_at _ _ _ hm (by omega)]
        have h1 := g.sub k i (by rw [hgd]; exact hi)
        have h2 : k ≠ i := by
          rintro rfl
          have := g.self k
          rw [hgd, hi] at this; cases this
        simp [h1, h2]
      have hm0 : diff m (2 ^ k) ≠ 0 := by
        intro h
        rw [h] at hsub
        rw [hsub.zero, size_zero] at hs
        omega
      have less := leave_less g.len hkl hs
      have hp := ih _ _ (g.leave hk16) hm0 (by omega)
      generalize purge f (diff m (2 ^ k)) (leaveL l k) = r at hp
      have hpm := diff_part m k hm (by omega)
      have hls : ∀ j, Part ((leaveL l k).getD j 0) (l.getD j 0) := by
        intro j
        rw [leave_get l k j g.len]
        split
        · intro i hi; simp at hi
        · exact diff_part _ _ (g.lt j) (by omega)
      refine ⟨hp.good, hp.some_, hp.worst, hp.sub.trans hpm, fun j => (hp.subs j).trans (hls j), fun j h1 h2 => ?_⟩
      by_cases hj : j = k
      · subst hj
        have := (hp.sub.trans hpm).size
        rw [hgd]
        omega
      · have h3 : (diff m (2 ^ k)).testBit j = true := by
          rw [diff_at _ _ _ hm (by omega), h1]; simp; omega
        have h4 := hp.gone j h3 h2
        have h5 := (hls j).size
        omega
    · rename_i hw
      exact ⟨g, h0, by show Vote.worst m l < 0; omega, .refl _, fun j => .refl _, fun j h1 h2 => by rw [h1] at h2; cases h2⟩

/-- One vote more. -/
theorem set_get (l : List Nat) (q x j : Nat) (hq : q < l.length) : (l.set q x).getD j 0 = if j = q then x else l.getD j 0 := by
  rw [List.getD_eq_getElem?_getD, List.getElem?_set]
  by_cases h : q = j
  · subst h; simp [hq]
  · rw [if_neg h, if_neg (fun e => h e.symm)]; simp
theorem memb_nat {m k : Nat} (h : memb m (k : Int) = true) : k < 16 ∧ m.testBit k = true := by
  unfold memb at h
  simp at h
  exact ⟨by omega, h.2⟩
theorem Good0.vote {m : Nat} {l : List Nat} (g : Good0 m l) {p q : Nat} (hp : p < 16) (hq : q < 16) (h1 : m.testBit p = true) (h2 : m.testBit q = true) (hpq : p ≠ q) : Good0 m (l.set q (l.getD q 0 ||| 2 ^ p)) := by
  have hq' : q < l.length := by rw [g.len]; exact hq
  refine ⟨g.m16, by rw [List.length_set]; exact g.len, fun k => ?_, fun k => ?_, fun k => ?_, fun k => ?_⟩
  · rw [set_get _ _ _ _ hq']; split
    · exact lt_or (g.lt q) (one_lt (by omega))
    · exact g.lt k
  · rw [set_get _ _ _ _ hq']; split
    · intro i hi
      rw [Nat.testBit_or, Nat.testBit_two_pow] at hi
      simp at hi
      rcases hi with hi | rfl
      · exact g.sub q i (by simpa using hi)
      · exact h1
    · exact g.sub k
  · rw [set_get _ _ _ _ hq']; split
    · rename_i h; subst h
      rw [Nat.testBit_or, Nat.testBit_two_pow, g.self]; simp [hpq]
    · exact g.self k
  · rw [set_get _ _ _ _ hq']; split
    · rename_i h; subst h; intro _; exact h2
    · exact g.mem k
/-- A vote that was cast. -/
theorem cast_purged {m : Nat} {l : List Nat} (hl : l.length = 16) (hs : ∀ k, l.getD k 0 < 4294967296) (hc : check m l = 0) {p q : Nat} (h1 : memb m (p : Int) = true) (h2 : memb m (q : Int) = true) (hpq : p ≠ q) :
    Purged m (l.set q (l.getD q 0 ||| 2 ^ p)) (purge 16 m (l.set q (l.getD q 0 ||| 2 ^ p))) := by
  obtain ⟨h0, g, _⟩ := (check_zero hl hs).1 hc
  obtain ⟨hp, h1⟩ := memb_nat h1
  obtain ⟨hq, h2⟩ := memb_nat h2
  have g2 := g.vote hp hq h1 h2 hpq
  exact purged 16 m _ g2 h0 (by have := nz_le (l.set q (l.getD q 0 ||| 2 ^ p)); have := g2.len; omega)
theorem Purged.check {m : Nat} {l : List Nat} {r : Nat × List Nat} (h : Purged m l r) : check r.1 r.2 = 0 := (check_zero h.good.len h.good.lt).2 ⟨h.some_, h.good, h.worst⟩
/-- If the one who was voted against stays, all stay. -/
theorem purge_stays {m : Nat} {l : List Nat} (hl : l.length = 16) (hs : ∀ k, l.getD k 0 < 4294967296) (hc : check m l = 0) {p q : Nat} (h1 : memb m (p : Int) = true) (h2 : memb m (q : Int) = true) (hpq : p ≠ q)
    (hst : memb (purge 16 m (l.set q (l.getD q 0 ||| 2 ^ p))).1 (q : Int) = true) : purge 16 m (l.set q (l.getD q 0 ||| 2 ^ p)) = (m, l.set q (l.getD q 0 ||| 2 ^ p)) := by
  obtain ⟨h0, g, hw⟩ := (check_zero hl hs).1 hc
  obtain ⟨hp, h1⟩ := memb_nat h1
  obtain ⟨hq, h2⟩ := memb_nat h2
  have g2 := g.vote hp hq h1 h2 hpq
  have hq' : q < l.length := by omega
  have hst := (memb_nat hst).2
  have hset := set_get l q (l.getD q 0 ||| 2 ^ p)
  generalize l.set q (l.getD q 0 ||| 2 ^ p) = l0 at *
  unfold purge
  split
  · rename_i hx
    exfalso
    obtain ⟨k, hk, hkl, hs⟩ := worst_at hx
    have hkq : k = q := by
      rcases Nat.decEq k q with h | h
      · have h3 := hset k hq'
        rw [if_neg h] at h3
        have h4 := worst_neg hw k (by have := g2.len; omega)
        have h5 : l0.getD k 0 = l0[k] := by simp [hkl]
        rw [← h3, h5] at h4
        exact absurd hs h4
      · exact h
    subst hkq
    unfold purge at hst
    rw [if_pos hx, hk, Int.toNat_natCast] at hst
    have hm : m < 4294967296 := by have := g.m16; omega
    have hgd : l0.getD k 0 = l0[k] := by simp [hkl]
    have less := leave_less g2.len hkl hs
    have hle := nz_le l0
    have hlen := g2.len
    have hsub : Part l0[k] (diff m (2 ^ k)) := by
      intro i hi
      rw [diff_at _ _ _ hm (by omega)]
      have h1 := g2.sub k i (by rw [hgd]; exact hi)
      have h2 : k ≠ i := by
        rintro rfl
        have := g2.self k
        rw [hgd, hi] at this; cases this
      simp [h1, h2]
    have hm0 : diff m (2 ^ k) ≠ 0 := by
      intro h
      rw [h] at hsub
      rw [hsub.zero, size_zero] at hs
      omega
    have hpg := purged 15 _ _ (g2.leave hq) hm0 (by omega)
    have := hpg.sub k hst
    rw [diff_at _ _ _ hm (by omega)] at this
    simp at this
  · rfl
/-- A vote taken back. -/
theorem take_back {l : List Nat} (hl : l.length = 16) (hs : ∀ k, l.getD k 0 < 4294967296) {p q : Nat} (hp : p < 16) (hq : q < 16) (hb : (l.getD q 0).testBit p = false) :
    (l.set q (l.getD q 0 ||| 2 ^ p)).set q (diff (l.getD q 0 ||| 2 ^ p) (2 ^ p)) = l := by
  have hx : diff (l.getD q 0 ||| 2 ^ p) (2 ^ p) = l.getD q 0 := by
    refine eq_of_bits fun i => ?_
    rw [diff_at _ _ _ (lt_or (hs q) (one_lt (by omega))) (by omega), Nat.testBit_or, Nat.testBit_two_pow]
    by_cases h : p = i
    · subst h; rw [hb]; simp
    · simp [h]
  rw [hx, List.set_set]
  apply List.ext_getElem
  · simp
  · intro i h1 h2
    rw [List.getElem_set]
    split
    · rename_i h; subst h; simp [hl, hq]
    · rfl
end Go.Proofs.Ytclobldldddjnaa.Vote
