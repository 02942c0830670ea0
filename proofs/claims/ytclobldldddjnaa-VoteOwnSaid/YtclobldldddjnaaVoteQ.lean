/-
  Votes that came in; what Cast and Back answer, case by case; SameVotes of the same.
-/
import Derived.Test.YtclobldldddjnaaVoteH
import Derived.Test.YtclobldldddjnaaVoteP
import Derived.Test.YtclobldldddjnaaOpen
set_option linter.unusedVariables false
namespace Go.Proofs.Ytclobldldddjnaa.Vote
open Go.RowKit Go.Proofs.Ytclobldldddjnaa Go.Proofs.Ytclobldldddjnaa.Bv

def shVotes : Sh := .cons (.int .u32) (.cons (.slice (.int .u32) 4) .nil)
/-- A row of sets that came in. -/
structure VRow (w : World) (A : Option Addr) (n c : Nat) (l : List Nat) : Prop where
  le : n ≤ c
  reach : c * 4 ≤ 140737488351232
  len : l.length = c
  at_ : 0 < c → ∃ b o, A = some ⟨b, o, none⟩ ∧ Sets w b o l
  none_ : A = none → c = 0
theorem VRow.later {w w1 : World} {A : Option Addr} {n c : Nat} {l : List Nat} (h : VRow w A n c l) (hb : Below w.heap.size w w1) : VRow w1 A n c l :=
  ⟨h.le, h.reach, h.len, fun h0 => by obtain ⟨b, o, e, hs⟩ := h.at_ h0; exact ⟨b, o, e, hs.later hb⟩, h.none_⟩
theorem vrow_open {w : World} {v : Value} (h : (Sh.slice (.int .u32) 4).Ok w [v]) : ∃ A n c l, v = .slice A n c ∧ VRow w A n c l ∧ (A = none → v = .slice none 0 0) := by
  rcases h with h | ⟨a, len, cap, h, hl, hm, hr, hi⟩
  · simp at h
    subst h
    exact ⟨none, 0, 0, [], rfl, ⟨Nat.le_refl _, by decide, rfl, fun h => absurd h (by decide), fun _ => rfl⟩, fun _ => rfl⟩
  · simp at h
    subst h
    have hi2 : ∀ i, i < cap → ∃ x : Nat, w.cell? (a.add i) = some (.int .u32 (x : Int)) ∧ x < 4294967296 := by
      intro i hic
      obtain ⟨es, hes, hc, n, rfl, hwf⟩ := hi i hic
      simp [Lit.wf, IntKind.min, IntKind.max, IntKind.signed, IntKind.bits] at hwf
      obtain ⟨x, rfl⟩ := Int.eq_ofNat_of_zero_le hwf.1
      have := hc 0 _ rfl
      simp only [Sh.size, Nat.mul_one, Nat.add_zero] at this
      exact ⟨x, this, by omega⟩
    obtain ⟨l, hll, hlx⟩ := list_of cap _ hi2
    refine ⟨some a, len, cap, l, rfl, ⟨hl, hr, hll, fun h0 => ?_, fun h => by cases h⟩, fun h => by cases h⟩
    obtain ⟨b, off, spot⟩ := a
    have hc := (hlx 0 (by omega)).1
    have hspot : spot = none := by simpa [Addr.add] using World.cell?_spot hc
    subst hspot
    refine ⟨b, off, rfl, fun k hk => ?_⟩
    have := hlx k hk
    rw [addAt] at this
    exact this
theorem votes_open {w : World} {cs : Array Value} (h : shVotes.Ok w cs.toList) : ∃ (m : Nat) (A : Option Addr) (n c : Nat) (l : List Nat), cs = #[.int .u32 (m : Int), .slice A n c] ∧ m < 4294967296 ∧ VRow w A n c l := by
  obtain ⟨xs, ys, h, h1, h2, ⟨n, rfl, hwf⟩, xs2, ys2, rfl, h3, h4, h5, h6⟩ := h
  rw [show ys2 = [] from h6] at h
  obtain ⟨v, rfl⟩ : ∃ v, xs2 = [v] := by
    match xs2, h3 with
    | [v], _ => exact ⟨v, rfl⟩
  obtain ⟨A, k, c, l, rfl, hv, _⟩ := vrow_open h5
  simp [Lit.wf, IntKind.min, IntKind.max, IntKind.signed, IntKind.bits] at hwf
  obtain ⟨m, rfl⟩ := Int.eq_ofNat_of_zero_le hwf.1
  refine ⟨m, A, k, c, l, ?_, by omega, hv⟩
  apply Array.toList_inj.1
  rw [h]; rfl
/-- Where sixteen sets lie. -/
theorem VRow.sixteen {w : World} {A : Option Addr} {c : Nat} {l : List Nat} (h : VRow w A 16 c l) : ∃ b o, A = some ⟨b, o, none⟩ ∧ Sets w b o (l.take 16) ∧ (l.take 16).length = 16 := by
  obtain ⟨b, o, e, hs⟩ := h.at_ (by have := h.le; omega)
  have hl : (l.take 16).length = 16 := by rw [List.length_take, h.len]; have := h.le; omega
  refine ⟨b, o, e, fun k hk => ?_, hl⟩
  have := hs k (by have := h.len; have := h.le; omega)
  rw [List.getElem_take]
  exact this
theorem Sets.lt {w : World} {b o : Nat} {l : List Nat} (h : Sets w b o l) (k : Nat) : l.getD k 0 < 4294967296 := by
  by_cases hk : k < l.length
  · simp [hk]; exact (h k hk).2
  · rw [getD_big l k (by omega)]; decide
/-- What is asked of a vote that can be cast. -/
structure Can (m : Nat) (l : List Nat) (p q : Nat) : Prop where
  p16 : p < 16
  q16 : q < 16
  len : l.length = 16
  check : check m l = 0
  by_ : memb m (p : Int) = true
  at_ : memb m (q : Int) = true
theorem says {w : World} {m : Nat} (hm : m < 4294967296) {A : Option Addr} {n c : Nat} {l : List Nat} (h : VRow w A n c l) :
    (n ≠ 16 ∧ ∃ k, k ≠ 0 ∧ Says w m A n c k) ∨ (n = 16 ∧ ∃ b o, A = some ⟨b, o, none⟩ ∧ Sets w b o (l.take 16) ∧ (l.take 16).length = 16 ∧ Says w m A n c (check m (l.take 16))) := by
  by_cases hn : n = 16
  · subst hn
    obtain ⟨b, o, rfl, hs, hl⟩ := h.sixteen
    exact .inr ⟨rfl, b, o, rfl, hs, hl, fun w1 hb => check_any m hm _ b o c w1 (hs.later hb) hl⟩
  · refine .inl ⟨hn, if m = 0 ∨ 65536 ≤ m then 1 else 4, by split <;> decide, fun w1 hb => check_len m hm A n c hn w1⟩
theorem memb_int {m : Nat} {k : Int} (h : memb m k = true) : ∃ j : Nat, k = (j : Int) ∧ j < 16 := by
  unfold memb at h
  simp at h
  exact ⟨k.toNat, by omega, by omega⟩
/-- What Check says of votes whose sets are L, if they are sixteen. -/
def SaysOf (w : World) (m : Nat) (A : Option Addr) (n c : Nat) (L : List Nat) : Prop :=
  (n ≠ 16 ∧ ∃ k, k ≠ 0 ∧ Says w m A n c k) ∨ (n = 16 ∧ ∃ b o, A = some ⟨b, o, none⟩ ∧ Sets w b o L ∧ L.length = 16 ∧ Says w m A n c (check m L))
theorem saysOf_row {w : World} {m : Nat} (hm : m < 4294967296) {b o c : Nat} {L : List Nat} (h : Sets w b o L) (hl : L.length = 16) : SaysOf w m (some ⟨b, o, none⟩) 16 c L :=
  .inr ⟨rfl, b, o, rfl, h, hl, fun w1 hb => check_any m hm L b o c w1 (h.later hb) hl⟩
theorem cast_cases_of {w : World} {m : Nat} (hm : m < 4294967296) {A : Option Addr} {n c : Nat} {L : List Nat} (h : SaysOf w m A n c L) (a b : Int) :
    (∃ k, k ≠ 0 ∧ ∀ w1, Below w.heap.size w w1 → Calls Try.prog 26 #[.agg #[.int .u32 (m : Int), .slice A n c], .int .i64 a, .int .i64 b] w1 (Nay k w1)) ∨
    (∃ p q g o : Nat, a = (p : Int) ∧ b = (q : Int) ∧ n = 16 ∧ A = some ⟨g, o, none⟩ ∧ Sets w g o L ∧ Can m L p q ∧ p ≠ q ∧ (L.getD q 0).testBit p = false) := by
  have later : ∀ {k : Int}, Says w m A n c k → ∀ w1, Below w.heap.size w w1 → Says w1 m A n c k := fun hs w1 hb w2 hb2 => hs w2 (hb.trans (hb2.mono hb.size))
  rcases h with ⟨_, k, hk, hs⟩ | ⟨rfl, g, o, rfl, hst, hl, hs⟩
  · exact .inl ⟨k, hk, fun w1 hb => cast_nay m hm A n c a b w1 k (.inl ⟨hk, later hs w1 hb⟩)⟩
  · by_cases hc : check m L = 0
    · rw [hc] at hs
      by_cases h1 : memb m a = true
      · by_cases h2 : memb m b = true
        · by_cases h3 : a = b
          · exact .inl ⟨1, by decide, fun w1 hb => cast_nay m hm _ _ c a b w1 1 (.inr (.inr (.inr (.inl ⟨later hs w1 hb, h1, h2, h3, rfl⟩))))⟩
          · obtain ⟨p, rfl, hp⟩ := memb_int h1
            obtain ⟨q, rfl, hq⟩ := memb_int h2
            cases hbit : (L.getD q 0).testBit p with
            | true =>
              refine .inl ⟨8, by decide, fun w1 hb => cast_nay m hm _ _ c _ _ w1 8 (.inr (.inr (.inr (.inr ⟨later hs w1 hb, h1, h2, h3, rfl, g, o, p, q, L.getD q 0, rfl, rfl, rfl, hp, hq, rfl, ?_, hst.lt q, hbit⟩))))⟩
              have := ((hst.later hb) q (by omega)).1
              rw [this]
              have hql : q < L.length := by omega
              simp [hql]
            | false => exact .inr ⟨p, q, g, o, rfl, rfl, rfl, rfl, hst, ⟨hp, hq, hl, hc, h1, h2⟩, fun e => h3 (by rw [e]), hbit⟩
        · exact .inl ⟨7, by decide, fun w1 hb => cast_nay m hm _ _ c a b w1 7 (.inr (.inr (.inl ⟨later hs w1 hb, h1, by simpa using h2, rfl⟩)))⟩
      · exact .inl ⟨7, by decide, fun w1 hb => cast_nay m hm _ _ c a b w1 7 (.inr (.inl ⟨later hs w1 hb, by simpa using h1, rfl⟩))⟩
    · exact .inl ⟨_, hc, fun w1 hb => cast_nay m hm _ _ c a b w1 _ (.inl ⟨hc, later hs w1 hb⟩)⟩
theorem cast_cases {w : World} {m : Nat} (hm : m < 4294967296) {A : Option Addr} {n c : Nat} {l : List Nat} (h : VRow w A n c l) (a b : Int) :
    (∃ k, k ≠ 0 ∧ ∀ w1, Below w.heap.size w w1 → Calls Try.prog 26 #[.agg #[.int .u32 (m : Int), .slice A n c], .int .i64 a, .int .i64 b] w1 (Nay k w1)) ∨
    (∃ p q g o : Nat, a = (p : Int) ∧ b = (q : Int) ∧ n = 16 ∧ A = some ⟨g, o, none⟩ ∧ Sets w g o (l.take 16) ∧ Can m (l.take 16) p q ∧ p ≠ q ∧ ((l.take 16).getD q 0).testBit p = false) :=
  cast_cases_of hm (says hm h) a b
theorem back_cases_of {w : World} {m : Nat} (hm : m < 4294967296) {A : Option Addr} {n c : Nat} {L : List Nat} (h : SaysOf w m A n c L) (a b : Int) :
    (∃ k, k ≠ 0 ∧ (n = 16 → check m L = 0 → k = 7) ∧ (¬ (∃ p q : Nat, a = (p : Int) ∧ b = (q : Int) ∧ n = 16 ∧ Can m L p q ∧ (L.getD q 0).testBit p = true)) ∧ ∀ w1, Below w.heap.size w w1 → Calls Try.prog 29 #[.agg #[.int .u32 (m : Int), .slice A n c], .int .i64 a, .int .i64 b] w1 (BackNay k w1)) ∨
    (∃ p q g o : Nat, a = (p : Int) ∧ b = (q : Int) ∧ n = 16 ∧ A = some ⟨g, o, none⟩ ∧ Sets w g o L ∧ Can m L p q ∧ (L.getD q 0).testBit p = true) := by
  have later : ∀ {k : Int}, Says w m A n c k → ∀ w1, Below w.heap.size w w1 → Says w1 m A n c k := fun hs w1 hb w2 hb2 => hs w2 (hb.trans (hb2.mono hb.size))
  rcases h with ⟨hn, k, hk, hs⟩ | ⟨rfl, g, o, rfl, hst, hl, hs⟩
  · exact .inl ⟨k, hk, fun e => absurd e hn, fun ⟨_, _, _, _, e, _⟩ => hn e, fun w1 hb => back_nay m hm A n c a b w1 k (.inl ⟨hk, later hs w1 hb⟩)⟩
  · by_cases hc : check m L = 0
    · rw [hc] at hs
      by_cases h1 : memb m a = true
      · by_cases h2 : memb m b = true
        · obtain ⟨p, rfl, hp⟩ := memb_int h1
          obtain ⟨q, rfl, hq⟩ := memb_int h2
          cases hbit : (L.getD q 0).testBit p with
          | false =>
            refine .inl ⟨7, by decide, fun _ _ => rfl, fun ⟨p', q', e1, e2, _, _, e3⟩ => ?_, fun w1 hb => back_nay m hm _ _ c _ _ w1 7 (.inr (.inr (.inr ⟨later hs w1 hb, h1, h2, rfl, g, o, p, q, L.getD q 0, rfl, rfl, rfl, hp, hq, rfl, ?_, hst.lt q, hbit⟩)))⟩
            · have e1 : p = p' := by omega
              have e2 : q = q' := by omega
              subst e1; subst e2
              rw [hbit] at e3; cases e3
            · have := ((hst.later hb) q (by omega)).1
              rw [this]
              have hql : q < L.length := by omega
              simp [hql]
          | true => exact .inr ⟨p, q, g, o, rfl, rfl, rfl, rfl, hst, ⟨hp, hq, hl, hc, h1, h2⟩, hbit⟩
        · exact .inl ⟨7, by decide, fun _ _ => rfl, fun ⟨p', q', e1, e2, _, e3, _⟩ => h2 (by rw [e2]; exact e3.at_), fun w1 hb => back_nay m hm _ _ c a b w1 7 (.inr (.inr (.inl ⟨later hs w1 hb, h1, by simpa using h2, rfl⟩)))⟩
      · exact .inl ⟨7, by decide, fun _ _ => rfl, fun ⟨p', q', e1, e2, _, e3, _⟩ => h1 (by rw [e1]; exact e3.by_), fun w1 hb => back_nay m hm _ _ c a b w1 7 (.inr (.inl ⟨later hs w1 hb, by simpa using h1, rfl⟩))⟩
    · exact .inl ⟨_, hc, fun _ e => absurd e hc, fun ⟨_, _, _, _, _, e, _⟩ => hc e.check, fun w1 hb => back_nay m hm _ _ c a b w1 _ (.inl ⟨hc, later hs w1 hb⟩)⟩

theorem back_cases {w : World} {m : Nat} (hm : m < 4294967296) {A : Option Addr} {n c : Nat} {l : List Nat} (h : VRow w A n c l) (a b : Int) :
    (∃ k, k ≠ 0 ∧ (n = 16 → check m (l.take 16) = 0 → k = 7) ∧ (¬ (∃ p q : Nat, a = (p : Int) ∧ b = (q : Int) ∧ n = 16 ∧ Can m (l.take 16) p q ∧ ((l.take 16).getD q 0).testBit p = true)) ∧ ∀ w1, Below w.heap.size w w1 → Calls Try.prog 29 #[.agg #[.int .u32 (m : Int), .slice A n c], .int .i64 a, .int .i64 b] w1 (BackNay k w1)) ∨
    (∃ p q g o : Nat, a = (p : Int) ∧ b = (q : Int) ∧ n = 16 ∧ A = some ⟨g, o, none⟩ ∧ Sets w g o (l.take 16) ∧ Can m (l.take 16) p q ∧ ((l.take 16).getD q 0).testBit p = true) :=
  back_cases_of hm (says hm h) a b
theorem row_of {w : World} {base r c : Nat} {l : List Nat} (h : w.ownsRow base 42 1 (.slice (some ⟨r, 0, none⟩) 16 c) 16 (cellsU l)) (hn : l.length = 16) (hs : ∀ k, l.getD k 0 < 4294967296) : Sets w r 0 l :=
  fun k hk => ⟨by rw [Nat.zero_add, h.cellAt k (by omega), cellsU_get l k hk], by have := hs k; simp [hk] at this; exact this⟩
theorem allEq_same {α : Type} (eq : α → α → Bool) (h : ∀ x, eq x x = true) : ∀ l : List α, Lib.allEq eq l l = true
  | [] => rfl
  | x :: xs => by rw [Lib.allEq, h, allEq_same eq h xs]; rfl
theorem equal_same (l : List Nat) (b1 o1 c b2 o2 d n : Nat) (hn : l.length = n) (hn2 : n ≤ 9223372036854775807) (w : World) (h1 : Sets w b1 o1 l) (h2 : Sets w b2 o2 l) :
    Calls Try.prog 32 #[.slice (some ⟨b1, o1, none⟩) n c, .slice (some ⟨b2, o2, none⟩) n d] w fun e w' => e = .returned (.bool true) ∧ ∃ q, w' = w.drewN q := by
  have hc : ∀ (b o : Nat), Sets w b o l → ∀ j, j < (l.map Int.ofNat).length → w.cell? ⟨b, o + j, none⟩ = some (.int .u32 (l.map Int.ofNat)[j]!) := by
    intro b o h j hj
    rw [List.length_map] at hj
    rw [(h j hj).1]
    simp [hj]
  have h := Try.slices_Equal_f32 (Value.int .u32) (fun x y => x == y) (NeqAt.int _ _ _) b1 o1 n c b2 o2 n d (l.map Int.ofNat) (l.map Int.ofNat) w (by simp [hn]) (by simp [hn]) hn2 hn2 (hc b1 o1 h1) (hc b2 o2 h2)
  rw [allEq_same _ (fun x => by simp)] at h
  exact h
theorem same_any (m : Nat) (l : List Nat) (hl : l.length = 16) (b1 o1 c b2 o2 d : Nat) (w : World) (h1 : Sets w b1 o1 l) (h2 : Sets w b2 o2 l) :
    Calls Try.prog 30 #[.agg #[.int .u32 (m : Int), .slice (some ⟨b1, o1, none⟩) 16 c], .agg #[.int .u32 (m : Int), .slice (some ⟨b2, o2, none⟩) 16 d]] w fun e w' => e = .returned (.bool true) ∧ Below w.heap.size w w' := by
  have hB := Box.new w [.int .u32 (m : Int), .slice (some ⟨b1, o1, none⟩) 16 c] [.int .u32 (m : Int), .slice (some ⟨b2, o2, none⟩) 16 d]
  have h1 := h1.later hB.below
  have h2 := h2.later hB.below
  have hb := hB.below
  clear hB
  have hm : ((m : Int) == (m : Int)) = true := by simp
  go_enter Try.func30, Try.ntmps30
  go_wp2_with fail
  refine (equal_same l b1 o1 c b2 o2 d 16 hl (by decide) _ h1 h2).mono ?_
  rintro e w1 ⟨rfl, q, rfl⟩
  go_wp2_with fail
  go_ret
  exact ⟨rfl, below_drewN hb q⟩
end Go.Proofs.Ytclobldldddjnaa.Vote
