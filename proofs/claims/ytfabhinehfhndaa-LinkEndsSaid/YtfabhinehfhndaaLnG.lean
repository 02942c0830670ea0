/-
  What a right link is, and that one event leaves it so: in plain Lean.
-/
import Derived.Test.YtfabhinehfhndaaLnO
set_option linter.unusedVariables false
set_option linter.unusedSimpArgs false
namespace Go.Proofs.Ytfabhinehfhndaa
open Go.RowKit

/-- A right link. -/
structure GL (L : Lnk) : Prop where
  w1 : 1 ≤ L.window
  w2 : L.window ≤ 16
  s : L.sent.length ≤ 200
  wl : L.way.length ≤ 1000
  kl : L.acks.length ≤ 1000
  gs : L.got.length ≤ L.sent.length
  ge : L.got = L.sent.take L.got.length
  b0 : 0 ≤ L.base
  bg : L.base ≤ (L.got.length : Int)
  hn : (L.got.length : Int) + (L.held.length : Int) ≤ L.next
  nb : L.next ≤ L.base + L.window
  ns : L.next ≤ (L.sent.length : Int)
  wa : ∀ y ∈ L.way, 0 ≤ y ∧ y ≤ L.next - 1
  ka : ∀ y ∈ L.acks, 0 ≤ y ∧ y ≤ (L.got.length : Int)
  ha : ∀ y ∈ L.held, (L.got.length : Int) + 1 ≤ y ∧ y ≤ L.next - 1
  inc : L.held.Pairwise (· < ·)
theorem pw_inc {l : List Int} : incB l = true ↔ l.Pairwise (· < ·) := by
  constructor
  · intro h
    have h := of_decide_eq_true h
    rw [List.pairwise_iff_getElem]
    intro i j hi hj hij
    have mono : ∀ d, i + 1 + d < l.length → l.getD i 0 < l.getD (i + 1 + d) 0 := by
      intro d
      induction d with
      | zero => intro hd; exact h i (by omega)
      | succ d ih => intro hd; have := h (i + 1 + d) (by omega); have := ih (by omega); rw [show i + 1 + (d + 1) = i + 1 + d + 1 by omega]; omega
    have := mono (j - (i + 1)) (by omega)
    rw [show i + 1 + (j - (i + 1)) = j by omega, getD_dd hi, getD_dd hj] at this
    exact this
  · intro h
    rw [List.pairwise_iff_getElem] at h
    refine decide_eq_true fun i hi => ?_
    rw [getD_dd (by omega), getD_dd (by omega)]
    exact h i (i + 1) (by omega) (by omega) (by omega)
theorem all_in {l : List Int} {lo hi : Int} : l.all (fun n => inB n lo hi) = true ↔ ∀ y ∈ l, lo ≤ y ∧ y ≤ hi := by
  rw [List.all_eq_true]
  exact ⟨fun h y hy => inB_true (h y hy), fun h y hy => inB_mk (h y hy).1 (h y hy).2⟩
theorem GL.of {L : Lnk} (h : L.chk = 0) : GL L := by
  obtain ⟨n1, n2, n3, n4, n5, n6, n7, n8, n9, n10, n11⟩ := Lnk.num h
  obtain ⟨_, _, h3⟩ := Lnk.chk_zero h
  obtain ⟨g1, g2, g3, g4, g5, g6, g7, g8, g9⟩ := Lnk.good_parts h3
  exact ⟨n1, n2, n6, n7, n8, n5, g2, n3, n4, n9, n10, n11, all_in.1 g6, all_in.1 g7, all_in.1 g8, pw_inc.1 g9⟩
theorem GL.chk {L : Lnk} (h : GL L) : L.chk = 0 := by
  obtain ⟨w1, w2, s, wl, kl, gs, ge, b0, bg, hn, nb, ns, wa, ka, ha, inc⟩ := h
  refine Lnk.chk_ok (inB_mk w1 w2) ?_ (Lnk.good_true (decide_eq_true (by omega)) (decide_eq_true ge) (inB_mk b0 bg) (decide_eq_true (by omega)) (inB_mk hn (by omega)) (all_in.2 wa) (all_in.2 ka) (all_in.2 ha) (pw_inc.2 inc))
  unfold Lnk.large
  simp only [Bool.or_eq_false_iff, decide_eq_false_iff_not]
  omega
section
variable {L : Lnk} {x : Evt} {n : Int}
theorem sendN_mem {b : Int} {j : Nat} {y : Int} (h : y ∈ sendN b j) : b ≤ y ∧ y < b + (j : Int) := by
  induction j with
  | zero => simp [sendN] at h
  | succ j ih =>
    rw [sendN] at h
    rcases List.mem_append.1 h with h | h
    · have := ih h; omega
    · have := List.mem_singleton.1 h; omega
theorem GL.send_ (h : GL L) (h2 : L.send.2 = 0) : GL L.send.1 ∧ L.send.1.got = L.got ∧ L.send.1.sent = L.sent ∧ L.send.1.base = L.base ∧ L.next ≤ L.send.1.next := by
  obtain ⟨w1, w2, s, wl, kl, gs, ge, b0, bg, hn, nb, ns, wa, ka, ha, inc⟩ := h
  unfold Lnk.send at h2 ⊢
  split at h2
  · simp at h2
  · rename_i hc
    rw [if_neg hc]
    refine ⟨⟨w1, w2, s, ?_, kl, gs, ge, b0, bg, ?_, ?_, ?_, ?_, ka, ?_, inc⟩, rfl, rfl, rfl, ?_⟩
    · show (L.way ++ _).length ≤ 1000; rw [List.length_append, sendN_len]; omega
    · dsimp only; omega
    · dsimp only; omega
    · dsimp only; omega
    · intro y hy
      show 0 ≤ y ∧ y ≤ min (L.base + L.window) (L.sent.length : Int) - 1
      rcases List.mem_append.1 hy with hy | hy
      · have := wa y hy; omega
      · have := sendN_mem hy; omega
    · intro y hy
      have := ha y hy
      dsimp only; omega
    · dsimp only; omega
theorem GL.way_ (h : GL L) (i : Int) (k : Bool) : GL { L with way := tkL L.way i k } := by
  obtain ⟨w1, w2, s, wl, kl, gs, ge, b0, bg, hn, nb, ns, wa, ka, ha, inc⟩ := h
  exact ⟨w1, w2, s, Nat.le_trans (tkL_len _ _ _) wl, kl, gs, ge, b0, bg, hn, nb, ns, fun y hy => wa y (tkL_mem hy), ka, ha, inc⟩
theorem GL.acks_ (h : GL L) (i : Int) (k : Bool) : GL { L with acks := tkL L.acks i k } := by
  obtain ⟨w1, w2, s, wl, kl, gs, ge, b0, bg, hn, nb, ns, wa, ka, ha, inc⟩ := h
  exact ⟨w1, w2, s, wl, Nat.le_trans (tkL_len _ _ _) kl, gs, ge, b0, bg, hn, nb, ns, wa, fun y hy => ka y (tkL_mem hy), ha, inc⟩
theorem GL.hear (h : GL L) (i : Int) (k : Bool) (hn' : 0 ≤ n ∧ n ≤ (L.got.length : Int)) : GL { L with acks := tkL L.acks i k, base := max L.base n, next := max L.next (max L.base n) } := by
  have h := h.acks_ i k
  obtain ⟨w1, w2, s, wl, kl, gs, ge, b0, bg, hn, nb, ns, wa, ka, ha, inc⟩ := h
  simp only at *
  have e : max L.next (max L.base n) = L.next := by omega
  rw [e]
  exact ⟨w1, w2, s, wl, kl, gs, ge, by dsimp only; omega, by dsimp only; omega, hn, by dsimp only; omega, ns, wa, ka, ha, inc⟩
end
section
variable {L : Lnk} {x : Evt} {n : Int}
theorem insL_lt {l : List Int} {y n : Int} (h : y < n) : insL (y :: l) n = y :: insL l n := by
  unfold insL binI
  rw [List.countP_cons_of_pos (by simpa using h)]
  simp
theorem countP_zero {l : List Int} {n : Int} (h : ∀ y ∈ l, n ≤ y) : binI l n = 0 := by
  unfold binI
  rw [List.countP_eq_zero]
  intro y hy
  have := h y hy
  simp; omega
theorem insL_ge {l : List Int} {y n : Int} (h : ¬ y < n) (hl : (y :: l).Pairwise (· < ·)) : insL (y :: l) n = n :: y :: l := by
  have := countP_zero (l := y :: l) (n := n) (fun z hz => by
    rcases List.mem_cons.1 hz with rfl | hz
    · omega
    · have := (List.pairwise_cons.1 hl).1 z hz; omega)
  unfold insL; rw [this]; rfl
theorem insL_mem {l : List Int} {n y : Int} : y ∈ insL l n ↔ y = n ∨ y ∈ l := by
  unfold insL
  rw [List.mem_append, List.mem_cons]
  constructor
  · rintro (h | rfl | h)
    · exact .inr (List.mem_of_mem_take h)
    · exact .inl rfl
    · exact .inr (List.mem_of_mem_drop h)
  · rintro (rfl | h)
    · exact .inr (.inl rfl)
    · rw [← List.take_append_drop (binI l n) l] at h
      rcases List.mem_append.1 h with h | h
      · exact .inl h
      · exact .inr (.inr h)
theorem insL_len (l : List Int) (n : Int) : (insL l n).length = l.length + 1 := ins_len l n (binI_le l n)
theorem insL_pw {n : Int} : ∀ {l : List Int}, l.Pairwise (· < ·) → ¬ n ∈ l → (insL l n).Pairwise (· < ·)
  | [], _, _ => by simp [insL, binI]
  | y :: l, h, hn => by
    have hy : n ≠ y := fun e => hn (by rw [e]; exact List.mem_cons_self)
    by_cases hlt : y < n
    · rw [insL_lt hlt, List.pairwise_cons]
      refine ⟨fun z hz => ?_, insL_pw (List.pairwise_cons.1 h).2 fun hm => hn (List.mem_cons_of_mem _ hm)⟩
      rcases insL_mem.1 hz with rfl | hz
      · exact hlt
      · exact (List.pairwise_cons.1 h).1 z hz
    · rw [insL_ge hlt h, List.pairwise_cons]
      refine ⟨fun z hz => ?_, h⟩
      rcases List.mem_cons.1 hz with rfl | hz
      · omega
      · have := (List.pairwise_cons.1 h).1 z hz; omega
theorem pw_len : ∀ {l : List Int} {lo hi : Int}, l.Pairwise (· < ·) → (∀ y ∈ l, lo ≤ y ∧ y ≤ hi) → (l.length : Int) ≤ max 0 (hi - lo + 1)
  | [], _, _, _, _ => by simp only [List.length_nil]; omega
  | y :: l, lo, hi, h, hb => by
    have h1 := hb y List.mem_cons_self
    have := pw_len (lo := y + 1) (hi := hi) (List.pairwise_cons.1 h).2 fun z hz => ⟨by have := (List.pairwise_cons.1 h).1 z hz; omega, (hb z (List.mem_cons_of_mem _ hz)).2⟩
    rw [List.length_cons]; omega
/-- What the filling leaves. -/
theorem fill_ok {S : List ByteArray} : ∀ {r : List Int} {G : List ByteArray}, G = S.take G.length → G.length ≤ S.length → r.Pairwise (· < ·) → (∀ y ∈ r, (G.length : Int) ≤ y ∧ y < (S.length : Int)) →
    (fillL S G r).1 = S.take (fillL S G r).1.length ∧ (fillL S G r).1.length ≤ S.length ∧ (fillL S G r).2.Pairwise (· < ·) ∧ (∀ y ∈ (fillL S G r).2, ((fillL S G r).1.length : Int) + 1 ≤ y ∧ y ∈ r) ∧ (fillL S G r).1.length + (fillL S G r).2.length = G.length + r.length ∧ G.length ≤ (fillL S G r).1.length ∧ (fillL S G r).1.take G.length = G
  | [], G, h1, h2, _, _ => by
    unfold fillL
    exact ⟨h1, h2, List.Pairwise.nil, by simp, rfl, Nat.le_refl _, List.take_of_length_le (Nat.le_refl _)⟩
  | h :: r, G, h1, h2, h3, h4 => by
    have hh := h4 h List.mem_cons_self
    unfold fillL
    by_cases e : h = (G.length : Int)
    · rw [if_pos e]
      have hl : (G ++ [S.getD h.toNat ByteArray.empty]).length = G.length + 1 := by rw [List.length_append, List.length_singleton]
      obtain ⟨a1, a2, a3, a4, a5, a6, a7⟩ := fill_ok (S := S) (r := r) (G := G ++ [S.getD h.toNat ByteArray.empty]) (by
        rw [hl, take_succ_dd (d := ByteArray.empty) (by omega), ← h1, show h.toNat = G.length by omega]) (by omega) (List.pairwise_cons.1 h3).2 (fun y hy => ⟨by have := (List.pairwise_cons.1 h3).1 y hy; omega, (h4 y (List.mem_cons_of_mem _ hy)).2⟩)
      refine ⟨a1, a2, a3, fun y hy => ⟨(a4 y hy).1, List.mem_cons_of_mem _ (a4 y hy).2⟩, by rw [a5, hl, List.length_cons]; omega, by omega, ?_⟩
      have := congrArg (List.take G.length) a7
      rw [List.take_take, Nat.min_eq_left (by omega), List.take_append_of_le_length (Nat.le_refl _), List.take_of_length_le (Nat.le_refl _)] at this
      exact this
    · rw [if_neg e]
      refine ⟨h1, h2, h3, fun y hy => ⟨?_, hy⟩, rfl, Nat.le_refl _, List.take_of_length_le (Nat.le_refl _)⟩
      rcases List.mem_cons.1 hy with rfl | hy
      · show (G.length : Int) + 1 ≤ y; omega
      · have := (List.pairwise_cons.1 h3).1 y hy; show (G.length : Int) + 1 ≤ y; omega
/-- What comes leaves a right link right. -/
theorem GL.come (h : GL L) (hn0 : 0 ≤ n) (hn1 : n ≤ L.next - 1) (hk : L.acks.length < 1000) : GL (L.comes n) ∧ (L.comes n).sent = L.sent ∧ (L.comes n).base = L.base ∧ (L.comes n).next = L.next ∧ (L.comes n).way = L.way ∧ (L.comes n).window = L.window ∧ L.got.length ≤ (L.comes n).got.length ∧ (L.comes n).got.take L.got.length = L.got := by
  obtain ⟨w1, w2, s, wl, kl, gs, ge, b0, bg, hn, nb, ns, wa, ka, ha, inc⟩ := h
  unfold Lnk.comes
  split
  · rename_i hc
    have hb : ∀ y ∈ insL L.held n, (L.got.length : Int) + 1 ≤ y ∧ y ≤ L.next - 1 := fun y hy => by
      rcases insL_mem.1 hy with rfl | hy
      · omega
      · exact ha y hy
    have hp := insL_pw inc hc.2
    have hlen := pw_len hp hb
    refine ⟨⟨w1, w2, s, wl, ?_, gs, ge, b0, bg, ?_, nb, ns, wa, ?_, hb, hp⟩, rfl, rfl, rfl, rfl, rfl, Nat.le_refl _, List.take_of_length_le (Nat.le_refl _)⟩
    · show (L.acks ++ _).length ≤ 1000; rw [List.length_append, List.length_singleton]; omega
    · have := insL_len L.held n; dsimp only; omega
    · intro y hy
      rcases List.mem_append.1 hy with hy | hy
      · exact ka y hy
      · have := List.mem_singleton.1 hy; dsimp only; omega
  · split
    · rename_i e
      have hgl : L.got.length < L.sent.length := by omega
      have hl : (L.got ++ [L.sent.getD n.toNat ByteArray.empty]).length = L.got.length + 1 := by rw [List.length_append, List.length_singleton]
      obtain ⟨a1, a2, a3, a4, a5, a6, a7⟩ := fill_ok (S := L.sent) (r := L.held) (G := L.got ++ [L.sent.getD n.toNat ByteArray.empty]) (by
        rw [hl, take_succ_dd (d := ByteArray.empty) hgl, ← ge, show n.toNat = L.got.length by omega]) (by omega) inc (fun y hy => by have := ha y hy; omega)
      have hlen := pw_len inc ha
      refine ⟨⟨w1, w2, s, wl, ?_, a2, a1, b0, ?_, ?_, nb, ns, wa, ?_, fun y hy => ⟨(a4 y hy).1, (ha y (a4 y hy).2).2⟩, a3⟩, rfl, rfl, rfl, rfl, rfl, by dsimp only; omega, ?_⟩
      · show (L.acks ++ _).length ≤ 1000; rw [List.length_append, List.length_singleton]; omega
      · dsimp only; omega
      · dsimp only; omega
      · intro y hy
        rcases List.mem_append.1 hy with hy | hy
        · have := ka y hy; dsimp only; omega
        · have := List.mem_singleton.1 hy; dsimp only; omega
      · have := congrArg (List.take L.got.length) a7
        rw [List.take_take, Nat.min_eq_left (by omega), List.take_append_of_le_length (Nat.le_refl _), List.take_of_length_le (Nat.le_refl _)] at this
        exact this
    · refine ⟨⟨w1, w2, s, wl, ?_, gs, ge, b0, bg, hn, nb, ns, wa, ?_, ha, inc⟩, rfl, rfl, rfl, rfl, rfl, Nat.le_refl _, List.take_of_length_le (Nat.le_refl _)⟩
      · show (L.acks ++ _).length ≤ 1000; rw [List.length_append, List.length_singleton]; omega
      · intro y hy
        rcases List.mem_append.1 hy with hy | hy
        · exact ka y hy
        · have := List.mem_singleton.1 hy; dsimp only; omega
end
end Go.Proofs.Ytfabhinehfhndaa
