/-
  Rounds of a link that loses nothing: in plain Lean.
-/
import Derived.Test.YtfabhinehfhndaaLnG
set_option linter.unusedVariables false
set_option linter.unusedSimpArgs false
namespace Go.Proofs.Ytfabhinehfhndaa
open Go.RowKit

theorem sendN_in {b : Int} {j : Nat} {y : Int} (h : b ≤ y ∧ y < b + (j : Int)) : y ∈ sendN b j := by
  induction j with
  | zero => omega
  | succ j ih =>
    rw [sendN]
    by_cases e : y = b + (j : Int)
    · exact List.mem_append_right _ (List.mem_singleton.2 e)
    · exact List.mem_append_left _ (ih ⟨h.1, by omega⟩)
/-- Amid the takes of a round: all that was sent is on the way, below what was got, or held. -/
structure Amid (L : Lnk) (b0 e : Int) : Prop where
  good : GL L
  base : L.base = b0
  nx : L.next = e
  few : L.way.length + L.acks.length ≤ 16
  all : ∀ n, b0 ≤ n → n < e → n ∈ L.way ∨ n < (L.got.length : Int) ∨ n ∈ L.held
theorem send_amid {L : Lnk} (h : GL L) (hw : L.way = []) (ha : L.acks = []) : (L.step ⟨2, 0, false, .empty⟩).2 = 0 ∧ Amid (L.step ⟨2, 0, false, .empty⟩).1 L.base (min (L.base + L.window) (L.sent.length : Int)) ∧ (L.step ⟨2, 0, false, .empty⟩).1.sent = L.sent ∧ (L.step ⟨2, 0, false, .empty⟩).1.window = L.window := by
  have w2 := h.w2; have b0 := h.b0; have bg := h.bg; have gs := h.gs
  have hs : ¬ 1000 < (L.way.length : Int) + min (L.base + L.window) (L.sent.length : Int) - L.base := by rw [hw]; simp only [List.length_nil]; omega
  have e : L.step ⟨2, 0, false, .empty⟩ = L.send := by unfold Lnk.step; rw [if_neg (show ¬ (2 : Int) = 1 by decide), if_pos rfl]
  have e2 : L.send.2 = 0 := by unfold Lnk.send; rw [if_neg hs]
  rw [e]
  refine ⟨e2, ⟨(h.send_ e2).1, (h.send_ e2).2.2.2.1, ?_, ?_, ?_⟩, (h.send_ e2).2.2.1, ?_⟩
  · unfold Lnk.send; rw [if_neg hs]
  · unfold Lnk.send; rw [if_neg hs]; dsimp only; rw [hw, ha, List.nil_append, sendN_len, List.length_nil]; omega
  · intro n h1 h2
    left
    unfold Lnk.send; rw [if_neg hs]; dsimp only; rw [hw, List.nil_append]
    exact sendN_in ⟨h1, by omega⟩
  · unfold Lnk.send; rw [if_neg hs]
theorem fill_len {S : List ByteArray} : ∀ {r : List Int} {G : List ByteArray}, G.length ≤ (fillL S G r).1.length
  | [], G => Nat.le_refl _
  | h :: r, G => by
    unfold fillL
    split
    · have := fill_len (S := S) (r := r) (G := G ++ [S.getD h.toNat ByteArray.empty])
      rw [List.length_append, List.length_singleton] at this; omega
    · exact Nat.le_refl _
theorem fill_keep {S : List ByteArray} {y : Int} : ∀ {r : List Int} {G : List ByteArray}, y ∈ r → y ∈ (fillL S G r).2 ∨ y < ((fillL S G r).1.length : Int)
  | [], G, h => by simp at h
  | h :: r, G, hy => by
    unfold fillL
    split
    · rename_i e
      rcases List.mem_cons.1 hy with rfl | hy
      · right
        have := fill_len (S := S) (r := r) (G := G ++ [S.getD y.toNat ByteArray.empty])
        rw [List.length_append, List.length_singleton] at this; omega
      · exact fill_keep hy
    · exact .inl hy
theorem comes_there {L : Lnk} (h : GL L) {n m : Int} (hm : m < (L.got.length : Int) ∨ m ∈ L.held ∨ m = n) : m < ((L.comes n).got.length : Int) ∨ m ∈ (L.comes n).held := by
  unfold Lnk.comes
  split
  · rcases hm with hm | hm | rfl
    · exact .inl hm
    · exact .inr (insL_mem.2 (.inr hm))
    · exact .inr (insL_mem.2 (.inl rfl))
  · rename_i h1
    split
    · rename_i e
      have hl := fill_len (S := L.sent) (r := L.held) (G := L.got ++ [L.sent.getD n.toNat ByteArray.empty])
      rw [List.length_append, List.length_singleton] at hl
      rcases hm with hm | hm | rfl
      · left; dsimp only; omega
      · exact (fill_keep hm).symm
      · left; dsimp only; omega
    · rename_i e
      rcases hm with hm | hm | rfl
      · exact .inl hm
      · exact .inr hm
      · by_cases hh : m ∈ L.held
        · exact .inr hh
        · left
          have : ¬ (L.got.length : Int) < m := fun hlt => h1 ⟨hlt, hh⟩
          dsimp only; omega
theorem comes_acks (L : Lnk) (n : Int) : (L.comes n).acks = L.acks ++ [((L.comes n).got.length : Int)] := by
  unfold Lnk.comes; split
  · rfl
  · split <;> rfl
theorem take_amid {L : Lnk} {b0 e y : Int} {r : List Int} (h : Amid L b0 e) (hw : L.way = y :: r) : (L.step ⟨3, 0, false, .empty⟩).2 = 0 ∧ Amid (L.step ⟨3, 0, false, .empty⟩).1 b0 e ∧ (L.step ⟨3, 0, false, .empty⟩).1.sent = L.sent ∧ (L.step ⟨3, 0, false, .empty⟩).1.window = L.window ∧ (L.step ⟨3, 0, false, .empty⟩).1.way = r ∧ (L.step ⟨3, 0, false, .empty⟩).1.acks = L.acks ++ [((L.step ⟨3, 0, false, .empty⟩).1.got.length : Int)] := by
  have hok : tkOk L.way 0 = true := by rw [hw]; unfold tkOk; simp
  have hN : tkN L.way 0 = y := by unfold tkN; rw [if_pos hok, hw]; rfl
  have hL : tkL L.way 0 false = r := by unfold tkL; rw [if_pos ⟨hok, rfl⟩, hw]; rfl
  have few := h.few
  have hac : ¬ (L.acks.length : Int) = 1000 := by omega
  have e1 : L.step ⟨3, 0, false, .empty⟩ = (({ L with way := r } : Lnk).comes y, 0) := by
    unfold Lnk.step
    rw [if_neg (show ¬ (3 : Int) = 1 by decide), if_neg (show ¬ (3 : Int) = 2 by decide), if_pos rfl]
    dsimp only
    rw [if_neg (by rw [hok]; decide), if_neg hac, hN, hL]
  have hy := h.good.wa y (by rw [hw]; exact List.mem_cons_self)
  have hg : GL ({ L with way := r } : Lnk) := by have := h.good.way_ 0 false; rwa [hL] at this
  obtain ⟨g, g1, g2, g3, g4, g5, g6, g7⟩ := hg.come hy.1 hy.2 (by dsimp only; omega)
  rw [e1]
  have hlen : r.length + 1 = L.way.length := by rw [hw]; rfl
  refine ⟨rfl, ⟨g, g2.trans h.base, g3.trans h.nx, ?_, fun n h1 h2 => ?_⟩, g1, g5, g4, comes_acks _ _⟩
  · rw [g4, comes_acks, List.length_append, List.length_singleton]; dsimp only; omega
  · rw [g4]
    rcases h.all n h1 h2 with hn | hn | hn
    · rw [hw] at hn
      rcases List.mem_cons.1 hn with rfl | hn
      · exact .inr (comes_there hg (.inr (.inr rfl)))
      · exact .inl hn
    · exact .inr (comes_there hg (.inl hn))
    · exact .inr (comes_there hg (.inr (.inl hn)))
theorem amid_end {L : Lnk} {b0 e : Int} (h : Amid L b0 e) (hw : L.way = []) : e ≤ (L.got.length : Int) ∧ L.held = [] := by
  have bg := h.good.bg
  have hb := h.base
  have he : e ≤ (L.got.length : Int) := by
    by_cases hlt : e ≤ (L.got.length : Int)
    · exact hlt
    · rcases h.all (L.got.length : Int) (by omega) (by omega) with hn | hn | hn
      · rw [hw] at hn; simp at hn
      · omega
      · have := h.good.ha _ hn; omega
  refine ⟨he, ?_⟩
  rw [List.eq_nil_iff_forall_not_mem]
  intro y hy
  have := h.good.ha y hy
  have := h.nx
  omega
/-- Amid the hearing of a round. -/
structure Heard (L : Lnk) (b0 : Int) : Prop where
  good : GL L
  way : L.way = []
  held : L.held = []
  more : b0 < (L.got.length : Int)
  few : L.acks.length ≤ 16
  last : (L.acks = [] ∧ L.base = (L.got.length : Int)) ∨ L.acks.getLast? = some (L.got.length : Int)
theorem hear_one {L : Lnk} {b0 n : Int} {r : List Int} (h : Heard L b0) (ha : L.acks = n :: r) : (L.step ⟨4, 0, false, .empty⟩).2 = 0 ∧ Heard (L.step ⟨4, 0, false, .empty⟩).1 b0 ∧ (L.step ⟨4, 0, false, .empty⟩).1.sent = L.sent ∧ (L.step ⟨4, 0, false, .empty⟩).1.window = L.window ∧ (L.step ⟨4, 0, false, .empty⟩).1.acks = r := by
  have hok : tkOk L.acks 0 = true := by rw [ha]; unfold tkOk; simp
  have hN : tkN L.acks 0 = n := by unfold tkN; rw [if_pos hok, ha]; rfl
  have hL : tkL L.acks 0 false = r := by unfold tkL; rw [if_pos ⟨hok, rfl⟩, ha]; rfl
  have hn := h.good.ka n (by rw [ha]; exact List.mem_cons_self)
  have bg := h.good.bg
  have g := h.good.hear 0 false hn
  rw [hL] at g
  have e1 : L.step ⟨4, 0, false, .empty⟩ = ({ L with acks := r, base := max L.base n, next := max L.next (max L.base n) }, 0) := by
    unfold Lnk.step
    rw [if_neg (show ¬ (4 : Int) = 1 by decide), if_neg (show ¬ (4 : Int) = 2 by decide), if_neg (show ¬ (4 : Int) = 3 by decide), if_pos rfl]
    dsimp only
    rw [if_neg (by rw [hok]; decide), hN, hL]
  rw [e1]
  have few := h.few
  rw [ha, List.length_cons] at few
  refine ⟨rfl, ⟨g, h.way, h.held, h.more, by dsimp only; omega, ?_⟩, rfl, rfl, rfl⟩
  rcases h.last with ⟨hl, _⟩ | hl
  · rw [ha] at hl; cases hl
  · rw [ha] at hl
    cases r with
    | nil =>
      left
      have : n = (L.got.length : Int) := by simpa using hl
      exact ⟨rfl, by dsimp only; omega⟩
    | cons m r' => right; dsimp only; rw [List.getLast?_cons_cons] at hl; exact hl
theorem doR_step {L : Lnk} {x : Evt} (h : GL L) (h2 : (L.step x).2 = 0) : L.doR x = ((L.step x).1, 0) := doR_ok h.chk h2
theorem send_do {L : Lnk} (h : GL L) (hw : L.way = []) (ha : L.acks = []) : ∃ M, L.doR ⟨2, 0, false, .empty⟩ = (M, 0) ∧ Amid M L.base (min (L.base + L.window) (L.sent.length : Int)) ∧ M.sent = L.sent ∧ M.window = L.window ∧ (L.base < (L.sent.length : Int) → 0 < M.way.length) := by
  obtain ⟨h1, h2, h3, h4⟩ := send_amid h hw ha
  refine ⟨_, doR_step h h1, h2, h3, h4, fun hb => ?_⟩
  have w1 := h.w1
  rcases h2.all L.base (Int.le_refl _) (by omega) with hn | hn | hn
  · exact List.length_pos_of_mem hn
  · by_cases hz : 0 < (L.step ⟨2, 0, false, .empty⟩).1.way.length
    · exact hz
    · exfalso
      have e : L.step ⟨2, 0, false, .empty⟩ = L.send := by unfold Lnk.step; rw [if_neg (show ¬ (2 : Int) = 1 by decide), if_pos rfl]
      have w2 := h.w2; have b0 := h.b0; have gs := h.gs; have bg := h.bg
      have hs : ¬ 1000 < (L.way.length : Int) + min (L.base + L.window) (L.sent.length : Int) - L.base := by rw [hw]; simp only [List.length_nil]; omega
      rw [e] at hz
      unfold Lnk.send at hz
      rw [if_neg hs] at hz
      dsimp only at hz
      rw [hw, List.nil_append, sendN_len] at hz
      omega
  · by_cases hz : 0 < (L.step ⟨2, 0, false, .empty⟩).1.way.length
    · exact hz
    · exfalso
      have e : L.step ⟨2, 0, false, .empty⟩ = L.send := by unfold Lnk.step; rw [if_neg (show ¬ (2 : Int) = 1 by decide), if_pos rfl]
      have w2 := h.w2; have b0 := h.b0; have gs := h.gs; have bg := h.bg
      have hs : ¬ 1000 < (L.way.length : Int) + min (L.base + L.window) (L.sent.length : Int) - L.base := by rw [hw]; simp only [List.length_nil]; omega
      rw [e] at hz
      unfold Lnk.send at hz
      rw [if_neg hs] at hz
      dsimp only at hz
      rw [hw, List.nil_append, sendN_len] at hz
      omega
theorem take_do {L : Lnk} {b0 e : Int} (h : Amid L b0 e) (hw : 0 < L.way.length) : ∃ M, L.doR ⟨3, 0, false, .empty⟩ = (M, 0) ∧ Amid M b0 e ∧ M.sent = L.sent ∧ M.window = L.window ∧ M.way.length + 1 = L.way.length ∧ M.acks.getLast? = some (M.got.length : Int) := by
  obtain ⟨y, r, e1⟩ : ∃ y r, L.way = y :: r := by
    cases hq : L.way with
    | nil => rw [hq] at hw; simp at hw
    | cons y r => exact ⟨y, r, rfl⟩
  obtain ⟨h1, h2, h3, h4, h5, h6⟩ := take_amid h e1
  refine ⟨_, doR_step h.good h1, h2, h3, h4, by rw [h5, e1]; rfl, by rw [h6, List.getLast?_append]; rfl⟩
theorem hear_do {L : Lnk} {b0 : Int} (h : Heard L b0) (ha : 0 < L.acks.length) : ∃ M, L.doR ⟨4, 0, false, .empty⟩ = (M, 0) ∧ Heard M b0 ∧ M.sent = L.sent ∧ M.window = L.window ∧ M.acks.length + 1 = L.acks.length := by
  obtain ⟨n, r, e1⟩ : ∃ n r, L.acks = n :: r := by
    cases hq : L.acks with
    | nil => rw [hq] at ha; simp at ha
    | cons y r => exact ⟨y, r, rfl⟩
  obtain ⟨h1, h2, h3, h4, h5⟩ := hear_one h e1
  exact ⟨_, doR_step h.good h1, h2, h3, h4, by rw [h5, e1]; rfl⟩
theorem amid_heard {L : Lnk} {b0 e : Int} (h : Amid L b0 e) (hw : L.way.length = 0) (hbe : b0 < e) (hl : 0 < L.way.length ∨ L.acks.getLast? = some (L.got.length : Int)) : Heard L b0 := by
  have hw' : L.way = [] := List.eq_nil_of_length_eq_zero hw
  obtain ⟨h1, h2⟩ := amid_end h hw'
  have few := h.few
  refine ⟨h.good, hw', h2, by omega, by omega, .inr (hl.elim (fun hh => by omega) id)⟩
theorem all_come {L : Lnk} (h : GL L) (hb : (L.sent.length : Int) ≤ L.base) : L.got = L.sent ∧ L.held = [] := by
  have bg := h.bg; have gs := h.gs; have ns := h.ns
  refine ⟨by rw [h.ge]; exact List.take_of_length_le (by omega), ?_⟩
  rw [List.eq_nil_iff_forall_not_mem]
  intro y hy
  have := h.ha y hy
  omega
end Go.Proofs.Ytfabhinehfhndaa
