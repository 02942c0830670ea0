/-
  What comes twice is as if it had come once: in plain Lean.
-/
import Derived.Test.YtfabhinehfhndaaLnG
set_option linter.unusedVariables false
set_option linter.unusedSimpArgs false
namespace Go.Proofs.Ytfabhinehfhndaa
open Go.RowKit

theorem comes_way (L : Lnk) (v : List Int) (n : Int) : ({ L with way := v } : Lnk).comes n = { L.comes n with way := v } := by
  unfold Lnk.comes
  dsimp only
  split
  · rfl
  · split <;> rfl
theorem with_way (M : Lnk) (v : List Int) (h : M.way = v) : ({ M with way := v } : Lnk) = M := by subst h; rfl
theorem comes_again {L : Lnk} (h : GL L) {n : Int} (hn0 : 0 ≤ n) (hn1 : n ≤ L.next - 1) : (L.comes n).comes n = { L.comes n with acks := (L.comes n).acks ++ [((L.comes n).got.length : Int)] } := by
  have key : ∀ M : Lnk, (n < (M.got.length : Int) ∨ n ∈ M.held) → ¬ n = (M.got.length : Int) → M.comes n = { M with acks := M.acks ++ [(M.got.length : Int)] } := fun M h1 h2 => by
    unfold Lnk.comes
    rw [if_neg (by rintro ⟨a, b⟩; rcases h1 with h1 | h1; · omega
                   exact b h1), if_neg h2]
  refine key _ ?_ ?_
  · unfold Lnk.comes
    split
    · exact .inr (insL_mem.2 (.inl rfl))
    · rename_i h1
      split
      · rename_i e
        left
        have ns := h.ns
        have hgl : L.got.length < L.sent.length := by omega
        have hl : (L.got ++ [L.sent.getD n.toNat ByteArray.empty]).length = L.got.length + 1 := by rw [List.length_append, List.length_singleton]
        obtain ⟨_, _, _, _, _, a6, _⟩ := fill_ok (S := L.sent) (r := L.held) (G := L.got ++ [L.sent.getD n.toNat ByteArray.empty]) (by
          rw [hl, take_succ_dd (d := ByteArray.empty) hgl, ← h.ge, show n.toNat = L.got.length by omega]) (by omega) h.inc (fun y hy => by have := h.ha y hy; omega)
        dsimp only; omega
      · rename_i e
        by_cases hh : n ∈ L.held
        · exact .inr hh
        · left
          have : ¬ (L.got.length : Int) < n := fun hlt => h1 ⟨hlt, hh⟩
          dsimp only; omega
  · unfold Lnk.comes
    split
    · rename_i h1; dsimp only; omega
    · split
      · rename_i e
        have ns := h.ns
        have hgl : L.got.length < L.sent.length := by omega
        have hl : (L.got ++ [L.sent.getD n.toNat ByteArray.empty]).length = L.got.length + 1 := by rw [List.length_append, List.length_singleton]
        obtain ⟨_, _, _, _, _, a6, _⟩ := fill_ok (S := L.sent) (r := L.held) (G := L.got ++ [L.sent.getD n.toNat ByteArray.empty]) (by
          rw [hl, take_succ_dd (d := ByteArray.empty) hgl, ← h.ge, show n.toNat = L.got.length by omega]) (by omega) h.inc (fun y hy => by have := h.ha y hy; omega)
        dsimp only; omega
      · rename_i e; exact e
/-- Taken twice, the first time kept on the way: but for one mark more as if taken once. -/
theorem take_twice {L M B : Lnk} {i : Int} (hM : L.doR ⟨3, i, true, .empty⟩ = (M, 0)) (hB : M.doR ⟨3, i, false, .empty⟩ = (B, 0)) :
    0 < B.acks.length ∧ L.doR ⟨3, i, false, .empty⟩ = ({ B with acks := B.acks.take (B.acks.length - 1) }, 0) := by
  have hc : L.chk = 0 := by
    by_cases h : L.chk = 0
    · exact h
    · rw [doR_bad h] at hM; exact absurd (Prod.mk.inj hM).2 h
  have hs : (L.step ⟨3, i, true, .empty⟩).2 = 0 := by
    by_cases h : (L.step ⟨3, i, true, .empty⟩).2 = 0
    · exact h
    · rw [doR_no hc h] at hM; exact absurd (Prod.mk.inj hM).2 h
  rw [doR_ok hc hs] at hM
  have hM := (Prod.mk.inj hM).1
  have h := GL.of hc
  have st : ∀ (L : Lnk) (k : Bool), (L.step ⟨3, i, k, .empty⟩).2 = 0 → tkOk L.way i = true ∧ ¬ (L.acks.length : Int) = 1000 ∧ (L.step ⟨3, i, k, .empty⟩).1 = ({ L with way := tkL L.way i k } : Lnk).comes (tkN L.way i) := fun L k h => by
    unfold Lnk.step at h ⊢
    rw [if_neg (show ¬ (3 : Int) = 1 by decide), if_neg (show ¬ (3 : Int) = 2 by decide), if_pos rfl] at h ⊢
    dsimp only at h ⊢
    split at h
    · simp at h
    · rename_i h1
      split at h
      · simp at h
      · rename_i h2
        refine ⟨by simpa using h1, h2, ?_⟩
        rw [if_neg h1, if_neg h2]
  obtain ⟨ht, ha, e1⟩ := st L true hs
  have hb := h.wa _ (tk_mem ht)
  rw [e1, comes_way, tkL_keep] at hM
  have hMc : M = L.comes (tkN L.way i) := hM.symm.trans (with_way _ _ (h.come hb.1 hb.2 (by have := h.kl; omega)).2.2.2.2.1)
  have hmw : M.way = L.way := by rw [hMc]; exact (h.come hb.1 hb.2 (by have := h.kl; omega)).2.2.2.2.1
  have hMchk : M.chk = 0 := by
    by_cases h : M.chk = 0
    · exact h
    · rw [doR_bad h] at hB; exact absurd (Prod.mk.inj hB).2 h
  have hs2 : (M.step ⟨3, i, false, .empty⟩).2 = 0 := by
    by_cases h : (M.step ⟨3, i, false, .empty⟩).2 = 0
    · exact h
    · rw [doR_no hMchk h] at hB; exact absurd (Prod.mk.inj hB).2 h
  rw [doR_ok hMchk hs2] at hB
  have hB := (Prod.mk.inj hB).1
  obtain ⟨_, _, e2⟩ := st M false hs2
  rw [e2, comes_way, hmw, hMc, comes_again h hb.1 hb.2] at hB
  have hs3 : (L.step ⟨3, i, false, .empty⟩).2 = 0 := by
    unfold Lnk.step
    rw [if_neg (show ¬ (3 : Int) = 1 by decide), if_neg (show ¬ (3 : Int) = 2 by decide), if_pos rfl]
    dsimp only
    rw [if_neg (by rw [ht]; decide), if_neg ha]
  obtain ⟨_, _, e3⟩ := st L false hs3
  rw [doR_ok hc hs3, e3, comes_way, ← hB]
  dsimp only
  refine ⟨by rw [List.length_append, List.length_singleton]; omega, ?_⟩
  rw [List.length_append, List.length_singleton, Nat.add_sub_cancel, List.take_append_of_le_length (Nat.le_refl _), take_self]
end Go.Proofs.Ytfabhinehfhndaa
