/-
  What a player sees: plain law.
-/
import Derived.Test.YtkijhejjnlmbmaaMiV
import Derived.Test.YtkijhejjnlmbmaaGoodP
import Derived.Test.YtkijhejjnlmbmaaLawA
set_option linter.unusedVariables false
set_option linter.unusedSimpArgs false
namespace Go.Proofs.Ytkijhejjnlmbmaa
open Go.RowKit

theorem seen_all (W : Wd) (p : Int) : seenK W p W.troops.length = W.troops.foldl (look1 W p) (marks W.field (List.replicate W.field.places.length false) (seenL W.field (W.bases.getD p.toNat default) 3)) := by unfold seenK; rw [List.take_length]
theorem look1_same {W V : Wd} (hf : V.field = W.field) (p : Int) : look1 V p = look1 W p := by funext o t; unfold look1; rw [hf]
theorem mistB_same {W V : Wd} {p : Int} (h : mistE W p = 0) (h2 : mistE V p = 0) (hf : V.field = W.field) (hb : V.bases = W.bases) (ht : ∀ o, V.troops.foldl (look1 W p) o = W.troops.foldl (look1 W p) o) : mistB V p = mistB W p := by
  unfold mistB
  rw [if_neg (by simpa using h2), if_neg (by simpa using h), seen_all, seen_all, look1_same hf, hf, hb, ht]
theorem vdel_owner {W : Wd} {p : Int} {x : Trp} (h : (!vdel W p x) = false) : x.owner ≠ p := by
  unfold vdel at h; simp at h; exact h.1
theorem vdel_same {W V : Wd} {p : Int} (hf : V.field = W.field) (hB : mistB V p = mistB W p) : vdel V p = vdel W p := by funext x; unfold vdel; rw [hf, hB]
theorem anyT {l : List Trp} {x : Trp} (h : x ∈ l) : l.any (fun y => decide (x = y)) = true := List.any_eq_true.2 ⟨x, h, by simp⟩
/-! One that isn't seen. -/
theorem filter_set_no {α : Type} {q : α → Bool} : ∀ (l : List α) (i : Nat) (x y : α), l[i]? = some x → q x = false → q y = false → (l.set i y).filter q = l.filter q
  | [], _, _, _, h, _, _ => by simp at h
  | a :: l, 0, x, y, h, hx, hy => by
    obtain rfl : a = x := by simpa using h
    rw [List.set_cons_zero, List.filter_cons, List.filter_cons, hx, hy]; rfl
  | a :: l, i + 1, x, y, h, hx, hy => by
    rw [List.set_cons_succ, List.filter_cons, List.filter_cons, filter_set_no l i x y (by simpa using h) hx hy]
theorem fold_set_same {α β : Type} {f : β → α → β} : ∀ (l : List α) (i : Nat) (x y : α) (o : β), l[i]? = some x → (∀ o, f o y = f o x) → (l.set i y).foldl f o = l.foldl f o
  | [], _, _, _, _, h, _ => by simp at h
  | a :: l, 0, x, y, o, h, hf => by
    obtain rfl : a = x := by simpa using h
    rw [List.set_cons_zero, List.foldl_cons, List.foldl_cons, hf]
  | a :: l, i + 1, x, y, o, h, hf => by
    rw [List.set_cons_succ, List.foldl_cons, List.foldl_cons, fold_set_same l i x y _ (by simpa using h) hf]
theorem filter_erase_no {α : Type} {q : α → Bool} : ∀ (l : List α) (i : Nat) (x : α), l[i]? = some x → q x = false → (l.eraseIdx i).filter q = l.filter q
  | [], _, _, h, _ => by simp at h
  | a :: l, 0, x, h, hx => by
    obtain rfl : a = x := by simpa using h
    rw [List.eraseIdx_cons_zero, List.filter_cons, hx]; rfl
  | a :: l, i + 1, x, h, hx => by
    rw [List.eraseIdx_cons_succ, List.filter_cons, List.filter_cons, filter_erase_no l i x (by simpa using h) hx]
theorem fold_erase_no {α β : Type} {f : β → α → β} : ∀ (l : List α) (i : Nat) (x : α) (o : β), l[i]? = some x → (∀ o, f o x = o) → (l.eraseIdx i).foldl f o = l.foldl f o
  | [], _, _, _, h, _ => by simp at h
  | a :: l, 0, x, o, h, hf => by
    obtain rfl : a = x := by simpa using h
    rw [List.eraseIdx_cons_zero, List.foldl_cons, hf]
  | a :: l, i + 1, x, o, h, hf => by
    rw [List.eraseIdx_cons_succ, List.foldl_cons, List.foldl_cons, fold_erase_no l i x _ (by simpa using h) hf]
theorem view_same {W V : Wd} {p : Int} (h : mistE W p = 0) (hV : mistE V p = 0) (hf : V.field = W.field) (hb : V.bases = W.bases) (hs : V.stocks = W.stocks) (hm : V.mines = W.mines) (hw : V.now = W.now)
    (h1 : ∀ o, V.troops.foldl (look1 W p) o = W.troops.foldl (look1 W p) o) (h2 : V.troops.filter (fun x => !vdel W p x) = W.troops.filter (fun x => !vdel W p x)) : viewW V p = viewW W p := by
  have hB := mistB_same h hV hf hb h1
  have hT : vtroops V p = vtroops W p := by unfold vtroops; rw [vdel_same hf hB, h2]
  rw [view_ok h, view_ok hV, hT, hB, hf, hb, hs, hm, hw]
theorem unseen {W : Wd} {p : Int} (h : mistE W p = 0) {t : Trp} (ht : t ∈ W.troops) (hn : t ∉ (viewW W p).troops) : (!vdel W p t) = false := by
  rw [view_ok h] at hn
  cases hv : (!vdel W p t) with
  | false => rfl
  | true => exact absurd (List.mem_filter.2 ⟨ht, hv⟩) hn
def hurt (t : Trp) (n : Int) : Trp := { t with life := max 1 (min n t.life) }
theorem hides_set {W : Wd} {p : Int} (h : mistE W p = 0) {i : Nat} (hi : i < W.troops.length) (n : Int) (hn : W.troops.getD i default ∉ (viewW W p).troops) :
    mistE { W with troops := W.troops.set i (hurt (W.troops.getD i default) n) } p = 0 ∧ viewW { W with troops := W.troops.set i (hurt (W.troops.getD i default) n) } p = viewW W p := by
  obtain ⟨hchk, hp0, hp1⟩ := mistE_ok h
  have hG := Good.of_chk hchk
  have hmem := mem_dd (d := default) hi
  have hu := unseen h hmem hn
  rw [getD_dd hi] at hu ⊢
  have hge := List.getElem?_eq_getElem hi
  generalize ht : W.troops[i] = t at *
  have hts := hG.each (List.mem_of_getElem? hge)
  have hE : mistE { W with troops := W.troops.set i (hurt t n) } p = 0 := by
    refine (mist_ok (Good.chk (Good.of_pw (V := { W with troops := W.troops.set i (hurt t n) }) hG rfl rfl rfl rfl rfl hG.now (by show (W.troops.set i _).length ≤ 100; rw [List.length_set]; exact hG.nt) ?_ ?_)) ⟨hp0, hp1⟩).1
    · show (W.troops.set i (hurt t n)).Pairwise Apart
      rw [List.pairwise_iff_getElem]
      intro a b ha hb hab
      rw [List.length_set] at ha hb
      have h0 := (List.pairwise_iff_getElem.1 hG.pw) a b ha hb hab
      rw [List.getElem_set, List.getElem_set]
      split <;> split
      · omega
      · rename_i e1 e2; subst e1; rw [ht] at h0; exact h0
      · rename_i e1 e2; subst e2; rw [ht] at h0; exact h0
      · exact h0
    · intro x hx
      rcases List.mem_or_eq_of_mem_set hx with hx | rfl
      · exact hG.each hx
      · refine ⟨hts.1, hts.2.1, ?_⟩
        obtain ⟨k1, k2, k3, k4, k5⟩ := hts.2.2
        exact ⟨k1, k2, k3, by show 1 ≤ max 1 (min n t.life) ∧ max 1 (min n t.life) ≤ Wd.lifeOf t.kind; omega, k5⟩
  refine ⟨hE, view_same h hE rfl rfl rfl rfl rfl (fun o => fold_set_same _ _ _ _ _ hge fun o => rfl) (filter_set_no _ _ _ _ hge hu hu)⟩
theorem hides_erase {W : Wd} {p : Int} (h : mistE W p = 0) {i : Nat} (hi : i < W.troops.length) (hn : W.troops.getD i default ∉ (viewW W p).troops) :
    mistE { W with troops := W.troops.eraseIdx i } p = 0 ∧ viewW { W with troops := W.troops.eraseIdx i } p = viewW W p := by
  obtain ⟨hchk, hp0, hp1⟩ := mistE_ok h
  have hG := Good.of_chk hchk
  have hmem := mem_dd (d := default) hi
  have hu := unseen h hmem hn
  rw [getD_dd hi] at hu
  have hge := List.getElem?_eq_getElem hi
  have hE : mistE { W with troops := W.troops.eraseIdx i } p = 0 := by
    refine (mist_ok (Good.chk (Good.of_pw (V := { W with troops := W.troops.eraseIdx i }) hG rfl rfl rfl rfl rfl hG.now (Nat.le_trans (List.length_eraseIdx_le _ _) hG.nt) (hG.pw.sublist (List.eraseIdx_sublist _ _)) ?_)) ⟨hp0, hp1⟩).1
    intro x hx
    exact hG.each (List.mem_of_mem_eraseIdx hx)
  refine ⟨hE, view_same h hE rfl rfl rfl rfl rfl (fun o => fold_erase_no _ _ _ _ hge fun o => ?_) (filter_erase_no _ _ _ hge hu)⟩
  unfold look1; rw [if_neg (vdel_owner hu)]
end Go.Proofs.Ytkijhejjnlmbmaa
