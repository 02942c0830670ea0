/-
  A field's text, read again: plain law.
-/
import Derived.Test.YtkijhejjnlmbmaaFldR
set_option linter.unusedVariables false
set_option linter.unusedSimpArgs false
namespace Go.Proofs.Ytkijhejjnlmbmaa
open Go.RowKit

theorem sgn_ne {p : Int} (h : 0 ≤ p ∧ p ≤ 3) : sgn8 p ≠ 10 ∧ Lib.indexByte ([46, 35, 116, 111] : List UInt8) (sgn8 p) = p := by
  have : p = 0 ∨ p = 1 ∨ p = 2 ∨ p = 3 := by omega
  rcases this with rfl | rfl | rfl | rfl <;> exact ⟨by decide, by decide⟩
theorem readPl_app (a b : List UInt8) : readPl (a ++ b) = readPl a ++ readPl b := by unfold readPl; rw [List.map_append, List.filter_append]
theorem readPl_signs : ∀ l : List Int, (∀ p ∈ l, 0 ≤ p ∧ p ≤ 3) → readPl (l.map sgn8) = l
  | [], _ => rfl
  | p :: l, h => by
    have h1 := h p List.mem_cons_self
    have ih := readPl_signs l fun q hq => h q (List.mem_cons_of_mem _ hq)
    have e : readPl ((p :: l).map sgn8) = readPl [sgn8 p] ++ readPl (l.map sgn8) := by rw [List.map_cons, ← readPl_app]; rfl
    rw [e, ih]
    have e2 : readPl [sgn8 p] = [p] := by
      unfold readPl
      rw [List.map_cons, List.map_nil, (sgn_ne h1).2, List.filter_cons, if_pos (decide_eq_true h1.1)]; rfl
    rw [e2]; rfl
theorem rowT_all {f : Fld} (k : Nat) : rowT f k f.wide.toNat = ((f.places.drop (k * f.wide.toNat)).take f.wide.toNat).map sgn8 := by
  unfold rowT
  rw [Nat.add_sub_cancel_left, List.take_take, Nat.min_self]
theorem rowT_mem {f : Fld} (h : ∀ p ∈ f.places, 0 ≤ p ∧ p ≤ 3) (k : Nat) : ∀ p ∈ (f.places.drop (k * f.wide.toNat)).take f.wide.toNat, 0 ≤ p ∧ p ≤ 3 := fun p hp => h p (List.mem_of_mem_drop (List.mem_of_mem_take hp))
theorem chunks {α : Type} (n : Nat) : ∀ (q : Nat) (l : List α), l.length = q * n → ((List.finRange q).flatMap fun k => (l.drop (k.1 * n)).take n) = l
  | 0, l, h => by
    have : l = [] := List.eq_nil_of_length_eq_zero (by omega)
    subst this; rfl
  | q + 1, l, h => by
    rw [Nat.succ_mul] at h
    have ih := chunks n q (l.drop n) (by rw [List.length_drop]; omega)
    rw [List.finRange_succ, List.flatMap_cons, List.flatMap_map]
    have e : (fun k : Fin q => (l.drop (k.succ.1 * n)).take n) = fun k : Fin q => ((l.drop n).drop (k.1 * n)).take n := by
      funext k
      rw [List.drop_drop]
      congr 2
      show (k.1 + 1) * n = _
      rw [Nat.succ_mul]; omega
    show (l.drop (0 * n)).take n ++ ((List.finRange q).flatMap fun k : Fin q => (l.drop (k.succ.1 * n)).take n) = l
    rw [e, ih, Nat.zero_mul, List.drop_zero, List.take_append_drop]
theorem txt_pl {f : Fld} (h : ∀ p ∈ f.places, 0 ≤ p ∧ p ≤ 3) : ∀ pre : List (Fin f.high.toNat), readPl (txt f pre) = pre.flatMap fun k => (f.places.drop (k.1 * f.wide.toNat)).take f.wide.toNat
  | [] => rfl
  | x :: r => by
    have ih := txt_pl h r
    have e : txt f (x :: r) = rowT f x.1 f.wide.toNat ++ ([10] ++ txt f r) := by unfold txt; rw [List.flatMap_cons]; simp
    rw [e, readPl_app, readPl_app, ih, rowT_all, readPl_signs _ (rowT_mem h _), List.flatMap_cons]
    rfl
theorem rowT_no {f : Fld} (h : ∀ p ∈ f.places, 0 ≤ p ∧ p ≤ 3) (k : Nat) : (10 : UInt8) ∉ rowT f k f.wide.toNat := fun hm => by
  rw [rowT_all] at hm
  obtain ⟨p, hp, e⟩ := List.mem_map.1 hm
  exact (sgn_ne (rowT_mem h k p hp)).1 e
theorem txt_count {f : Fld} (h : ∀ p ∈ f.places, 0 ≤ p ∧ p ≤ 3) : ∀ pre : List (Fin f.high.toNat), (txt f pre).count 10 = pre.length
  | [] => rfl
  | x :: r => by
    have ih := txt_count h r
    have e : txt f (x :: r) = rowT f x.1 f.wide.toNat ++ ([10] ++ txt f r) := by unfold txt; rw [List.flatMap_cons]; simp
    rw [e, List.count_append, List.count_append, ih, List.count_eq_zero.2 (rowT_no h _), List.length_cons]
    have : ([10] : List UInt8).count 10 = 1 := by decide
    omega
theorem index_at {c : UInt8} : ∀ (a b : List UInt8), c ∉ a → Lib.indexByte (a ++ c :: b) c = (a.length : Int)
  | [], b, _ => by
    show Lib.indexByte (c :: b) c = 0
    unfold Lib.indexByte; simp
  | x :: a, b, h => by
    have ih := index_at a b fun hm => h (List.mem_cons_of_mem _ hm)
    have hx : (x == c) = false := by
      rw [beq_eq_false_iff_ne]; intro e; exact h (e ▸ List.mem_cons_self)
    show Lib.indexByte (x :: (a ++ c :: b)) c = _
    unfold Lib.indexByte
    rw [hx, ih]
    have hn : ((a.length : Int) == -1) = false := by rw [beq_eq_false_iff_ne]; omega
    rw [hn, List.length_cons]
    simp
theorem frow_len {f : Fld} (hc : f.chk = 0) {k : Nat} (hk : k < f.high.toNat) : (rowT f k f.wide.toNat).length = f.wide.toNat := by
  have hl := Fld.mul_len hc
  have hm : k * f.wide.toNat + f.wide.toNat ≤ f.high.toNat * f.wide.toNat := by rw [← Nat.succ_mul]; exact Nat.mul_le_mul_right _ hk
  rw [rowT_all, List.length_map, List.length_take, List.length_drop]
  omega
theorem txt_length {f : Fld} (hc : f.chk = 0) : ∀ pre : List (Fin f.high.toNat), (txt f pre).length = pre.length * (f.wide.toNat + 1)
  | [] => by simp [txt]
  | x :: r => by
    have ih := txt_length hc r
    have e : txt f (x :: r) = rowT f x.1 f.wide.toNat ++ ([10] ++ txt f r) := by unfold txt; rw [List.flatMap_cons]; simp
    rw [e, List.length_append, List.length_append, ih, frow_len hc x.2, List.length_cons, List.length_cons, List.length_nil, Nat.succ_mul]
    omega
/-- What is written is read as it was. -/
theorem read_write {f : Fld} (hc : f.chk = 0) : readFld (bytesS (txt f (List.finRange f.high.toNat))) = f := by
  obtain ⟨y1, y2, y3, y4, y5, y6⟩ := Fld.good hc
  have hl := Fld.mul_len hc
  have h1 : (bytesS (txt f (List.finRange f.high.toNat))).data.toList = txt f (List.finRange f.high.toNat) := rfl
  unfold readFld
  rw [h1, txt_pl y6, chunks _ _ _ hl]
  have h2 : Lib.countByte (txt f (List.finRange f.high.toNat)) 10 = f.high.toNat := by
    show (txt f _).count 10 = _
    rw [txt_count y6, List.length_finRange]
  rw [h2]
  have h3 : Lib.indexByte (txt f (List.finRange f.high.toNat)) 10 = f.wide := by
    obtain ⟨q, hq⟩ : ∃ q, f.high.toNat = q + 1 := ⟨f.high.toNat - 1, by omega⟩
    have hne : List.finRange f.high.toNat ≠ [] := by
      intro e
      have := congrArg List.length e
      rw [List.length_finRange] at this
      simp at this; omega
    obtain ⟨x, r, he⟩ := List.exists_cons_of_ne_nil hne
    rw [he]
    have e : txt f (x :: r) = rowT f x.1 f.wide.toNat ++ 10 :: txt f r := by unfold txt; rw [List.flatMap_cons]; simp
    rw [e, index_at _ _ (rowT_no y6 _), frow_len hc x.2]
    omega
  rw [h3]
  obtain ⟨a, b, c⟩ := f
  simp only at y1 y3 ⊢
  congr 1
  omega
theorem read_text {f : Fld} (hc : f.chk = 0) : readW (fldText f) = f ∧ readE (fldText f) = 0 := by
  have e1 := write_ok hc
  have h1 := read_write hc
  rw [← e1] at h1
  have hk := read_ok (s := fldText f) (by rw [h1, hc]; simp)
  rw [h1] at hk
  exact hk
theorem text_size {f : Fld} (hc : f.chk = 0) : ((fldText f).size : Int) = (f.wide + 1) * f.high := by
  obtain ⟨y1, y2, y3, y4, y5, y6⟩ := Fld.good hc
  rw [write_ok hc]
  show (((txt f (List.finRange f.high.toNat)).toArray.size : Nat) : Int) = _
  rw [List.size_toArray, txt_length hc, List.length_finRange, Int.natCast_mul, Int.mul_comm]
  congr 1 <;> omega
theorem readE_two (s : ByteArray) : readE s = 0 ∨ readE s = 4 := by unfold readE; split <;> simp
theorem read_back {s : ByteArray} (h : readE s = 0) : (readW s).chk = 0 ∧ fldText (readW s) = s := by
  have hc : ((readFld s).chk != 0 || !decide (fldText (readFld s) = s)) = false := by
    cases hb : ((readFld s).chk != 0 || !decide (fldText (readFld s) = s)) with
    | false => rfl
    | true => unfold readE at h; rw [if_pos hb] at h; exact nomatch h
  have e := (read_ok hc).1
  rw [e]
  simpa using hc
theorem read_zero {s : ByteArray} (h : ¬ readE s = 0) : readW s = ⟨0, 0, []⟩ := by
  unfold readE at h
  unfold readW
  split at h
  · rename_i hb; rw [if_pos hb]
  · exact absurd rfl h
end Go.Proofs.Ytkijhejjnlmbmaa
