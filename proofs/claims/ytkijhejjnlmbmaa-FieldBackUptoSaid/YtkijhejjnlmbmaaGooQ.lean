/-
  A deed, and deeds. (Printed by bin/goods_o.py.)
-/
import Derived.Test.YtkijhejjnlmbmaaGooL
import Derived.Test.YtkijhejjnlmbmaaGooP
import Derived.Test.YtkijhejjnlmbmaaClone
import Derived.Test.YtkijhejjnlmbmaaWld
import Derived.Test.YtkijhejjnlmbmaaTroH
set_option linter.unusedVariables false
set_option linter.unusedSimpArgs false
namespace Go.Proofs.Ytkijhejjnlmbmaa
open Go.RowKit

theorem GooQ_ag_int : Ag Try.prog 3 false := fun _ => by kernel_rfl
theorem GooQ_zv_api_World : Zv Try.prog 46 (.agg #[.int .i64 0, .int .i64 0, .slice none 0 0, .slice none 0 0, .slice none 0 0, .slice none 0 0, .slice none 0 0, .int .i64 0, .int .i64 0]) := fun _ => by kernel_rfl
theorem GooQ_ag_api_World : Ag Try.prog 46 true := fun _ => by kernel_rfl
theorem GooQ_sz_api_World : Sz Try.prog 46 9 := fun _ => by kernel_rfl
theorem GooQ_en_troop_Check : Enters Try.prog 27 := en Try.func27 (by kernel_rfl) (by kernel_rfl)
theorem GooQ_el_S_bool : ElT Try.prog repB 102 4 1 := ElT.mk_ (z := .bool false) (k := 1) Try.underlying102 (by kernel_rfl) rfl rfl (by decide) (fun j u h => raw0B j u h)
theorem Wd.deed_mine {W : Wd} {d : Ded} (h : d.kind = 1) : W.deed d = W.mine d := by unfold Wd.deed; rw [if_pos h]
theorem Wd.deed_drop {W : Wd} {d : Ded} (h : d.kind = 2) : W.deed d = W.drop d := by unfold Wd.deed; rw [if_neg (by omega), if_pos h]
theorem Wd.deed_hire {W : Wd} {d : Ded} (h : d.kind = 3) : W.deed d = W.hire d := by unfold Wd.deed; rw [if_neg (by omega), if_neg (by omega), if_pos h]
theorem Wd.deed_no {W : Wd} {d : Ded} (h1 : ¬ d.kind = 1) (h2 : ¬ d.kind = 2) (h3 : ¬ d.kind = 3) : W.deed d = none := by unfold Wd.deed; rw [if_neg h1, if_neg h2, if_neg h3]
def Wd.doE (W : Wd) (l : List Ded) : Int := if W.chk ≠ 0 then W.chk else if 200 < l.length then 2 else 0
def Wd.doW (W : Wd) (l : List Ded) : Wd := if W.doE l = 0 then (W.deeds l).1 else Wd.zero
def Wd.doB (W : Wd) (l : List Ded) : List Bool := if W.doE l = 0 then (W.deeds l).2 else []
/-- What goods.Do leaves. -/
def DoPost (W : Wd) (l : List Ded) (w : World) (e : Ending) (w' : World) : Prop :=
  ∃ a' A c, e = .returned (.tuple #[.agg (Wd.cells a' (W.doW l)).toArray, .slice A (W.doB l).length c, .int .i64 (W.doE l)]) ∧ WOwn w' w.heap.size a' (W.doW l) ∧ repB.SOwn 4 1 w' w.heap.size (Rep.blkOf A) A c (W.doB l) ∧ (∀ q ∈ Rep.blkOf A, q ∉ WOwn.foot a') ∧ Ext w w'
theorem do_bad {W : Wd} {l : List Ded} (h : ¬ W.chk = 0) : W.doW l = Wd.zero ∧ W.doB l = [] ∧ W.doE l = W.chk := by
  have he : W.doE l = W.chk := by unfold Wd.doE; rw [if_pos h]
  unfold Wd.doW Wd.doB
  rw [he, if_neg h, if_neg h]
  exact ⟨rfl, rfl, rfl⟩
theorem do_large {W : Wd} {l : List Ded} (h : W.chk = 0) (hl : 200 < l.length) : W.doW l = Wd.zero ∧ W.doB l = [] ∧ W.doE l = 2 := by
  have he : W.doE l = 2 := by unfold Wd.doE; rw [if_neg (by simpa using h), if_pos hl]
  unfold Wd.doW Wd.doB
  rw [he]
  exact ⟨rfl, rfl, rfl⟩
theorem do_ok3 {W : Wd} {l : List Ded} (h : W.chk = 0) (hl : l.length ≤ 200) : W.doE l = 0 := by unfold Wd.doE; rw [if_neg (by simpa using h), if_neg (by omega)]
theorem do_ok1 {W : Wd} {l : List Ded} (h : W.chk = 0) (hl : l.length ≤ 200) : W.doW l = (W.deeds l).1 := by unfold Wd.doW; rw [if_pos (do_ok3 h hl)]
theorem do_ok2 {W : Wd} {l : List Ded} (h : W.chk = 0) (hl : l.length ≤ 200) : W.doB l = (W.deeds l).2 := by unfold Wd.doB; rw [if_pos (do_ok3 h hl)]
theorem deeds_snoc (W : Wd) (l : List Ded) (d : Ded) : W.deeds (l ++ [d]) = (((W.deeds l).1.deed d).getD (W.deeds l).1, (W.deeds l).2 ++ [((W.deeds l).1.deed d).isSome]) := by
  induction l generalizing W with
  | nil => simp only [List.nil_append, Wd.deeds]; cases W.deed d <;> rfl
  | cons x r ih =>
    simp only [List.cons_append, Wd.deeds]
    cases W.deed x with
    | none => simp only [ih]; rfl
    | some V => simp only [ih]; rfl
theorem deeds_take {W : Wd} {l : List Ded} {k : Nat} (hk : k < l.length) : W.deeds (l.take (k + 1)) = (((W.deeds (l.take k)).1.deed (l.getD k default)).getD (W.deeds (l.take k)).1, (W.deeds (l.take k)).2 ++ [((W.deeds (l.take k)).1.deed (l.getD k default)).isSome]) := by
  rw [← deeds_snoc, List.take_succ_eq_append_getElem hk]
  congr 3
  rw [List.getD_eq_getElem?_getD, List.getElem?_eq_getElem hk]; rfl
theorem deeds_len (W : Wd) (l : List Ded) : (W.deeds l).2.length = l.length := by
  induction l generalizing W with
  | nil => rfl
  | cons x r ih =>
    simp only [Wd.deeds]
    cases W.deed x with
    | none => simp only [List.length_cons, ih]
    | some V => simp only [List.length_cons, ih]
end Go.Proofs.Ytkijhejjnlmbmaa
