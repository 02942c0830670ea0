/-
  A load is mined; nothing turns that is not the shop's. (Printed by bin/goods_m.py.)
-/
import Derived.Test.YtkijhejjnlmbmaaWOwn2
import Derived.Test.YtkijhejjnlmbmaaGooB
set_option linter.unusedVariables false
set_option linter.unusedSimpArgs false
namespace Go.Proofs.Ytkijhejjnlmbmaa
open Go.RowKit

theorem GooK_ag_int : Ag Try.prog 3 false := fun _ => by kernel_rfl
theorem GooK_fd_api_Troop_2 : Fd Try.prog 51 2 2 := fun _ _ _ => by kernel_rfl
theorem GooK_fd_api_Troop_5 : Fd Try.prog 51 5 6 := fun _ _ _ => by kernel_rfl
theorem GooK_fd_api_Troop_3 : Fd Try.prog 51 3 3 := fun _ _ _ => by kernel_rfl
theorem GooK_ag_api_Cell : Ag Try.prog 42 true := fun _ => by kernel_rfl
theorem GooK_sz_api_Cell : Sz Try.prog 42 2 := fun _ => by kernel_rfl
theorem GooK_fd_api_World_0 : Fd Try.prog 46 0 0 := fun _ _ _ => by kernel_rfl
theorem GooK_ag_api_Field : Ag Try.prog 24 true := fun _ => by kernel_rfl
theorem GooK_sz_api_Field : Sz Try.prog 24 3 := fun _ => by kernel_rfl
theorem GooK_en_field_At : Enters Try.prog 24 := en Try.func24 (by kernel_rfl) (by kernel_rfl)
theorem GooK_fd_api_World_3 : Fd Try.prog 46 3 5 := fun _ _ _ => by kernel_rfl
theorem GooK_ag_S_int : Ag Try.prog 22 false := fun _ => by kernel_rfl
theorem GooK_fd_api_Cell_1 : Fd Try.prog 42 1 1 := fun _ _ _ => by kernel_rfl
theorem GooK_fd_api_Field_0 : Fd Try.prog 24 0 0 := fun _ _ _ => by kernel_rfl
theorem GooK_fd_api_Cell_0 : Fd Try.prog 42 0 0 := fun _ _ _ => by kernel_rfl
theorem GooK_sz_int : Sz Try.prog 3 1 := fun _ => by kernel_rfl
theorem WOwn.setM {w w1 : World} {Z : Nat} {a : Wd.At} {W : Wd} {l : List Int} (h : WOwn w Z a W) (m : Mod (Rep.blkOf a.M) w w1) (hM : repI.SOwn 3 8 w1 Z (Rep.blkOf a.M) a.M a.m l) : WOwn w1 Z a { W with mines := l } := by
  obtain ⟨d1, d2, d3⟩ := h.disj
  exact ⟨h.P.mod m fun x hx hs => (d1 x hs).1 hx, h.B.mod m fun x hx hs => (d1 x hs).2.1 hx, h.S.mod m fun x hx hs => (d1 x hs).2.2.1 hx, hM, h.T.mod m fun x hx hs => (d1 x hs).2.2.2 hx, h.apart, h.nums⟩
theorem WOwn.setT {w w1 : World} {Z : Nat} {a : Wd.At} {W : Wd} {l : List Trp} (h : WOwn w Z a W) (m : Mod (Rep.blkOf a.T) w w1) (hT : Trp.rep.SOwn 51 56 w1 Z (Rep.blkOf a.T) a.T a.t l) : WOwn w1 Z a { W with troops := l } := by
  obtain ⟨d1, d2, d3⟩ := h.disj
  exact ⟨h.P.mod m fun x hx hs => (d2 x hs).1 hx, h.B.mod m fun x hx hs => (d2 x hs).2.1 hx, h.S.mod m fun x hx hs => (d2 x hs).2.2.1 hx, h.M.mod m fun x hx hs => (d2 x hs).2.2.2 hx, hT, h.apart, h.nums⟩
theorem trOf_some {w : World} {Z : Nat} {a : Wd.At} {W : Wd} {id : Int} {k : Nat} (h : WOwn w Z a W) (hf : W.troops.findIdx? (isId id) = some k) : trOf a W id = some ⟨bA a.T, oA a.T + k * 7, none⟩ := by
  obtain ⟨t, ht, _⟩ := findId hf
  have hT : Trp.rep.SOwn 51 56 w Z (Rep.blkOf a.T) a.T a.t W.troops := h.T
  obtain ⟨g, hg⟩ := hT.block (by have := (List.getElem?_eq_some_iff.1 ht).1; omega)
  unfold trOf trAt
  rw [hf, hg]
  simp [bA, oA]
theorem trOf_none {a : Wd.At} {W : Wd} {id : Int} (hf : W.troops.findIdx? (isId id) = none) : trOf a W id = none := by unfold trOf; rw [hf]
theorem mine_none {W : Wd} {d : Ded} (hf : W.troops.findIdx? (isId d.who) = none) : W.mine d = none := by unfold Wd.mine; rw [hf]
theorem mine_no {W : Wd} {d : Ded} {k : Nat} {t : Trp} (hf : W.troops.findIdx? (isId d.who) = some k) (ht : W.troops[k]? = some t) (h : ((t.kind != 1 || decide (5 ≤ t.load)) || !beside t.spot d.spot) = true) : W.mine d = none := by
  rw [mine_eq hf ht, if_neg]
  intro hc
  simp only [Bool.and_eq_true, decide_eq_true_eq, beq_iff_eq] at hc
  simp only [hc.1.1.2, hc.1.1.1.1, Bool.or_eq_true, bne_self_eq_false, decide_eq_true_eq, Bool.not_true, Bool.false_eq_true, or_false, false_or] at h
  omega
theorem mine_out {W : Wd} {d : Ded} {k : Nat} {t : Trp} (hf : W.troops.findIdx? (isId d.who) = some k) (ht : W.troops[k]? = some t) (hF : W.field.chk = 0) (h : ¬ W.field.atE d.spot = 0) : W.mine d = none := by
  rw [mine_eq hf ht, if_neg]
  intro hc
  simp only [Bool.and_eq_true] at hc
  exact h (Fld.at_in hF hc.1.2).1
theorem mine_zero {W : Wd} {d : Ded} {k : Nat} {t : Trp} {m : Int} (hf : W.troops.findIdx? (isId d.who) = some k) (ht : W.troops[k]? = some t) (hm : W.mines.getD (W.place d.spot) 0 = m) (h : m = 0) : W.mine d = none := by
  rw [mine_eq hf ht, hm, h, if_neg (by simp)]
theorem mine_done {W : Wd} {d : Ded} {k : Nat} {t : Trp} {m : Int} (hf : W.troops.findIdx? (isId d.who) = some k) (ht : W.troops[k]? = some t) (hk : t.kind = 1) (hl : t.load < 5) (hb : beside t.spot d.spot = true) (hin : W.field.isIn d.spot = true) (hm : W.mines.getD (W.place d.spot) 0 = m) (h : ¬ m = 0) :
    W.mine d = some { W with mines := W.mines.set (W.place d.spot) (m - 1), troops := W.troops.set k (Wd.addLoad t 1) } := by
  rw [mine_eq hf ht, hm, if_pos]
  simp [hk, hl, hb, hin, h]
end Go.Proofs.Ytkijhejjnlmbmaa
