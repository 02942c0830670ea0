/-
  What is carried is brought in. (Printed by bin/goods_d.py.)
-/
import Derived.Test.YtkijhejjnlmbmaaGooK
import Derived.Test.YtkijhejjnlmbmaaGooD
set_option linter.unusedVariables false
set_option linter.unusedSimpArgs false
namespace Go.Proofs.Ytkijhejjnlmbmaa
open Go.RowKit

theorem GooL_ag_int : Ag Try.prog 3 false := fun _ => by kernel_rfl
theorem GooL_fd_api_Troop_5 : Fd Try.prog 51 5 6 := fun _ _ _ => by kernel_rfl
theorem GooL_fd_api_World_1 : Fd Try.prog 46 1 3 := fun _ _ _ => by kernel_rfl
theorem GooL_ag_S_api_Cell : Ag Try.prog 43 false := fun _ => by kernel_rfl
theorem GooL_fd_api_Troop_1 : Fd Try.prog 51 1 1 := fun _ _ _ => by kernel_rfl
theorem GooL_sz_api_Cell : Sz Try.prog 42 2 := fun _ => by kernel_rfl
theorem GooL_ag_api_Cell : Ag Try.prog 42 true := fun _ => by kernel_rfl
theorem GooL_fd_api_Troop_3 : Fd Try.prog 51 3 3 := fun _ _ _ => by kernel_rfl
theorem GooL_fd_api_World_2 : Fd Try.prog 46 2 4 := fun _ _ _ => by kernel_rfl
theorem GooL_ag_S_int : Ag Try.prog 22 false := fun _ => by kernel_rfl
theorem GooL_sz_int : Sz Try.prog 3 1 := fun _ => by kernel_rfl
theorem drop_none {W : Wd} {d : Ded} (hf : W.troops.findIdx? (isId d.who) = none) : W.drop d = none := by unfold Wd.drop; rw [hf]
theorem drop_no {W : Wd} {d : Ded} {k : Nat} {t : Trp} {b : Cel} {s : Int} (hf : W.troops.findIdx? (isId d.who) = some k) (ht : W.troops[k]? = some t) (hb : W.bases[t.owner.toNat]? = some b) (hs : W.stocks[t.owner.toNat]? = some s) (h : (t.load == 0 || !beside b t.spot) = true) : W.drop d = none := by
  rw [drop_eq hf ht hb hs, if_neg]
  intro hc
  simp only [Bool.and_eq_true, bne_iff_ne] at hc
  simp only [hc.1.2, Bool.or_eq_true, beq_iff_eq, Bool.not_true, Bool.false_eq_true, or_false] at h
  exact hc.1.1 h
theorem drop_val2 {W : Wd} {d : Ded} {k : Nat} {t : Trp} {b : Cel} {s : Int} (hf : W.troops.findIdx? (isId d.who) = some k) (ht : W.troops[k]? = some t) (hb : W.bases[t.owner.toNat]? = some b) (hs : W.stocks[t.owner.toNat]? = some s) (hl : ¬ t.load = 0) (hbe : beside b t.spot = true) (hG : Good W) :
    (W.drop d).isSome = decide (0 < min t.load (1000000 - s)) ∧ (W.drop d).getD W = { W with stocks := W.stocks.set t.owner.toNat (s + min t.load (1000000 - s)), troops := W.troops.set k (Wd.addLoad t (-(min t.load (1000000 - s)))) } := by
  have h1 := (hG.troops k t ht).load.1
  have h2 := hG.stocks _ _ hs
  rw [drop_eq hf ht hb hs]
  by_cases hn : 0 < min t.load (1000000 - s)
  · rw [if_pos (by simp [hl, hbe, hn])]
    exact ⟨by simp [hn], rfl⟩
  · rw [if_neg (by simp [hn])]
    have h0 : min t.load (1000000 - s) = 0 := by omega
    refine ⟨by simp [hn], ?_⟩
    rw [h0]
    have e1 : W.stocks.set t.owner.toNat (s + 0) = W.stocks := by rw [Int.add_zero]; exact set_same hs
    have e2 : W.troops.set k (Wd.addLoad t (-0)) = W.troops := by
      have : Wd.addLoad t (-0) = t := by unfold Wd.addLoad; simp
      rw [this]; exact set_same ht
    rw [e1, e2]; rfl
end Go.Proofs.Ytkijhejjnlmbmaa
