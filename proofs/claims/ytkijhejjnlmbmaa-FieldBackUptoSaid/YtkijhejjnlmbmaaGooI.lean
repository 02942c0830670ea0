/-
  A free cell beside a base. (Printed by bin/gooF2.py.)
-/
import Derived.Test.YtkijhejjnlmbmaaGooD
import Derived.Test.YtkijhejjnlmbmaaGol
set_option linter.unusedVariables false
set_option linter.unusedSimpArgs false
namespace Go.Proofs.Ytkijhejjnlmbmaa
open Go.RowKit

theorem GooI_zv_api_Cell : Zv Try.prog 42 (.agg #[.int .i64 0, .int .i64 0]) := fun _ => by kernel_rfl
theorem GooI_ag_api_Cell : Ag Try.prog 42 true := fun _ => by kernel_rfl
theorem GooI_sz_api_Cell : Sz Try.prog 42 2 := fun _ => by kernel_rfl
theorem GooI_fd_api_Cell_0 : Fd Try.prog 42 0 0 := fun _ _ _ => by kernel_rfl
theorem GooI_ag_int : Ag Try.prog 3 false := fun _ => by kernel_rfl
theorem GooI_fd_api_Cell_1 : Fd Try.prog 42 1 1 := fun _ _ _ => by kernel_rfl
theorem GooI_el_S_api_Cell : ElT Try.prog Cel.rep 43 42 16 := ElT.mk_ (z := Cel.zero) (k := 2) Try.underlying43 Cel.info rfl rfl (by decide) Cel.zero_raw
theorem GooI_fd_api_World_0 : Fd Try.prog 46 0 0 := fun _ _ _ => by kernel_rfl
theorem GooI_ag_api_Field : Ag Try.prog 24 true := fun _ => by kernel_rfl
theorem GooI_sz_api_Field : Sz Try.prog 24 3 := fun _ => by kernel_rfl
theorem GooI_en_field_At : Enters Try.prog 24 := en Try.func24 (by kernel_rfl) (by kernel_rfl)
theorem GooI_fd_api_World_4 : Fd Try.prog 46 4 6 := fun _ _ _ => by kernel_rfl
theorem GooI_ag_S_api_Troop : Ag Try.prog 44 false := fun _ => by kernel_rfl
theorem open_eq {W : Wd} {c : Cel} (h : W.field.chk = 0) : ((W.field.atE c == 0 && W.field.atV c != 1) && !W.troops.any (isAt c)) = W.openTo c := by
  unfold Wd.openTo Fld.ground
  cases hi : W.field.isIn c with
  | false => rw [(Fld.at_out h hi).1]; rfl
  | true => rw [(Fld.at_in h hi).1, (Fld.at_in h hi).2]; rfl
theorem get_d' {α : Type} {l : List α} {j : Nat} {u : α} (h : j < l.length) : l.getD j u = l[j] := by rw [List.getD_eq_getElem?_getD, List.getElem?_eq_getElem h]; rfl
theorem free_some {W : Wd} {p : Cel} {k : Nat} (hk : k < 10) (hno : ∀ j, j < k → W.openTo ((Wd.around p).getD j default) = false) (h : W.openTo ((Wd.around p).getD k default) = true) : W.free p = some ((Wd.around p).getD k default) := by
  have hl : (Wd.around p).length = 10 := rfl
  unfold Wd.free
  rw [List.find?_eq_some_iff_getElem]
  refine ⟨h, k, by omega, (get_d' (by omega)).symm, fun j hj => ?_⟩
  have := hno j hj
  rw [get_d' (by omega)] at this
  simp [this]
theorem free_none {W : Wd} {p : Cel} (hno : ∀ j, j < 10 → W.openTo ((Wd.around p).getD j default) = false) : W.free p = none := by
  have hl : (Wd.around p).length = 10 := rfl
  unfold Wd.free
  rw [List.find?_eq_none]
  intro x hx
  obtain ⟨j, hj, rfl⟩ := List.mem_iff_getElem.1 hx
  have := hno j (by omega)
  rw [get_d' hj] at this
  simp [this]
end Go.Proofs.Ytkijhejjnlmbmaa
