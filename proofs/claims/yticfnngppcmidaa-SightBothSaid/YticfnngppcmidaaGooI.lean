/-
  A free cell beside a base. (Printed by bin/gooF2.py.)
-/
import Derived.Test.YticfnngppcmidaaGooF
import Derived.Test.YticfnngppcmidaaGol
set_option linter.unusedVariables false
set_option linter.unusedSimpArgs false
namespace Go.Proofs.Yticfnngppcmidaa
open Go.RowKit

theorem GooI_zv_api_Cell : Zv Try.prog 37 (.agg #[.int .i64 0, .int .i64 0]) := fun _ => by kernel_rfl
theorem GooI_ag_api_Cell : Ag Try.prog 37 true := fun _ => by kernel_rfl
theorem GooI_sz_api_Cell : Sz Try.prog 37 2 := fun _ => by kernel_rfl
theorem GooI_fd_api_Cell_0 : Fd Try.prog 37 0 0 := fun _ _ _ => by kernel_rfl
theorem GooI_ag_int : Ag Try.prog 3 false := fun _ => by kernel_rfl
theorem GooI_fd_api_Cell_1 : Fd Try.prog 37 1 1 := fun _ _ _ => by kernel_rfl
theorem GooI_el_S_api_Cell : ElT Try.prog Cel.rep 25 37 16 := ElT.mk_ (z := Cel.zero) (k := 2) Try.underlying25 Cel.info rfl rfl (by decide) Cel.zero_raw
theorem GooI_fd_goods_shop_0 : Fd Try.prog 91 0 0 := fun _ _ _ => by kernel_rfl
theorem GooI_fd_api_World_0 : Fd Try.prog 28 0 0 := fun _ _ _ => by kernel_rfl
theorem GooI_ag_api_Field : Ag Try.prog 24 true := fun _ => by kernel_rfl
theorem GooI_sz_api_Field : Sz Try.prog 24 3 := fun _ => by kernel_rfl
theorem GooI_en_field_At : Enters Try.prog 50 := en Try.func50 (by kernel_rfl) (by kernel_rfl)
theorem GooI_fd_api_World_4 : Fd Try.prog 28 4 6 := fun _ _ _ => by kernel_rfl
theorem GooI_ag_S_api_Troop : Ag Try.prog 26 false := fun _ => by kernel_rfl
theorem GooI_en_slices_ContainsFunc_S_api_Troop_api_Troop_ : Enters Try.prog 92 := en Try.func92 (by kernel_rfl) (by kernel_rfl)
theorem open_eq {W : Wd} {c : Cel} (h : W.field.chk = 0) : ((W.field.atE c == 0 && W.field.atV c != 1) && !W.troops.any (isAt c)) = W.openTo c := by
  unfold Wd.openTo Fld.ground
  cases hi : W.field.isIn c with
  | false => rw [(Fld.at_out h hi).1]; rfl
  | true => rw [(Fld.at_in h hi).1, (Fld.at_in h hi).2]; rfl
theorem get_d' {α : Type} {l : List α} {j : Nat} {u : α} (h : j < l.length) : l.getD j u = l[j] := by rw [List.getD_eq_getElem?_getD, List.getElem?_eq_getElem h]; rfl
theorem free_some {W : Wd} {p : Cel} {k : Nat} (hk : k < 10) (hno : ∀ j, j < k → W.openTo ((Wd.around p).getD j default) = false) (h : W.openTo ((Wd.around p).getD k default) = true) : W.free p = some ((Wd.around p).getD k default) := by
  have hl : (Wd.around p).length = 10 := rfl
  unfold Wd.free
  rw [List.find?_eq_some_iff_getElem]
  refine ⟨h, k, by omega, (get_d' (by omega)).symm, fun j hj => ?_⟩
  have := hno j hj
  rw [get_d' (by omega)] at this
  simp [this]
theorem free_none {W : Wd} {p : Cel} (hno : ∀ j, j < 10 → W.openTo ((Wd.around p).getD j default) = false) : W.free p = none := by
  have hl : (Wd.around p).length = 10 := rfl
  unfold Wd.free
  rw [List.find?_eq_none]
  intro x hx
  obtain ⟨j, hj, rfl⟩ := List.mem_iff_getElem.1 hx
  have := hno j (by omega)
  rw [get_d' hj] at this
  simp [this]
set_option maxRecDepth 100000 in
set_option maxHeartbeats 400000 in
theorem free_any (p : Cel) (w : World) (Z S : Nat) (a : Wd.At) (W : Wd) (h : Shop w Z S a W) (hG : Good W) (hp : 0 ≤ p.x ∧ p.x ≤ 100 ∧ 0 ≤ p.y ∧ p.y ≤ 100) :
    Calls Try.prog 81 #[.pointer (some ⟨S, 0, none⟩), .agg #[.int .i64 p.x, .int .i64 p.y]] w (fun e w' => e = .returned (.tuple #[.agg (((W.free p).getD ⟨0, 0⟩).cells).toArray, .bool (W.free p).isSome]) ∧ Ext w w') := by
  have BS := h.blk
  have q0 := h.blk.lt
  have HT := h.own.T.has
  have HP := h.own.P.has
  refine calls_W (n := 70) Try.func81 rfl rfl rfl ?_
  refine sq <| rg <| bx rfl rfl rfl rfl fun w_1 b_2 x_3 l_4 B_5 => ?_
  have q_6 := x_3.size
  have z_1 := Ext.tr (Ext.rf w) x_3
  have q_7 := B_5.lt
  refine al rfl GooI_zv_api_Cell rfl rfl fun w_8 b_9 x_10 l_11 B_12 => ?_
  have q_13 := x_10.size
  have z_8 := Ext.tr z_1 x_10
  have q_14 := B_12.lt
  refine vl (as_ rfl) rfl <| nl <| nT <| sq <| rg <| ?_
  have B_5 := B_5.later x_10
  refine vl (ld rfl (B_5.all GooI_ag_api_Cell GooI_sz_api_Cell)) rfl <| bs (e := 37) (cs := [.int .i64 p.x, .int .i64 p.y]) rfl (fun _ => by kernel_rfl) rfl fun w_15 b_16 x_17 l_18 B_19 => ?_
  have q_20 := x_17.size
  have z_15 := Ext.tr z_8 x_17
  have q_21 := B_19.lt
  refine vl (as_ rfl) rfl <| nl <| nT <| sq <| sq <| rg <| vl (as_ rfl) rfl <| nl <| nT <| bk <| lu 4 <| lr <| sq <| sq <| rg <| vl (mv rfl) rfl <| vl (ble rfl rfl) rfl <| nl <| nT <| cT rfl <| sk <| nT <| sq <| bk <| ?_
  refine sq <| rg <| vl (as_ rfl) rfl <| nl <| nT <| bk <| lu 4 <| lr <| sq <| sq <| rg <| vl (mv rfl) rfl <| vl (ble rfl rfl) rfl <| nl <| nT <| cT rfl <| sk <| nT <| sq <| bk <| rg <| vl (mv rfl) rfl <| vl (fa GooI_fd_api_Cell_0 rfl) rfl <| ?_
  have B_5 := B_5.later x_17
  refine vl (ld rfl (B_5.one GooI_ag_int rfl)) rfl <| vl (mv rfl) rfl <| vl (bad rfl rfl (inI (by omega))) rfl <| vl (fa GooI_fd_api_Cell_1 rfl) rfl <| vl (ld rfl (B_5.one GooI_ag_int rfl)) rfl <| vl (mv rfl) rfl <| vl (bad rfl rfl (inI (by omega))) rfl <| vl (v := .agg #[.int .i64 (p.x + (-1)), .int .i64 (p.y + (-1))]) (bd rfl (by kernel_rfl)) rfl <| bs (e := 37) (cs := [.int .i64 (p.x + (-1)), .int .i64 (p.y + (-1))]) rfl (fun _ => by kernel_rfl) rfl fun w_22 b_23 x_24 l_25 B_26 => ?_
  have q_27 := x_24.size
  have z_22 := Ext.tr z_15 x_24
  have q_28 := B_26.lt
  have B_19 := B_19.later x_24
  have O_29 := Blk.ownN (R := Cel.rep) (by_ := 16) (B := w.heap.size) (k := [p]) B_19 [[.int .i64 p.x, .int .i64 p.y]] rfl (⟨⟨rfl, ⟨okI_iff.2 (by (try dsimp only); omega), okI_iff.2 (by (try dsimp only); omega)⟩⟩, trivial⟩) (by simp) (by simp) (by decide) (by omega)
  have u_30 := fun q hq => (O_29.lt q hq).2
  have lo_31 : ∀ q ∈ Rep.blkOf (some ⟨b_16, 0, none⟩), b_16 ≤ q := fun q hq => Nat.le_of_eq (List.mem_singleton.1 hq).symm
  refine ap GooI_el_S_api_Cell Rep.flat_bare O_29 (Blk.has1 (R := Cel.rep) (by_ := 16) (q := (⟨p.x + (-1), p.y + (-1)⟩ : Cel)) B_26 ⟨rfl, ⟨okI_iff.2 (by (try dsimp only); omega), okI_iff.2 (by (try dsimp only); omega)⟩⟩ (by decide)) rfl rfl (by first | (simp <;> omega) | omega) (by first | (simp <;> omega) | omega) z_22.size rfl fun w_32 A_33 c_34 m_35 O_36 g_37 n_38 => ?_
  have q_39 := m_35.size
  have z_32 := Ext.mod z_22 m_35 (fun q hq => (O_29.lt q hq).1)
  have u_40 := fun q hq => (O_36.lt q hq).2
  have q_41 := m_35.size
  refine vl (as_ rfl) rfl <| nl <| nB <| nT <| rg <| vl (mv rfl) rfl <| vl (badL (r := 0) rfl rfl (by decide) (by decide)) rfl <| vl (as_ rfl) rfl <| nl <| nR <| lr <| sq <| sq <| rg <| vl (mv rfl) rfl <| vl (ble rfl rfl) rfl <| nl <| nT <| cT rfl <| sk <| nT <| sq <| bk <| rg <| ?_
  refine vl (mv rfl) rfl <| vl (fa GooI_fd_api_Cell_0 rfl) rfl <| ?_
  have B_5 := B_5.later x_24
  have d_42 : ∀ q ∈ Rep.blkOf (some ⟨b_16, 0, none⟩), q = b_2 → False := fun q hq hb => by (have := lo_31 q hq; omega)
  have B_5 := B_5.mod m_35 (fun hq => d_42 _ hq rfl)
  refine vl (ld rfl (B_5.one GooI_ag_int rfl)) rfl <| vl (mv rfl) rfl <| vl (bad rfl rfl (inI (by omega))) rfl <| vl (fa GooI_fd_api_Cell_1 rfl) rfl <| vl (ld rfl (B_5.one GooI_ag_int rfl)) rfl <| vl (mv rfl) rfl <| vl (bad rfl rfl (inI (by omega))) rfl <| vl (v := .agg #[.int .i64 (p.x + 0), .int .i64 (p.y + (-1))]) (bd rfl (by kernel_rfl)) rfl <| bs (e := 37) (cs := [.int .i64 (p.x + 0), .int .i64 (p.y + (-1))]) rfl (fun _ => by kernel_rfl) rfl fun w_43 b_44 x_45 l_46 B_47 => ?_
  have q_48 := x_45.size
  have z_43 := Ext.tr z_32 x_45
  have q_49 := B_47.lt
  have O_36 := O_36.later x_45
  refine ap GooI_el_S_api_Cell Rep.flat_bare O_36 (Blk.has1 (R := Cel.rep) (by_ := 16) (q := (⟨p.x + 0, p.y + (-1)⟩ : Cel)) B_47 ⟨rfl, ⟨okI_iff.2 (by (try dsimp only); omega), okI_iff.2 (by (try dsimp only); omega)⟩⟩ (by decide)) rfl rfl (by first | (simp <;> omega) | omega) (by first | (simp <;> omega) | omega) z_43.size rfl fun w_50 A_51 c_52 m_53 O_54 g_55 n_56 => ?_
  have q_57 := m_53.size
  have z_50 := Ext.mod z_43 m_53 (fun q hq => (O_36.lt q hq).1)
  have u_58 := fun q hq => (O_54.lt q hq).2
  have q_59 := m_53.size
  refine vl (as_ rfl) rfl <| nl <| nB <| nT <| rg <| vl (mv rfl) rfl <| vl (badL (r := 1) rfl rfl (by decide) (by decide)) rfl <| vl (as_ rfl) rfl <| nl <| nR <| lr <| sq <| sq <| rg <| vl (mv rfl) rfl <| vl (ble rfl rfl) rfl <| nl <| nT <| cT rfl <| sk <| nT <| sq <| bk <| rg <| ?_
  refine vl (mv rfl) rfl <| vl (fa GooI_fd_api_Cell_0 rfl) rfl <| ?_
  have B_5 := B_5.later x_45
  have d_60 : ∀ q ∈ Rep.blkOf A_33, q = b_2 → False := fun q hq hb => by (exact Or.elim (g_37 q hq) (fun k_61 => by (exact d_42 q k_61 hb)) (fun k_61 => by omega))
  have B_5 := B_5.mod m_53 (fun hq => d_60 _ hq rfl)
  refine vl (ld rfl (B_5.one GooI_ag_int rfl)) rfl <| vl (mv rfl) rfl <| vl (bad rfl rfl (inI (by omega))) rfl <| vl (fa GooI_fd_api_Cell_1 rfl) rfl <| vl (ld rfl (B_5.one GooI_ag_int rfl)) rfl <| vl (mv rfl) rfl <| vl (bad rfl rfl (inI (by omega))) rfl <| vl (v := .agg #[.int .i64 (p.x + 1), .int .i64 (p.y + (-1))]) (bd rfl (by kernel_rfl)) rfl <| bs (e := 37) (cs := [.int .i64 (p.x + 1), .int .i64 (p.y + (-1))]) rfl (fun _ => by kernel_rfl) rfl fun w_62 b_63 x_64 l_65 B_66 => ?_
  have q_67 := x_64.size
  have z_62 := Ext.tr z_50 x_64
  have q_68 := B_66.lt
  have O_54 := O_54.later x_64
  refine ap GooI_el_S_api_Cell Rep.flat_bare O_54 (Blk.has1 (R := Cel.rep) (by_ := 16) (q := (⟨p.x + 1, p.y + (-1)⟩ : Cel)) B_66 ⟨rfl, ⟨okI_iff.2 (by (try dsimp only); omega), okI_iff.2 (by (try dsimp only); omega)⟩⟩ (by decide)) rfl rfl (by first | (simp <;> omega) | omega) (by first | (simp <;> omega) | omega) z_62.size rfl fun w_69 A_70 c_71 m_72 O_73 g_74 n_75 => ?_
  have q_76 := m_72.size
  have z_69 := Ext.mod z_62 m_72 (fun q hq => (O_54.lt q hq).1)
  have u_77 := fun q hq => (O_73.lt q hq).2
  have q_78 := m_72.size
  refine vl (as_ rfl) rfl <| nl <| nB <| nT <| rg <| vl (mv rfl) rfl <| vl (badL (r := 2) rfl rfl (by decide) (by decide)) rfl <| vl (as_ rfl) rfl <| nl <| nR <| lr <| sq <| sq <| rg <| vl (mv rfl) rfl <| vl (ble rfl rfl) rfl <| nl <| nT <| cF rfl <| xt <| xT <| xK <| xB <| nB <| ?_
  refine nT <| rg <| vl (mv rfl) rfl <| vl (badL (r := 0) rfl rfl (by decide) (by decide)) rfl <| vl (as_ rfl) rfl <| nl <| nR <| lr <| sq <| sq <| rg <| vl (mv rfl) rfl <| vl (ble rfl rfl) rfl <| nl <| nT <| cT rfl <| sk <| nT <| sq <| bk <| sq <| rg <| vl (as_ rfl) rfl <| nl <| ?_
  refine nT <| bk <| lu 4 <| lr <| sq <| sq <| rg <| vl (mv rfl) rfl <| vl (ble rfl rfl) rfl <| nl <| nT <| cT rfl <| sk <| nT <| sq <| bk <| rg <| vl (mv rfl) rfl <| vl (fa GooI_fd_api_Cell_0 rfl) rfl <| ?_
  have B_5 := B_5.later x_64
  have d_79 : ∀ q ∈ Rep.blkOf A_51, q = b_2 → False := fun q hq hb => by (exact Or.elim (g_55 q hq) (fun k_80 => by (exact d_60 q k_80 hb)) (fun k_80 => by omega))
  have B_5 := B_5.mod m_72 (fun hq => d_79 _ hq rfl)
  refine vl (ld rfl (B_5.one GooI_ag_int rfl)) rfl <| vl (mv rfl) rfl <| vl (bad rfl rfl (inI (by omega))) rfl <| vl (fa GooI_fd_api_Cell_1 rfl) rfl <| vl (ld rfl (B_5.one GooI_ag_int rfl)) rfl <| vl (mv rfl) rfl <| vl (bad rfl rfl (inI (by omega))) rfl <| vl (v := .agg #[.int .i64 (p.x + (-1)), .int .i64 (p.y + 0)]) (bd rfl (by kernel_rfl)) rfl <| bs (e := 37) (cs := [.int .i64 (p.x + (-1)), .int .i64 (p.y + 0)]) rfl (fun _ => by kernel_rfl) rfl fun w_81 b_82 x_83 l_84 B_85 => ?_
  have q_86 := x_83.size
  have z_81 := Ext.tr z_69 x_83
  have q_87 := B_85.lt
  have O_73 := O_73.later x_83
  refine ap GooI_el_S_api_Cell Rep.flat_bare O_73 (Blk.has1 (R := Cel.rep) (by_ := 16) (q := (⟨p.x + (-1), p.y + 0⟩ : Cel)) B_85 ⟨rfl, ⟨okI_iff.2 (by (try dsimp only); omega), okI_iff.2 (by (try dsimp only); omega)⟩⟩ (by decide)) rfl rfl (by first | (simp <;> omega) | omega) (by first | (simp <;> omega) | omega) z_81.size rfl fun w_88 A_89 c_90 m_91 O_92 g_93 n_94 => ?_
  have q_95 := m_91.size
  have z_88 := Ext.mod z_81 m_91 (fun q hq => (O_73.lt q hq).1)
  have u_96 := fun q hq => (O_92.lt q hq).2
  have q_97 := m_91.size
  refine vl (as_ rfl) rfl <| nl <| nB <| nT <| rg <| vl (mv rfl) rfl <| vl (badL (r := 0) rfl rfl (by decide) (by decide)) rfl <| vl (as_ rfl) rfl <| nl <| nR <| lr <| sq <| sq <| rg <| vl (mv rfl) rfl <| vl (ble rfl rfl) rfl <| nl <| nT <| cT rfl <| sk <| nT <| sq <| bk <| rg <| ?_
  refine vl (mv rfl) rfl <| vl (fa GooI_fd_api_Cell_0 rfl) rfl <| ?_
  have B_5 := B_5.later x_83
  have d_98 : ∀ q ∈ Rep.blkOf A_70, q = b_2 → False := fun q hq hb => by (exact Or.elim (g_74 q hq) (fun k_99 => by (exact d_79 q k_99 hb)) (fun k_99 => by omega))
  have B_5 := B_5.mod m_91 (fun hq => d_98 _ hq rfl)
  refine vl (ld rfl (B_5.one GooI_ag_int rfl)) rfl <| vl (mv rfl) rfl <| vl (bad rfl rfl (inI (by omega))) rfl <| vl (fa GooI_fd_api_Cell_1 rfl) rfl <| vl (ld rfl (B_5.one GooI_ag_int rfl)) rfl <| vl (mv rfl) rfl <| vl (bad rfl rfl (inI (by omega))) rfl <| vl (v := .agg #[.int .i64 (p.x + 0), .int .i64 (p.y + 0)]) (bd rfl (by kernel_rfl)) rfl <| bs (e := 37) (cs := [.int .i64 (p.x + 0), .int .i64 (p.y + 0)]) rfl (fun _ => by kernel_rfl) rfl fun w_100 b_101 x_102 l_103 B_104 => ?_
  have q_105 := x_102.size
  have z_100 := Ext.tr z_88 x_102
  have q_106 := B_104.lt
  have O_92 := O_92.later x_102
  refine ap GooI_el_S_api_Cell Rep.flat_bare O_92 (Blk.has1 (R := Cel.rep) (by_ := 16) (q := (⟨p.x + 0, p.y + 0⟩ : Cel)) B_104 ⟨rfl, ⟨okI_iff.2 (by (try dsimp only); omega), okI_iff.2 (by (try dsimp only); omega)⟩⟩ (by decide)) rfl rfl (by first | (simp <;> omega) | omega) (by first | (simp <;> omega) | omega) z_100.size rfl fun w_107 A_108 c_109 m_110 O_111 g_112 n_113 => ?_
  have q_114 := m_110.size
  have z_107 := Ext.mod z_100 m_110 (fun q hq => (O_92.lt q hq).1)
  have u_115 := fun q hq => (O_111.lt q hq).2
  have q_116 := m_110.size
  refine vl (as_ rfl) rfl <| nl <| nB <| nT <| rg <| vl (mv rfl) rfl <| vl (badL (r := 1) rfl rfl (by decide) (by decide)) rfl <| vl (as_ rfl) rfl <| nl <| nR <| lr <| sq <| sq <| rg <| vl (mv rfl) rfl <| vl (ble rfl rfl) rfl <| nl <| nT <| cT rfl <| sk <| nT <| sq <| bk <| rg <| ?_
  refine vl (mv rfl) rfl <| vl (fa GooI_fd_api_Cell_0 rfl) rfl <| ?_
  have B_5 := B_5.later x_102
  have d_117 : ∀ q ∈ Rep.blkOf A_89, q = b_2 → False := fun q hq hb => by (exact Or.elim (g_93 q hq) (fun k_118 => by (exact d_98 q k_118 hb)) (fun k_118 => by omega))
  have B_5 := B_5.mod m_110 (fun hq => d_117 _ hq rfl)
  refine vl (ld rfl (B_5.one GooI_ag_int rfl)) rfl <| vl (mv rfl) rfl <| vl (bad rfl rfl (inI (by omega))) rfl <| vl (fa GooI_fd_api_Cell_1 rfl) rfl <| vl (ld rfl (B_5.one GooI_ag_int rfl)) rfl <| vl (mv rfl) rfl <| vl (bad rfl rfl (inI (by omega))) rfl <| vl (v := .agg #[.int .i64 (p.x + 1), .int .i64 (p.y + 0)]) (bd rfl (by kernel_rfl)) rfl <| bs (e := 37) (cs := [.int .i64 (p.x + 1), .int .i64 (p.y + 0)]) rfl (fun _ => by kernel_rfl) rfl fun w_119 b_120 x_121 l_122 B_123 => ?_
  have q_124 := x_121.size
  have z_119 := Ext.tr z_107 x_121
  have q_125 := B_123.lt
  have O_111 := O_111.later x_121
  refine ap GooI_el_S_api_Cell Rep.flat_bare O_111 (Blk.has1 (R := Cel.rep) (by_ := 16) (q := (⟨p.x + 1, p.y + 0⟩ : Cel)) B_123 ⟨rfl, ⟨okI_iff.2 (by (try dsimp only); omega), okI_iff.2 (by (try dsimp only); omega)⟩⟩ (by decide)) rfl rfl (by first | (simp <;> omega) | omega) (by first | (simp <;> omega) | omega) z_119.size rfl fun w_126 A_127 c_128 m_129 O_130 g_131 n_132 => ?_
  have q_133 := m_129.size
  have z_126 := Ext.mod z_119 m_129 (fun q hq => (O_111.lt q hq).1)
  have u_134 := fun q hq => (O_130.lt q hq).2
  have q_135 := m_129.size
  refine vl (as_ rfl) rfl <| nl <| nB <| nT <| rg <| vl (mv rfl) rfl <| vl (badL (r := 2) rfl rfl (by decide) (by decide)) rfl <| vl (as_ rfl) rfl <| nl <| nR <| lr <| sq <| sq <| rg <| vl (mv rfl) rfl <| vl (ble rfl rfl) rfl <| nl <| nT <| cF rfl <| xt <| xT <| xK <| xB <| nB <| ?_
  refine nT <| rg <| vl (mv rfl) rfl <| vl (badL (r := 1) rfl rfl (by decide) (by decide)) rfl <| vl (as_ rfl) rfl <| nl <| nR <| lr <| sq <| sq <| rg <| vl (mv rfl) rfl <| vl (ble rfl rfl) rfl <| nl <| nT <| cT rfl <| sk <| nT <| sq <| bk <| sq <| rg <| vl (as_ rfl) rfl <| nl <| ?_
  refine nT <| bk <| lu 4 <| lr <| sq <| sq <| rg <| vl (mv rfl) rfl <| vl (ble rfl rfl) rfl <| nl <| nT <| cT rfl <| sk <| nT <| sq <| bk <| rg <| vl (mv rfl) rfl <| vl (fa GooI_fd_api_Cell_0 rfl) rfl <| ?_
  have B_5 := B_5.later x_121
  have d_136 : ∀ q ∈ Rep.blkOf A_108, q = b_2 → False := fun q hq hb => by (exact Or.elim (g_112 q hq) (fun k_137 => by (exact d_117 q k_137 hb)) (fun k_137 => by omega))
  have B_5 := B_5.mod m_129 (fun hq => d_136 _ hq rfl)
  refine vl (ld rfl (B_5.one GooI_ag_int rfl)) rfl <| vl (mv rfl) rfl <| vl (bad rfl rfl (inI (by omega))) rfl <| vl (fa GooI_fd_api_Cell_1 rfl) rfl <| vl (ld rfl (B_5.one GooI_ag_int rfl)) rfl <| vl (mv rfl) rfl <| vl (bad rfl rfl (inI (by omega))) rfl <| vl (v := .agg #[.int .i64 (p.x + (-1)), .int .i64 (p.y + 1)]) (bd rfl (by kernel_rfl)) rfl <| bs (e := 37) (cs := [.int .i64 (p.x + (-1)), .int .i64 (p.y + 1)]) rfl (fun _ => by kernel_rfl) rfl fun w_138 b_139 x_140 l_141 B_142 => ?_
  have q_143 := x_140.size
  have z_138 := Ext.tr z_126 x_140
  have q_144 := B_142.lt
  have O_130 := O_130.later x_140
  refine ap GooI_el_S_api_Cell Rep.flat_bare O_130 (Blk.has1 (R := Cel.rep) (by_ := 16) (q := (⟨p.x + (-1), p.y + 1⟩ : Cel)) B_142 ⟨rfl, ⟨okI_iff.2 (by (try dsimp only); omega), okI_iff.2 (by (try dsimp only); omega)⟩⟩ (by decide)) rfl rfl (by first | (simp <;> omega) | omega) (by first | (simp <;> omega) | omega) z_138.size rfl fun w_145 A_146 c_147 m_148 O_149 g_150 n_151 => ?_
  have q_152 := m_148.size
  have z_145 := Ext.mod z_138 m_148 (fun q hq => (O_130.lt q hq).1)
  have u_153 := fun q hq => (O_149.lt q hq).2
  have q_154 := m_148.size
  refine vl (as_ rfl) rfl <| nl <| nB <| nT <| rg <| vl (mv rfl) rfl <| vl (badL (r := 0) rfl rfl (by decide) (by decide)) rfl <| vl (as_ rfl) rfl <| nl <| nR <| lr <| sq <| sq <| rg <| vl (mv rfl) rfl <| vl (ble rfl rfl) rfl <| nl <| nT <| cT rfl <| sk <| nT <| sq <| bk <| rg <| ?_
  refine vl (mv rfl) rfl <| vl (fa GooI_fd_api_Cell_0 rfl) rfl <| ?_
  have B_5 := B_5.later x_140
  have d_155 : ∀ q ∈ Rep.blkOf A_127, q = b_2 → False := fun q hq hb => by (exact Or.elim (g_131 q hq) (fun k_156 => by (exact d_136 q k_156 hb)) (fun k_156 => by omega))
  have B_5 := B_5.mod m_148 (fun hq => d_155 _ hq rfl)
  refine vl (ld rfl (B_5.one GooI_ag_int rfl)) rfl <| vl (mv rfl) rfl <| vl (bad rfl rfl (inI (by omega))) rfl <| vl (fa GooI_fd_api_Cell_1 rfl) rfl <| vl (ld rfl (B_5.one GooI_ag_int rfl)) rfl <| vl (mv rfl) rfl <| vl (bad rfl rfl (inI (by omega))) rfl <| vl (v := .agg #[.int .i64 (p.x + 0), .int .i64 (p.y + 1)]) (bd rfl (by kernel_rfl)) rfl <| bs (e := 37) (cs := [.int .i64 (p.x + 0), .int .i64 (p.y + 1)]) rfl (fun _ => by kernel_rfl) rfl fun w_157 b_158 x_159 l_160 B_161 => ?_
  have q_162 := x_159.size
  have z_157 := Ext.tr z_145 x_159
  have q_163 := B_161.lt
  have O_149 := O_149.later x_159
  refine ap GooI_el_S_api_Cell Rep.flat_bare O_149 (Blk.has1 (R := Cel.rep) (by_ := 16) (q := (⟨p.x + 0, p.y + 1⟩ : Cel)) B_161 ⟨rfl, ⟨okI_iff.2 (by (try dsimp only); omega), okI_iff.2 (by (try dsimp only); omega)⟩⟩ (by decide)) rfl rfl (by first | (simp <;> omega) | omega) (by first | (simp <;> omega) | omega) z_157.size rfl fun w_164 A_165 c_166 m_167 O_168 g_169 n_170 => ?_
  have q_171 := m_167.size
  have z_164 := Ext.mod z_157 m_167 (fun q hq => (O_149.lt q hq).1)
  have u_172 := fun q hq => (O_168.lt q hq).2
  have q_173 := m_167.size
  refine vl (as_ rfl) rfl <| nl <| nB <| nT <| rg <| vl (mv rfl) rfl <| vl (badL (r := 1) rfl rfl (by decide) (by decide)) rfl <| vl (as_ rfl) rfl <| nl <| nR <| lr <| sq <| sq <| rg <| vl (mv rfl) rfl <| vl (ble rfl rfl) rfl <| nl <| nT <| cT rfl <| sk <| nT <| sq <| bk <| rg <| ?_
  refine vl (mv rfl) rfl <| vl (fa GooI_fd_api_Cell_0 rfl) rfl <| ?_
  have B_5 := B_5.later x_159
  have d_174 : ∀ q ∈ Rep.blkOf A_146, q = b_2 → False := fun q hq hb => by (exact Or.elim (g_150 q hq) (fun k_175 => by (exact d_155 q k_175 hb)) (fun k_175 => by omega))
  have B_5 := B_5.mod m_167 (fun hq => d_174 _ hq rfl)
  refine vl (ld rfl (B_5.one GooI_ag_int rfl)) rfl <| vl (mv rfl) rfl <| vl (bad rfl rfl (inI (by omega))) rfl <| vl (fa GooI_fd_api_Cell_1 rfl) rfl <| vl (ld rfl (B_5.one GooI_ag_int rfl)) rfl <| vl (mv rfl) rfl <| vl (bad rfl rfl (inI (by omega))) rfl <| vl (v := .agg #[.int .i64 (p.x + 1), .int .i64 (p.y + 1)]) (bd rfl (by kernel_rfl)) rfl <| bs (e := 37) (cs := [.int .i64 (p.x + 1), .int .i64 (p.y + 1)]) rfl (fun _ => by kernel_rfl) rfl fun w_176 b_177 x_178 l_179 B_180 => ?_
  have q_181 := x_178.size
  have z_176 := Ext.tr z_164 x_178
  have q_182 := B_180.lt
  have O_168 := O_168.later x_178
  refine ap GooI_el_S_api_Cell Rep.flat_bare O_168 (Blk.has1 (R := Cel.rep) (by_ := 16) (q := (⟨p.x + 1, p.y + 1⟩ : Cel)) B_180 ⟨rfl, ⟨okI_iff.2 (by (try dsimp only); omega), okI_iff.2 (by (try dsimp only); omega)⟩⟩ (by decide)) rfl rfl (by first | (simp <;> omega) | omega) (by first | (simp <;> omega) | omega) z_176.size rfl fun w_183 A_184 c_185 m_186 O_187 g_188 n_189 => ?_
  have q_190 := m_186.size
  have z_183 := Ext.mod z_176 m_186 (fun q hq => (O_168.lt q hq).1)
  have u_191 := fun q hq => (O_187.lt q hq).2
  have q_192 := m_186.size
  refine vl (as_ rfl) rfl <| nl <| nB <| nT <| rg <| vl (mv rfl) rfl <| vl (badL (r := 2) rfl rfl (by decide) (by decide)) rfl <| vl (as_ rfl) rfl <| nl <| nR <| lr <| sq <| sq <| rg <| vl (mv rfl) rfl <| vl (ble rfl rfl) rfl <| nl <| nT <| cF rfl <| xt <| xT <| xK <| xB <| nB <| ?_
  refine nT <| rg <| vl (mv rfl) rfl <| vl (badL (r := 2) rfl rfl (by decide) (by decide)) rfl <| vl (as_ rfl) rfl <| nl <| nR <| lr <| sq <| sq <| rg <| vl (mv rfl) rfl <| vl (ble rfl rfl) rfl <| nl <| nT <| cF rfl <| xt <| xT <| xK <| xB <| nT <| sq <| sq <| rg <| ?_
  refine vl (mv rfl) rfl <| vl (ln Try.underlying25 rfl) rfl <| vl (mv rfl) rfl <| nl <| nT <| bk <| ?_
  have hL : [p] ++ [(⟨p.x + (-1), p.y + (-1)⟩ : Cel)] ++ [(⟨p.x + 0, p.y + (-1)⟩ : Cel)] ++ [(⟨p.x + 1, p.y + (-1)⟩ : Cel)] ++ [(⟨p.x + (-1), p.y + 0⟩ : Cel)] ++ [(⟨p.x + 0, p.y + 0⟩ : Cel)] ++ [(⟨p.x + 1, p.y + 0⟩ : Cel)] ++ [(⟨p.x + (-1), p.y + 1⟩ : Cel)] ++ [(⟨p.x + 0, p.y + 1⟩ : Cel)] ++ [(⟨p.x + 1, p.y + 1⟩ : Cel)] = (Wd.around p) := by simp [Wd.around, Int.sub_eq_add_neg]
  rw [hL] at O_187
  have BS := BS.later (Ext.tr x_3 (Ext.tr x_10 (Ext.tr x_17 x_24)))
  have d_194 : ∀ q ∈ Rep.blkOf (some ⟨b_16, 0, none⟩), q = S → False := fun q hq hb => by (have := lo_31 q hq; omega)
  have BS := BS.mod m_35 (fun hq => d_194 _ hq rfl)
  have BS := BS.later x_45
  have d_195 : ∀ q ∈ Rep.blkOf A_33, q = S → False := fun q hq hb => by (exact Or.elim (g_37 q hq) (fun k_196 => by (exact d_194 q k_196 hb)) (fun k_196 => by omega))
  have BS := BS.mod m_53 (fun hq => d_195 _ hq rfl)
  have BS := BS.later x_64
  have d_197 : ∀ q ∈ Rep.blkOf A_51, q = S → False := fun q hq hb => by (exact Or.elim (g_55 q hq) (fun k_198 => by (exact d_195 q k_198 hb)) (fun k_198 => by omega))
  have BS := BS.mod m_72 (fun hq => d_197 _ hq rfl)
  have BS := BS.later x_83
  have d_199 : ∀ q ∈ Rep.blkOf A_70, q = S → False := fun q hq hb => by (exact Or.elim (g_74 q hq) (fun k_200 => by (exact d_197 q k_200 hb)) (fun k_200 => by omega))
  have BS := BS.mod m_91 (fun hq => d_199 _ hq rfl)
  have BS := BS.later x_102
  have d_201 : ∀ q ∈ Rep.blkOf A_89, q = S → False := fun q hq hb => by (exact Or.elim (g_93 q hq) (fun k_202 => by (exact d_199 q k_202 hb)) (fun k_202 => by omega))
  have BS := BS.mod m_110 (fun hq => d_201 _ hq rfl)
  have BS := BS.later x_121
  have d_203 : ∀ q ∈ Rep.blkOf A_108, q = S → False := fun q hq hb => by (exact Or.elim (g_112 q hq) (fun k_204 => by (exact d_201 q k_204 hb)) (fun k_204 => by omega))
  have BS := BS.mod m_129 (fun hq => d_203 _ hq rfl)
  have BS := BS.later x_140
  have d_205 : ∀ q ∈ Rep.blkOf A_127, q = S → False := fun q hq hb => by (exact Or.elim (g_131 q hq) (fun k_206 => by (exact d_203 q k_206 hb)) (fun k_206 => by omega))
  have BS := BS.mod m_148 (fun hq => d_205 _ hq rfl)
  have BS := BS.later x_159
  have d_207 : ∀ q ∈ Rep.blkOf A_146, q = S → False := fun q hq hb => by (exact Or.elim (g_150 q hq) (fun k_208 => by (exact d_205 q k_208 hb)) (fun k_208 => by omega))
  have BS := BS.mod m_167 (fun hq => d_207 _ hq rfl)
  have BS := BS.later x_178
  have d_209 : ∀ q ∈ Rep.blkOf A_165, q = S → False := fun q hq hb => by (exact Or.elim (g_169 q hq) (fun k_210 => by (exact d_207 q k_210 hb)) (fun k_210 => by omega))
  have BS := BS.mod m_186 (fun hq => d_209 _ hq rfl)
  have B_12 := B_12.later (Ext.tr x_17 x_24)
  have d_211 : ∀ q ∈ Rep.blkOf (some ⟨b_16, 0, none⟩), q = b_9 → False := fun q hq hb => by (have := lo_31 q hq; omega)
  have B_12 := B_12.mod m_35 (fun hq => d_211 _ hq rfl)
  have B_12 := B_12.later x_45
  have d_212 : ∀ q ∈ Rep.blkOf A_33, q = b_9 → False := fun q hq hb => by (exact Or.elim (g_37 q hq) (fun k_213 => by (exact d_211 q k_213 hb)) (fun k_213 => by omega))
  have B_12 := B_12.mod m_53 (fun hq => d_212 _ hq rfl)
  have B_12 := B_12.later x_64
  have d_214 : ∀ q ∈ Rep.blkOf A_51, q = b_9 → False := fun q hq hb => by (exact Or.elim (g_55 q hq) (fun k_215 => by (exact d_212 q k_215 hb)) (fun k_215 => by omega))
  have B_12 := B_12.mod m_72 (fun hq => d_214 _ hq rfl)
  have B_12 := B_12.later x_83
  have d_216 : ∀ q ∈ Rep.blkOf A_70, q = b_9 → False := fun q hq hb => by (exact Or.elim (g_74 q hq) (fun k_217 => by (exact d_214 q k_217 hb)) (fun k_217 => by omega))
  have B_12 := B_12.mod m_91 (fun hq => d_216 _ hq rfl)
  have B_12 := B_12.later x_102
  have d_218 : ∀ q ∈ Rep.blkOf A_89, q = b_9 → False := fun q hq hb => by (exact Or.elim (g_93 q hq) (fun k_219 => by (exact d_216 q k_219 hb)) (fun k_219 => by omega))
  have B_12 := B_12.mod m_110 (fun hq => d_218 _ hq rfl)
  have B_12 := B_12.later x_121
  have d_220 : ∀ q ∈ Rep.blkOf A_108, q = b_9 → False := fun q hq hb => by (exact Or.elim (g_112 q hq) (fun k_221 => by (exact d_218 q k_221 hb)) (fun k_221 => by omega))
  have B_12 := B_12.mod m_129 (fun hq => d_220 _ hq rfl)
  have B_12 := B_12.later x_140
  have d_222 : ∀ q ∈ Rep.blkOf A_127, q = b_9 → False := fun q hq hb => by (exact Or.elim (g_131 q hq) (fun k_223 => by (exact d_220 q k_223 hb)) (fun k_223 => by omega))
  have B_12 := B_12.mod m_148 (fun hq => d_222 _ hq rfl)
  have B_12 := B_12.later x_159
  have d_224 : ∀ q ∈ Rep.blkOf A_146, q = b_9 → False := fun q hq hb => by (exact Or.elim (g_150 q hq) (fun k_225 => by (exact d_222 q k_225 hb)) (fun k_225 => by omega))
  have B_12 := B_12.mod m_167 (fun hq => d_224 _ hq rfl)
  have B_12 := B_12.later x_178
  have d_226 : ∀ q ∈ Rep.blkOf A_165, q = b_9 → False := fun q hq hb => by (exact Or.elim (g_169 q hq) (fun k_227 => by (exact d_224 q k_227 hb)) (fun k_227 => by omega))
  have B_12 := B_12.mod m_186 (fun hq => d_226 _ hq rfl)
  refine lp (fun mI EI wI => ∃ k : Nat, EI = [(0, .pointer (some ⟨S, 0, none⟩)), (4, .pointer (some ⟨b_9, 0, none⟩)), (35, .slice A_184 ((Wd.around p).length) c_185), (36, .int .i64 10), (37, .int .i64 (k : Int))] ∧ mI = 10 - k ∧ Ext w wI ∧ Blk wI S (Wd.cells a W) 91 (0, 0) ∧ Blk wI b_9 [.int .i64 0, .int .i64 0] 37 (0, 0) ∧ Cel.rep.SOwn 37 16 wI w.heap.size (Rep.blkOf A_184) A_184 c_185 ((Wd.around p)) ∧ (k ≤ 10) ∧ (∀ j, j < k → W.openTo ((Wd.around p).getD j default) = false)) _ _ ⟨0, rfl, rfl, z_183, BS, B_12, O_187, by omega, fun j hj => absurd hj (by omega)⟩ (.cons rfl (.cons rfl (.cons rfl (.cons (loI rfl (by first | omega | rfl | (simp <;> omega))) (.cons (loI rfl (by first | omega | rfl | (simp <;> omega))) .nil))))) ?_
  rintro m_228 E_229 w_193 ⟨k, rfl, rfl, z_193, BS, B_12, O_187, hk, hno⟩
  have q_230 := z_193.size
  have q_231 := BS.lt
  have q_232 := B_12.lt
  have u_233 := fun q hq => (O_187.lt q hq).2
  refine sq <| rg <| vl (blt rfl rfl) rfl <| nl <| nT <| sq <| ?_
  refine clt rfl (fun h_234 => ?_) (fun h_234 => ?_)
  · refine sk <| nT <| sq <| bk <| sq <| rg <| vl (iA k Try.underlying25 GooI_sz_api_Cell rfl rfl (O_187.has.adr (Nat.zero_lt_of_lt (show k < _ from (by show k < 10; omega)))) rfl (by show k < 10; omega)) rfl <| vl (ld rfl (Rep.SHas.elt hcC (by rw [← O_187.has.adr (Nat.zero_lt_of_lt (show k < _ from (by show k < 10; omega)))]; exact O_187.has) (get_d (l := (Wd.around p)) (u := default) (by show k < 10; omega)) GooI_ag_api_Cell GooI_sz_api_Cell)) rfl <| al rfl GooI_zv_api_Cell rfl rfl fun w_235 b_236 x_237 l_238 B_239 => ?_
    have q_240 := x_237.size
    have z_235 := Ext.tr z_193 x_237
    have q_241 := B_239.lt
    refine st (new := [.int .i64 ((((Wd.around p)).getD k default).x), .int .i64 ((((Wd.around p)).getD k default).y)]) rfl rfl B_239 rfl GooI_sz_api_Cell rfl rfl rfl fun w_242 m_243 B_239 => ?_
    have q_245 := m_243.size
    have z_242 := Ext.mod z_235 m_243 (by simp only [List.mem_singleton, forall_eq]; omega)
    have q_244 := m_243.size
    refine nl <| nT <| sq <| ?_
    refine rd [(4, 0), (5, 0), (6, 0)] [0, 1, 2, 3, 4, 5, 6, 7, 8, 9, 10, 11] (by kernel_rfl) (by kernel_rfl) ?_
    refine fw rfl rfl (fun _ => mv rfl) rfl <| fw rfl rfl (fun _ => nc rfl) rfl <| fw rfl rfl (fun _ => fa GooI_fd_goods_shop_0 rfl) rfl <| fw rfl rfl (fun _ => fa GooI_fd_api_World_0 rfl) rfl <| ?_
    have BS := BS.later x_237
    have BS := BS.mod m_243 (by simp only [List.mem_singleton]; omega)
    refine fq rfl rfl (fun _ x => ld rfl ((BS.later x).par [.int .i64 W.field.wide, .int .i64 W.field.high, .slice a.P W.field.places.length a.p] GooI_ag_api_Field GooI_sz_api_Field rfl)) rfl <| fq rfl rfl (fun _ x => ld rfl ((B_239.later x).all GooI_ag_api_Cell GooI_sz_api_Cell)) rfl <| fc rfl rfl GooI_en_field_At rfl (fun _ x => fldAt W.field ((Wd.around p).getD k default) a.P a.p _ (HP.keep (z_242.tr x))) rfl <| fw rfl rfl (fun _ => mv rfl) rfl <| fw rfl rfl (fun _ => ex rfl rfl) rfl <| fw rfl rfl (fun _ => ex rfl rfl) rfl <| fw rfl rfl (fun _ => as_ rfl) rfl <| fw rfl rfl (fun _ => as_ rfl) rfl <| fn fun w_246 x_247 => ?_
    have q_248 := x_247.size
    have z_246 := Ext.tr z_242 x_247
    refine nT <| sq <| rg <| vl (mv rfl) rfl <| vl (beq rfl rfl) rfl <| vl (mv rfl) rfl <| vQ rfl rfl rfl rfl (fun hc => mv rfl) rfl <| vQ rfl rfl rfl rfl (fun hc => bne (gt hc rfl) rfl) rfl <| vl (pA rfl rfl rfl rfl) rfl <| vl (mv rfl) rfl <| vQ rfl rfl rfl rfl (fun hc => mv rfl) rfl <| vQ rfl rfl rfl rfl (fun hc => nc (gt hc rfl)) rfl <| vQ rfl rfl rfl rfl (fun hc => fa GooI_fd_goods_shop_0 (gt hc rfl)) rfl <| vQ rfl rfl rfl rfl (fun hc => fa GooI_fd_api_World_4 (gt hc rfl)) rfl <| ?_
    have BS := BS.later x_247
    refine vQ rfl rfl rfl rfl (fun hc => ld (gt hc rfl) (BS.one GooI_ag_S_api_Troop rfl)) rfl <| vQ rfl rfl rfl rfl (fun hc => mf rfl rfl) rfl <| ?_
    have B_239 := B_239.later x_247
    refine vC rfl rfl rfl rfl GooI_en_slices_ContainsFunc_S_api_Troop_api_Troop_ (fun hc => ec (gt hc rfl) (ec (gt hc rfl) rfl)) (fun hc => has_fr ((Wd.around p).getD k default) b_236 a.T a.t W.troops _ (HT.keep z_246) ⟨B_239.cell 0, B_239.cell 1⟩) rfl fun w_249 x_250 => ?_
    have q_251 := x_250.size
    have z_249 := Ext.tr z_246 x_250
    refine vQ rfl rfl rfl rfl (fun hc => nt (gt hc rfl)) rfl <| vl (pA rfl rfl rfl rfl) rfl <| nl <| nT <| ?_
    refine cb rfl (fun h_252 => ?_) (fun h_252 => ?_)
    · rw [open_eq hG.field] at h_252
      refine sq <| rg <| ?_
      have B_239 := B_239.later x_250
      refine vl (ld rfl (B_239.all GooI_ag_api_Cell GooI_sz_api_Cell)) rfl <| ?_
      have B_12 := B_12.later x_237
      have B_12 := B_12.mod m_243 (by simp only [List.mem_singleton]; omega)
      have B_12 := B_12.later (Ext.tr x_247 x_250)
      refine st (new := [.int .i64 ((((Wd.around p)).getD k default).x), .int .i64 ((((Wd.around p)).getD k default).y)]) rfl rfl B_12 rfl GooI_sz_api_Cell rfl rfl rfl fun w_253 m_254 B_12 => ?_
      have q_256 := m_254.size
      have z_253 := Ext.mod z_249 m_254 (by simp only [List.mem_singleton, forall_eq]; omega)
      have q_255 := m_254.size
      refine vl (as_ rfl) rfl <| nl <| nT <| rt <| tB <| tT <| tK <| tB <| tT <| tR (.cell rfl (B_12.all GooI_ag_api_Cell GooI_sz_api_Cell) (.tmp rfl .nil)) <| ?_
      exact ⟨by rw [free_some (by omega) hno ‹_›]; rfl, z_253⟩
    · rw [open_eq hG.field] at h_252
      refine sk <| nB <| nT <| rg <| vl (bad rfl rfl (inI (by omega))) rfl <| vl (mv rfl) rfl <| nl <| ?_
      have BS := BS.later x_250
      have B_12 := B_12.later x_237
      have B_12 := B_12.mod m_243 (by simp only [List.mem_singleton]; omega)
      have B_12 := B_12.later (Ext.tr x_247 x_250)
      have O_187 := O_187.later x_237
      have O_187 := O_187.mod m_243 (fun q hq h => by have hb := List.mem_singleton.1 h; exfalso; (have := u_233 q hq; omega))
      have O_187 := O_187.later (Ext.tr x_247 x_250)
      exact nI _ _ ⟨k + 1, rfl, rfl, z_249, BS, B_12, O_187, by omega, lt_succ_all hno (by assumption)⟩ (by omega) (.cons rfl (.cons rfl (.cons rfl (.cons rfl (.cons (loI rfl (by first | omega | rfl | (simp <;> omega))) .nil)))))
  · refine xt <| xT <| xK <| xB <| nT <| sq <| rg <| vl (v := .agg #[.int .i64 0, .int .i64 0]) (bd rfl (by kernel_rfl)) rfl <| st (new := [.int .i64 0, .int .i64 0]) rfl rfl B_12 rfl GooI_sz_api_Cell rfl rfl rfl fun w_257 m_258 B_12 => ?_
    have q_260 := m_258.size
    have z_257 := Ext.mod z_193 m_258 (by simp only [List.mem_singleton, forall_eq]; omega)
    have q_259 := m_258.size
    refine vl (as_ rfl) rfl <| nl <| nT <| rt <| tR (.cell rfl (B_12.all GooI_ag_api_Cell GooI_sz_api_Cell) (.tmp rfl .nil)) <| ?_
    exact ⟨by rw [free_none (fun j hj => hno j (by omega))]; rfl, z_257⟩
end Go.Proofs.Yticfnngppcmidaa
