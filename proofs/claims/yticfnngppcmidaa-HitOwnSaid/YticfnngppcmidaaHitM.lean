/-
  A soldier and a worker. (Printed by bin/hitlaw.py.)
-/
import Derived.Test.YticfnngppcmidaaHitL
import Derived.Test.YticfnngppcmidaaLawS
set_option linter.unusedVariables false
set_option linter.unusedSimpArgs false
namespace Go.Proofs.Yticfnngppcmidaa
open Go.RowKit

theorem HitM_en_mustkeep_small : Enters Try.prog 24 := en Try.func24 (by kernel_rfl) (by kernel_rfl)
theorem HitM_zv_api_World : Zv Try.prog 28 (.agg #[.int .i64 0, .int .i64 0, .slice none 0 0, .slice none 0 0, .slice none 0 0, .slice none 0 0, .slice none 0 0, .int .i64 0, .int .i64 0]) := fun _ => by kernel_rfl
theorem HitM_sz_api_World : Sz Try.prog 28 9 := fun _ => by kernel_rfl
theorem HitM_fd_api_World_1 : Fd Try.prog 28 1 3 := fun _ _ _ => by kernel_rfl
theorem HitM_ag_S_api_Cell : Ag Try.prog 25 false := fun _ => by kernel_rfl
theorem HitM_el_S_api_Cell : ElT Try.prog Cel.rep 25 37 16 := ElT.mk_ (z := Cel.zero) (k := 2) Try.underlying25 Cel.info rfl rfl (by decide) Cel.zero_raw
theorem HitM_sz_S_api_Cell : Sz Try.prog 25 1 := fun _ => by kernel_rfl
theorem HitM_fd_api_World_2 : Fd Try.prog 28 2 4 := fun _ _ _ => by kernel_rfl
theorem HitM_sz_S_int : Sz Try.prog 22 1 := fun _ => by kernel_rfl
theorem HitM_fd_api_World_5 : Fd Try.prog 28 5 7 := fun _ _ _ => by kernel_rfl
theorem HitM_sz_int : Sz Try.prog 3 1 := fun _ => by kernel_rfl
theorem HitM_fd_api_World_4 : Fd Try.prog 28 4 6 := fun _ _ _ => by kernel_rfl
theorem HitM_ag_S_api_Troop : Ag Try.prog 26 false := fun _ => by kernel_rfl
theorem HitM_el_S_api_Troop : ElT Try.prog Trp.rep 26 39 56 := ElT.mk_ (z := Trp.zero) (k := 7) Try.underlying26 Trp.info rfl rfl (by decide) Trp.zero_raw
theorem HitM_sz_S_api_Troop : Sz Try.prog 26 1 := fun _ => by kernel_rfl
theorem HitM_ag_api_World : Ag Try.prog 28 true := fun _ => by kernel_rfl
theorem HitM_en_hit_Blows : Enters Try.prog 33 := en Try.func33 (by kernel_rfl) (by kernel_rfl)
theorem HitM_en_slices_Equal_S_int_int_ : Enters Try.prog 30 := en Try.func30 (by kernel_rfl) (by kernel_rfl)
def hitV : Wd := ⟨⟨3, 1, [0, 0, 3]⟩, [⟨0, 0⟩] ++ [⟨2, 0⟩], [1, 1], [0, 0, 9], [⟨1, 0, 1, ⟨1, 0⟩, 10, 0⟩] ++ [⟨2, 1, 2, ⟨2, 0⟩, 5, 0⟩], 3, 0⟩
def hitL : List Blw := [⟨2, 1⟩, ⟨1, 2⟩, ⟨2, 1⟩]
theorem blows_lives (a : Wd.At) (A : Option Addr) (c : Nat) (w : World) (hW : Wd.Has w a hitV) (hl : Blw.rep.SHas 16 w A c hitL) :
    Calls Try.prog 33 #[.agg (Wd.cells a hitV).toArray, .slice A 3 c] w (fun e w' => ∃ A c, e = .returned (.tuple #[.slice A 2 c, .int .i64 0]) ∧ repI.SOwn 3 8 w' w.heap.size (Rep.blkOf A) A c [4, 1] ∧ Ext w w') := by
  have e1 : harmW hitV hitL = [4, 1] := by decide +kernel
  have e2 : blowE hitV hitL = 0 := by decide +kernel
  refine (blows_any a hitV hitL A c w hW hl).mono ?_
  rintro e w' ⟨A', c', he, h1, h2⟩
  rw [e1] at he h1; rw [e2] at he
  exact ⟨A', c', he, h1, h2⟩
set_option maxRecDepth 100000 in
set_option maxHeartbeats 400000 in
theorem hitLives_any  (w : World) :
    Calls Try.prog 34 #[] w (fun e w' => e = .returned (.bool true) ∧ Ext w w') := by
  refine calls_W (n := 37) Try.func34 rfl rfl rfl ?_
  refine sq <| rg <| vl (as_ rfl) rfl <| nl <| nT <| sq <| rg <| ca HitM_en_mustkeep_small rfl rfl ((small_any _).mono ?_)
  rintro e w_4 ⟨a_1, rfl, HO_1, x_5⟩
  refine ⟨_, rfl, ?_⟩
  have q_6 := x_5.size
  have z_4 := Ext.tr (Ext.rf w) x_5
  have u_2 := fun q hq => (HO_1.lt q hq).2
  have lo_3 := fun q hq => (HO_1.lt q hq).1
  have hp_HO_1 := HO_1.pairs
  have OP_HO_1 : repI.SOwn 3 8 w_4 w.heap.size (Rep.blkOf a_1.P) a_1.P a_1.p [0, 0, 3] := HO_1.P
  have u_7 := fun q hq => (OP_HO_1.lt q hq).2
  have lo_8 := fun q hq => (OP_HO_1.lt q hq).1
  have OS_HO_1 : repI.SOwn 3 8 w_4 w.heap.size (Rep.blkOf a_1.S) a_1.S a_1.s [20] := HO_1.S
  have u_9 := fun q hq => (OS_HO_1.lt q hq).2
  have lo_10 := fun q hq => (OS_HO_1.lt q hq).1
  have OM_HO_1 : repI.SOwn 3 8 w_4 w.heap.size (Rep.blkOf a_1.M) a_1.M a_1.m [0, 0, 9] := HO_1.M
  have u_11 := fun q hq => (OM_HO_1.lt q hq).2
  have lo_12 := fun q hq => (OM_HO_1.lt q hq).1
  have OB_HO_1 : Cel.rep.SOwn 37 16 w_4 w.heap.size (Rep.blkOf a_1.B) a_1.B a_1.b [(⟨0, 0⟩ : Cel)] := HO_1.B
  have u_13 := fun q hq => (OB_HO_1.lt q hq).2
  have lo_14 := fun q hq => (OB_HO_1.lt q hq).1
  have OT_HO_1 : Trp.rep.SOwn 39 56 w_4 w.heap.size (Rep.blkOf a_1.T) a_1.T a_1.t [(⟨1, 0, 1, ⟨1, 0⟩, 10, 0⟩ : Trp)] := HO_1.T
  have u_15 := fun q hq => (OT_HO_1.lt q hq).2
  have lo_16 := fun q hq => (OT_HO_1.lt q hq).1
  refine al rfl HitM_zv_api_World rfl rfl fun w_17 b_18 x_19 l_20 B_21 => ?_
  have q_22 := x_19.size
  have z_17 := Ext.tr z_4 x_19
  have q_23 := B_21.lt
  refine st (new := [.int .i64 3, .int .i64 1, .slice a_1.P 3 a_1.p, .slice a_1.B 1 a_1.b, .slice a_1.S 1 a_1.s, .slice a_1.M 3 a_1.m, .slice a_1.T 1 a_1.t, .int .i64 2, .int .i64 0]) rfl rfl B_21 rfl HitM_sz_api_World rfl rfl rfl fun w_24 m_25 B_21 => ?_
  have q_27 := m_25.size
  have z_24 := Ext.mod z_17 m_25 (by simp only [List.mem_singleton, forall_eq]; omega)
  have q_26 := m_25.size
  refine nl <| nT <| sq <| rg <| vl (fa HitM_fd_api_World_1 rfl) rfl <| vl (ld rfl (B_21.one HitM_ag_S_api_Cell rfl)) rfl <| vl (v := .agg #[.int .i64 2, .int .i64 0]) (bd rfl (by kernel_rfl)) rfl <| bs (e := 37) (cs := [.int .i64 2, .int .i64 0]) rfl (fun _ => by kernel_rfl) rfl fun w_28 b_29 x_30 l_31 B_32 => ?_
  have q_33 := x_30.size
  have z_28 := Ext.tr z_24 x_30
  have q_34 := B_32.lt
  have OB_HO_1 := OB_HO_1.later x_19
  have OB_HO_1 := OB_HO_1.mod m_25 (fun q hq h => by have hb := List.mem_singleton.1 h; exfalso; (have := u_13 q hq; omega))
  have OB_HO_1 := OB_HO_1.later x_30
  refine ap HitM_el_S_api_Cell Rep.flat_bare OB_HO_1 (Blk.has1 (R := Cel.rep) (by_ := 16) (q := (⟨2, 0⟩ : Cel)) B_32 ⟨rfl, ⟨okI_iff.2 (by (try dsimp only); omega), okI_iff.2 (by (try dsimp only); omega)⟩⟩ (by decide)) rfl rfl (by first | (simp <;> omega) | omega) (by first | (simp <;> omega) | omega) (by omega) rfl fun w_35 A_36 c_37 m_38 O_39 g_40 n_41 => ?_
  have q_42 := m_38.size
  have z_35 := Ext.mod z_28 m_38 (fun q hq => Nat.le_trans (by omega) (OB_HO_1.lt q hq).1)
  have u_43 := fun q hq => (O_39.lt q hq).2
  have q_44 := m_38.size
  refine bs (e := 3) (cs := [.int .i64 1, .int .i64 1]) rfl (fun _ => by kernel_rfl) rfl fun w_45 b_46 x_47 l_48 B_49 => ?_
  have q_50 := x_47.size
  have z_45 := Ext.tr z_35 x_47
  have q_51 := B_49.lt
  refine vl (fa HitM_fd_api_World_1 rfl) rfl <| ?_
  have B_21 := B_21.later x_30
  have d_52 : ∀ q ∈ Rep.blkOf a_1.B, q = b_18 → False := fun q hq hb => by (have := u_13 q hq; omega)
  have B_21 := B_21.mod m_38 (fun hq => d_52 _ hq rfl)
  have B_21 := B_21.later x_47
  refine st (new := [.int .i64 3, .int .i64 1, .slice a_1.P 3 a_1.p, .slice A_36 (([(⟨0, 0⟩ : Cel)] ++ [(⟨2, 0⟩ : Cel)]).length) c_37, .slice a_1.S 1 a_1.s, .slice a_1.M 3 a_1.m, .slice a_1.T 1 a_1.t, .int .i64 2, .int .i64 0]) rfl rfl B_21 rfl HitM_sz_S_api_Cell rfl rfl rfl fun w_53 m_54 B_21 => ?_
  have q_56 := m_54.size
  have z_53 := Ext.mod z_45 m_54 (by simp only [List.mem_singleton, forall_eq]; omega)
  have q_55 := m_54.size
  refine vl (fa HitM_fd_api_World_2 rfl) rfl <| st (new := [.int .i64 3, .int .i64 1, .slice a_1.P 3 a_1.p, .slice A_36 (([(⟨0, 0⟩ : Cel)] ++ [(⟨2, 0⟩ : Cel)]).length) c_37, .slice (some ⟨b_46, 0, none⟩) 2 2, .slice a_1.M 3 a_1.m, .slice a_1.T 1 a_1.t, .int .i64 2, .int .i64 0]) rfl rfl B_21 rfl HitM_sz_S_int rfl rfl rfl fun w_57 m_58 B_21 => ?_
  have q_60 := m_58.size
  have z_57 := Ext.mod z_53 m_58 (by simp only [List.mem_singleton, forall_eq]; omega)
  have q_59 := m_58.size
  refine vl (fa HitM_fd_api_World_5 rfl) rfl <| st (new := [.int .i64 3, .int .i64 1, .slice a_1.P 3 a_1.p, .slice A_36 (([(⟨0, 0⟩ : Cel)] ++ [(⟨2, 0⟩ : Cel)]).length) c_37, .slice (some ⟨b_46, 0, none⟩) 2 2, .slice a_1.M 3 a_1.m, .slice a_1.T 1 a_1.t, .int .i64 3, .int .i64 0]) rfl rfl B_21 rfl HitM_sz_int rfl rfl rfl fun w_61 m_62 B_21 => ?_
  have q_64 := m_62.size
  have z_61 := Ext.mod z_57 m_62 (by simp only [List.mem_singleton, forall_eq]; omega)
  have q_63 := m_62.size
  refine nl <| nT <| sq <| rg <| vl (fa HitM_fd_api_World_4 rfl) rfl <| vl (ld rfl (B_21.one HitM_ag_S_api_Troop rfl)) rfl <| vl (v := .agg #[.int .i64 2, .int .i64 0]) (bd rfl (by kernel_rfl)) rfl <| vl (v := .agg #[.int .i64 2, .int .i64 1, .int .i64 2, .int .i64 2, .int .i64 0, .int .i64 5, .int .i64 0]) (bd rfl (by kernel_rfl)) rfl <| bs (e := 39) (cs := [.int .i64 2, .int .i64 1, .int .i64 2, .int .i64 2, .int .i64 0, .int .i64 5, .int .i64 0]) rfl (fun _ => by kernel_rfl) rfl fun w_65 b_66 x_67 l_68 B_69 => ?_
  have q_70 := x_67.size
  have z_65 := Ext.tr z_61 x_67
  have q_71 := B_69.lt
  have OT_HO_1 := OT_HO_1.later x_19
  have OT_HO_1 := OT_HO_1.mod m_25 (fun q hq h => by have hb := List.mem_singleton.1 h; exfalso; (have := u_15 q hq; omega))
  have OT_HO_1 := OT_HO_1.later x_30
  have OT_HO_1 := OT_HO_1.mod m_38 (fun q hq h => by exfalso; (exact (fun q h1 h2 => hp_HO_1.BT q h2 h1) q hq h))
  have OT_HO_1 := OT_HO_1.later x_47
  have OT_HO_1 := OT_HO_1.mod m_54 (fun q hq h => by have hb := List.mem_singleton.1 h; exfalso; (have := u_15 q hq; omega))
  have OT_HO_1 := OT_HO_1.mod m_58 (fun q hq h => by have hb := List.mem_singleton.1 h; exfalso; (have := u_15 q hq; omega))
  have OT_HO_1 := OT_HO_1.mod m_62 (fun q hq h => by have hb := List.mem_singleton.1 h; exfalso; (have := u_15 q hq; omega))
  have OT_HO_1 := OT_HO_1.later x_67
  refine ap HitM_el_S_api_Troop Rep.flat_bare OT_HO_1 (Blk.has1 (R := Trp.rep) (by_ := 56) (q := (⟨2, 1, 2, ⟨2, 0⟩, 5, 0⟩ : Trp)) B_69 ⟨rfl, ⟨okI_iff.2 (by (try dsimp only); omega), okI_iff.2 (by (try dsimp only); omega), okI_iff.2 (by (try dsimp only); omega), okI_iff.2 (by (try dsimp only); omega), okI_iff.2 (by (try dsimp only); omega), okI_iff.2 (by (try dsimp only); omega), okI_iff.2 (by (try dsimp only); omega)⟩⟩ (by decide)) rfl rfl (by first | (simp <;> omega) | omega) (by first | (simp <;> omega) | omega) (by omega) rfl fun w_72 A_73 c_74 m_75 O_76 g_77 n_78 => ?_
  have q_79 := m_75.size
  have z_72 := Ext.mod z_65 m_75 (fun q hq => Nat.le_trans (by omega) (OT_HO_1.lt q hq).1)
  have u_80 := fun q hq => (O_76.lt q hq).2
  have q_81 := m_75.size
  refine vl (fa HitM_fd_api_World_4 rfl) rfl <| ?_
  have B_21 := B_21.later x_67
  have d_82 : ∀ q ∈ Rep.blkOf a_1.T, q = b_18 → False := fun q hq hb => by (have := u_15 q hq; omega)
  have B_21 := B_21.mod m_75 (fun hq => d_82 _ hq rfl)
  refine st (new := [.int .i64 3, .int .i64 1, .slice a_1.P 3 a_1.p, .slice A_36 (([(⟨0, 0⟩ : Cel)] ++ [(⟨2, 0⟩ : Cel)]).length) c_37, .slice (some ⟨b_46, 0, none⟩) 2 2, .slice a_1.M 3 a_1.m, .slice A_73 (([(⟨1, 0, 1, ⟨1, 0⟩, 10, 0⟩ : Trp)] ++ [(⟨2, 1, 2, ⟨2, 0⟩, 5, 0⟩ : Trp)]).length) c_74, .int .i64 3, .int .i64 0]) rfl rfl B_21 rfl HitM_sz_S_api_Troop rfl rfl rfl fun w_83 m_84 B_21 => ?_
  have q_86 := m_84.size
  have z_83 := Ext.mod z_72 m_84 (by simp only [List.mem_singleton, forall_eq]; omega)
  have q_85 := m_84.size
  refine nl <| nT <| sq <| rg <| vl (ld rfl (B_21.all HitM_ag_api_World HitM_sz_api_World)) rfl <| vl (v := .agg #[.int .i64 2, .int .i64 1]) (bd rfl (by kernel_rfl)) rfl <| vl (v := .agg #[.int .i64 1, .int .i64 2]) (bd rfl (by kernel_rfl)) rfl <| vl (v := .agg #[.int .i64 2, .int .i64 1]) (bd rfl (by kernel_rfl)) rfl <| bs (e := 69) (cs := [.int .i64 2, .int .i64 1, .int .i64 1, .int .i64 2, .int .i64 2, .int .i64 1]) rfl (fun _ => by kernel_rfl) rfl fun w_87 b_88 x_89 l_90 B_91 => ?_
  have q_92 := x_89.size
  have z_87 := Ext.tr z_83 x_89
  have q_93 := B_91.lt
  have OP_HO_1 := OP_HO_1.later x_19
  have OP_HO_1 := OP_HO_1.mod m_25 (fun q hq h => by have hb := List.mem_singleton.1 h; exfalso; (have := u_7 q hq; omega))
  have OP_HO_1 := OP_HO_1.later x_30
  have OP_HO_1 := OP_HO_1.mod m_38 (fun q hq h => by exfalso; (exact (fun q h1 h2 => hp_HO_1.PB q h2 h1) q h hq))
  have OP_HO_1 := OP_HO_1.later x_47
  have OP_HO_1 := OP_HO_1.mod m_54 (fun q hq h => by have hb := List.mem_singleton.1 h; exfalso; (have := u_7 q hq; omega))
  have OP_HO_1 := OP_HO_1.mod m_58 (fun q hq h => by have hb := List.mem_singleton.1 h; exfalso; (have := u_7 q hq; omega))
  have OP_HO_1 := OP_HO_1.mod m_62 (fun q hq h => by have hb := List.mem_singleton.1 h; exfalso; (have := u_7 q hq; omega))
  have OP_HO_1 := OP_HO_1.later x_67
  have OP_HO_1 := OP_HO_1.mod m_75 (fun q hq h => by exfalso; (exact (fun q h1 h2 => hp_HO_1.PT q h2 h1) q h hq))
  have OP_HO_1 := OP_HO_1.mod m_84 (fun q hq h => by have hb := List.mem_singleton.1 h; exfalso; (have := u_7 q hq; omega))
  have OP_HO_1 := OP_HO_1.later x_89
  have O_39 := O_39.later x_47
  have O_39 := O_39.mod m_54 (fun q hq h => by have hb := List.mem_singleton.1 h; exfalso; (exact Or.elim (g_40 q hq) (fun k_94 => by (exact d_52 q k_94 hb)) (fun k_94 => by omega)))
  have O_39 := O_39.mod m_58 (fun q hq h => by have hb := List.mem_singleton.1 h; exfalso; (exact Or.elim (g_40 q hq) (fun k_95 => by (exact d_52 q k_95 hb)) (fun k_95 => by omega)))
  have O_39 := O_39.mod m_62 (fun q hq h => by have hb := List.mem_singleton.1 h; exfalso; (exact Or.elim (g_40 q hq) (fun k_96 => by (exact d_52 q k_96 hb)) (fun k_96 => by omega)))
  have O_39 := O_39.later x_67
  have O_39 := O_39.mod m_75 (fun q hq h => by exfalso; (exact Or.elim (g_40 q hq) (fun k_97 => by (exact (fun q h1 h2 => hp_HO_1.BT q h2 h1) q h k_97)) (fun k_97 => by (have := u_15 q h; omega))))
  have O_39 := O_39.mod m_84 (fun q hq h => by have hb := List.mem_singleton.1 h; exfalso; (exact Or.elim (g_40 q hq) (fun k_98 => by (exact d_52 q k_98 hb)) (fun k_98 => by omega)))
  have O_39 := O_39.later x_89
  have B_49 := B_49.mod m_54 (by simp only [List.mem_singleton]; omega)
  have B_49 := B_49.mod m_58 (by simp only [List.mem_singleton]; omega)
  have B_49 := B_49.mod m_62 (by simp only [List.mem_singleton]; omega)
  have B_49 := B_49.later x_67
  have d_99 : ∀ q ∈ Rep.blkOf a_1.T, q = b_46 → False := fun q hq hb => by (have := u_15 q hq; omega)
  have B_49 := B_49.mod m_75 (fun hq => d_99 _ hq rfl)
  have B_49 := B_49.mod m_84 (by simp only [List.mem_singleton]; omega)
  have B_49 := B_49.later x_89
  have OM_HO_1 := OM_HO_1.later x_19
  have OM_HO_1 := OM_HO_1.mod m_25 (fun q hq h => by have hb := List.mem_singleton.1 h; exfalso; (have := u_11 q hq; omega))
  have OM_HO_1 := OM_HO_1.later x_30
  have OM_HO_1 := OM_HO_1.mod m_38 (fun q hq h => by exfalso; (exact (fun q h1 h2 => hp_HO_1.MB q h2 h1) q h hq))
  have OM_HO_1 := OM_HO_1.later x_47
  have OM_HO_1 := OM_HO_1.mod m_54 (fun q hq h => by have hb := List.mem_singleton.1 h; exfalso; (have := u_11 q hq; omega))
  have OM_HO_1 := OM_HO_1.mod m_58 (fun q hq h => by have hb := List.mem_singleton.1 h; exfalso; (have := u_11 q hq; omega))
  have OM_HO_1 := OM_HO_1.mod m_62 (fun q hq h => by have hb := List.mem_singleton.1 h; exfalso; (have := u_11 q hq; omega))
  have OM_HO_1 := OM_HO_1.later x_67
  have OM_HO_1 := OM_HO_1.mod m_75 (fun q hq h => by exfalso; (exact (fun q h1 h2 => hp_HO_1.MT q h2 h1) q h hq))
  have OM_HO_1 := OM_HO_1.mod m_84 (fun q hq h => by have hb := List.mem_singleton.1 h; exfalso; (have := u_11 q hq; omega))
  have OM_HO_1 := OM_HO_1.later x_89
  have O_76 := O_76.mod m_84 (fun q hq h => by have hb := List.mem_singleton.1 h; exfalso; (exact Or.elim (g_77 q hq) (fun k_100 => by (exact d_82 q k_100 hb)) (fun k_100 => by omega)))
  have O_76 := O_76.later x_89
  refine ca HitM_en_hit_Blows rfl rfl ((blows_lives ⟨a_1.P, A_36, some ⟨b_46, 0, none⟩, a_1.M, A_73, a_1.p, c_37, 2, a_1.m, c_74⟩ _ _ _ ⟨OP_HO_1.has, O_39.has, (Blk.hasN (R := repI) (by_ := 8) (k := [1, 1]) B_49 [[.int .i64 1], [.int .i64 1]] rfl (⟨⟨rfl, okI_iff.2 (by (try dsimp only); omega)⟩, ⟨⟨rfl, okI_iff.2 (by (try dsimp only); omega)⟩, trivial⟩⟩) (by simp) (by simp)), OM_HO_1.has, O_76.has, okI_iff.2 (by decide), okI_iff.2 (by decide), okI_iff.2 (by decide), okI_iff.2 (by decide)⟩ (Blk.hasN (R := Blw.rep) (by_ := 16) (k := [(⟨2, 1⟩ : Blw), (⟨1, 2⟩ : Blw), (⟨2, 1⟩ : Blw)]) B_91 [[.int .i64 2, .int .i64 1], [.int .i64 1, .int .i64 2], [.int .i64 2, .int .i64 1]] rfl (⟨⟨rfl, ⟨okI_iff.2 (by (try dsimp only); omega), okI_iff.2 (by (try dsimp only); omega)⟩⟩, ⟨⟨rfl, ⟨okI_iff.2 (by (try dsimp only); omega), okI_iff.2 (by (try dsimp only); omega)⟩⟩, ⟨⟨rfl, ⟨okI_iff.2 (by (try dsimp only); omega), okI_iff.2 (by (try dsimp only); omega)⟩⟩, trivial⟩⟩⟩) (by simp) (by simp))).mono ?_)
  rintro e w_104 ⟨A_101, c_101, rfl, OH_101, x_105⟩
  refine ⟨_, rfl, ?_⟩
  have q_106 := x_105.size
  have z_104 := Ext.tr z_87 x_105
  have u_102 := fun q hq => (OH_101.lt q hq).2
  have lo_103 := fun q hq => (OH_101.lt q hq).1
  refine vl (mv rfl) rfl <| vl (ex rfl rfl) rfl <| vl (ex rfl rfl) rfl <| vl (as_ rfl) rfl <| vl (as_ rfl) rfl <| nl <| nT <| sq <| rg <| vl (mv rfl) rfl <| vl (beq rfl rfl) rfl <| vl (mv rfl) rfl <| ug rfl rfl rfl <| vl (mv rfl) rfl <| ug rfl rfl rfl <| bs (e := 3) (cs := [.int .i64 4, .int .i64 1]) rfl (fun _ => by kernel_rfl) rfl fun w_107 b_108 x_109 l_110 B_111 => ?_
  have q_112 := x_109.size
  have z_107 := Ext.tr z_104 x_109
  have q_113 := B_111.lt
  refine ug rfl rfl rfl <| ?_
  have OH_101 := OH_101.later x_109
  refine ca HitM_en_slices_Equal_S_int_int_ rfl rfl ((equal_Z _ _ _ _ _ _ ([4, 1]) ([4, 1]) _ OH_101.has (Blk.hasN (R := repI) (by_ := 8) (k := [4, 1]) B_111 [[.int .i64 4], [.int .i64 1]] rfl (⟨⟨rfl, okI_iff.2 (by (try dsimp only); omega)⟩, ⟨⟨rfl, okI_iff.2 (by (try dsimp only); omega)⟩, trivial⟩⟩) (by simp) (by simp))).mono ?_)
  rintro e w_114 ⟨rfl, x_115⟩
  refine ⟨_, rfl, ?_⟩
  have q_116 := x_115.size
  have z_114 := Ext.tr z_107 x_115
  refine vl (pkT rfl rfl) rfl <| vl (as_ rfl) rfl <| nl <| nT <| rt <| tR (.tmp rfl .nil) <| ?_
  exact ⟨ret_true (by decide), z_114⟩
end Go.Proofs.Yticfnngppcmidaa
