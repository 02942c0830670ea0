/-
  link.own. (Printed by bin/linkown.py.)
-/
import Derived.Test.YtfabhinehfhndaaLnC
import Derived.Test.YtfabhinehfhndaaCloS
import Derived.Test.YtfabhinehfhndaaClone
set_option linter.unusedVariables false
set_option linter.unusedSimpArgs false
namespace Go.Proofs.Ytfabhinehfhndaa
open Go.RowKit

theorem LnW_zv_api_Link : Zv Try.prog 55 (.agg #[.int .i64 0, .slice none 0 0, .int .i64 0, .int .i64 0, .slice none 0 0, .slice none 0 0, .slice none 0 0, .slice none 0 0]) := fun _ => by kernel_rfl
theorem LnW_fd_api_Link_1 : Fd Try.prog 55 1 1 := fun _ _ _ => by kernel_rfl
theorem LnW_ag_S_string : Ag Try.prog 53 false := fun _ => by kernel_rfl
theorem LnW_fd_api_Link_6 : Fd Try.prog 55 6 6 := fun _ _ _ => by kernel_rfl
theorem LnW_en_slices_Clone_S_string_string_ : Enters Try.prog 33 := en Try.func33 (by kernel_rfl) (by kernel_rfl)
theorem LnW_sz_S_string : Sz Try.prog 53 1 := fun _ => by kernel_rfl
theorem LnW_fd_api_Link_4 : Fd Try.prog 55 4 4 := fun _ _ _ => by kernel_rfl
theorem LnW_ag_S_int : Ag Try.prog 38 false := fun _ => by kernel_rfl
theorem LnW_fd_api_Link_5 : Fd Try.prog 55 5 5 := fun _ _ _ => by kernel_rfl
theorem LnW_fd_api_Link_7 : Fd Try.prog 55 7 7 := fun _ _ _ => by kernel_rfl
theorem LnW_en_slices_Clone_S_int_int_ : Enters Try.prog 34 := en Try.func34 (by kernel_rfl) (by kernel_rfl)
theorem LnW_sz_S_int : Sz Try.prog 38 1 := fun _ => by kernel_rfl
theorem LnW_ag_api_Link : Ag Try.prog 55 true := fun _ => by kernel_rfl
theorem LnW_sz_api_Link : Sz Try.prog 55 8 := fun _ => by kernel_rfl
set_option maxRecDepth 100000 in
set_option maxHeartbeats 400000 in
theorem lown_any (a : Lnk.At) (L : Lnk) (w : World) (hL : Lnk.Has w a L) :
    Calls Try.prog 58 #[.agg #[.int .i64 L.window, .slice a.S L.sent.length a.s, .int .i64 L.base, .int .i64 L.next, .slice a.W L.way.length a.w, .slice a.K L.acks.length a.k, .slice a.G L.got.length a.g, .slice a.H L.held.length a.h]] w (fun e w' => ∃ a', e = .returned (.agg (Lnk.cells a' L).toArray) ∧ LOwn w' w.heap.size a' L ∧ Ext w w') := by
  refine calls_W (n := 24) Try.func58 rfl rfl rfl ?_
  refine sq <| rg <| bx rfl rfl rfl rfl fun w_1 b_2 x_3 l_4 B_5 => ?_
  have q_6 := x_3.size
  have z_1 := Ext.tr (Ext.rf w) x_3
  have q_7 := B_5.lt
  refine al rfl LnW_zv_api_Link rfl rfl fun w_8 b_9 x_10 l_11 B_12 => ?_
  have q_13 := x_10.size
  have z_8 := Ext.tr z_1 x_10
  have q_14 := B_12.lt
  refine nl <| nT <| sq <| ?_
  refine rd [(1, 0), (2, 2), (4, 0), (5, 2), (7, 3), (9, 3)] [0, 1, 3, 4, 2, 6, 5, 7, 8, 9] (by kernel_rfl) (by kernel_rfl) ?_
  refine fw rfl rfl (fun _ => fa LnW_fd_api_Link_1 rfl) rfl <| ?_
  have B_5 := B_5.later x_10
  refine fq rfl rfl (fun _ x => ld rfl ((B_5.later x).one LnW_ag_S_string rfl)) rfl <| fw rfl rfl (fun _ => fa LnW_fd_api_Link_6 rfl) rfl <| fq rfl rfl (fun _ x => ld rfl ((B_5.later x).one LnW_ag_S_string rfl)) rfl <| fx rfl rfl rfl fun w_15 x_16 Q hK => ca LnW_en_slices_Clone_S_string_string_ rfl rfl ((clone_S _ _ L.sent _ (hL.S.keep (Ext.tr z_8 x_16))).mono ?_)
  rintro e w_20 ⟨A_17, c_17, rfl, OC_17, hn_17, x_21⟩
  refine ⟨_, rfl, hK _ _ ⟨Ext.tr x_16 x_21, ?_⟩⟩
  have q_22 := x_16.size
  have z_15 := Ext.tr z_8 x_16
  have q_23 := x_21.size
  have z_20 := Ext.tr z_15 x_21
  have u_18 := fun q hq => (OC_17.lt q hq).2
  have lo_19 := fun q hq => (OC_17.lt q hq).1
  refine fw rfl rfl (fun _ => fa LnW_fd_api_Link_1 rfl) rfl <| fx rfl rfl rfl fun w_24 x_25 Q hK => ca LnW_en_slices_Clone_S_string_string_ rfl rfl ((clone_S _ _ L.got _ (hL.G.keep (Ext.tr z_20 x_25))).mono ?_)
  rintro e w_29 ⟨A_26, c_26, rfl, OC_26, hn_26, x_30⟩
  refine ⟨_, rfl, hK _ _ ⟨Ext.tr x_25 x_30, ?_⟩⟩
  have q_31 := x_25.size
  have z_24 := Ext.tr z_20 x_25
  have q_32 := x_30.size
  have z_29 := Ext.tr z_24 x_30
  have u_27 := fun q hq => (OC_26.lt q hq).2
  have lo_28 := fun q hq => (OC_26.lt q hq).1
  have B_5 := B_5.later (Ext.tr x_16 (Ext.tr x_21 (Ext.tr x_25 x_30)))
  refine fb rfl rfl rfl fun w_33 x_34 Q hK => st (new := [.int .i64 L.window, .slice A_17 ((L.sent).length) c_17, .int .i64 L.base, .int .i64 L.next, .slice a.W L.way.length a.w, .slice a.K L.acks.length a.k, .slice a.G L.got.length a.g, .slice a.H L.held.length a.h]) rfl rfl (B_5.later x_34) rfl LnW_sz_S_string rfl rfl rfl fun w_35 m_36 B_5 => hK _ _ ?_
  have q_38 := x_34.size
  have z_33 := Ext.tr z_29 x_34
  have q_39 := m_36.size
  have z_35 := Ext.mod z_33 m_36 (by simp only [List.mem_singleton, forall_eq]; omega)
  have q_37 := m_36.size
  refine fw rfl rfl (fun _ => fa LnW_fd_api_Link_6 rfl) rfl <| fb rfl rfl rfl fun w_40 x_41 Q hK => st (new := [.int .i64 L.window, .slice A_17 ((L.sent).length) c_17, .int .i64 L.base, .int .i64 L.next, .slice a.W L.way.length a.w, .slice a.K L.acks.length a.k, .slice A_26 ((L.got).length) c_26, .slice a.H L.held.length a.h]) rfl rfl (B_5.later x_41) rfl LnW_sz_S_string rfl rfl rfl fun w_42 m_43 B_5 => hK _ _ ?_
  have q_45 := x_41.size
  have z_40 := Ext.tr z_35 x_41
  have q_46 := m_43.size
  have z_42 := Ext.mod z_40 m_43 (by simp only [List.mem_singleton, forall_eq]; omega)
  have q_44 := m_43.size
  refine fn fun w_47 x_48 => ?_
  have q_49 := x_48.size
  have z_47 := Ext.tr z_42 x_48
  refine nT <| sq <| ?_
  refine rd [(1, 0), (2, 2), (4, 0), (5, 2), (7, 0), (8, 2), (10, 3), (12, 3), (14, 3)] [0, 1, 3, 4, 6, 7, 2, 9, 5, 8, 10, 11, 12, 13, 14] (by kernel_rfl) (by kernel_rfl) ?_
  refine fw rfl rfl (fun _ => fa LnW_fd_api_Link_4 rfl) rfl <| ?_
  have B_5 := B_5.later x_48
  refine fq rfl rfl (fun _ x => ld rfl ((B_5.later x).one LnW_ag_S_int rfl)) rfl <| fw rfl rfl (fun _ => fa LnW_fd_api_Link_5 rfl) rfl <| fq rfl rfl (fun _ x => ld rfl ((B_5.later x).one LnW_ag_S_int rfl)) rfl <| fw rfl rfl (fun _ => fa LnW_fd_api_Link_7 rfl) rfl <| fq rfl rfl (fun _ x => ld rfl ((B_5.later x).one LnW_ag_S_int rfl)) rfl <| fx rfl rfl rfl fun w_50 x_51 Q hK => ca LnW_en_slices_Clone_S_int_int_ rfl rfl ((clone_I _ _ L.way _ (hL.W.keep (Ext.tr z_47 x_51))).mono ?_)
  rintro e w_55 ⟨A_52, c_52, rfl, OC_52, hn_52, x_56⟩
  refine ⟨_, rfl, hK _ _ ⟨Ext.tr x_51 x_56, ?_⟩⟩
  have q_57 := x_51.size
  have z_50 := Ext.tr z_47 x_51
  have q_58 := x_56.size
  have z_55 := Ext.tr z_50 x_56
  have u_53 := fun q hq => (OC_52.lt q hq).2
  have lo_54 := fun q hq => (OC_52.lt q hq).1
  refine fw rfl rfl (fun _ => fa LnW_fd_api_Link_4 rfl) rfl <| fx rfl rfl rfl fun w_59 x_60 Q hK => ca LnW_en_slices_Clone_S_int_int_ rfl rfl ((clone_I _ _ L.acks _ (hL.K.keep (Ext.tr z_55 x_60))).mono ?_)
  rintro e w_64 ⟨A_61, c_61, rfl, OC_61, hn_61, x_65⟩
  refine ⟨_, rfl, hK _ _ ⟨Ext.tr x_60 x_65, ?_⟩⟩
  have q_66 := x_60.size
  have z_59 := Ext.tr z_55 x_60
  have q_67 := x_65.size
  have z_64 := Ext.tr z_59 x_65
  have u_62 := fun q hq => (OC_61.lt q hq).2
  have lo_63 := fun q hq => (OC_61.lt q hq).1
  refine fx rfl rfl rfl fun w_68 x_69 Q hK => ca LnW_en_slices_Clone_S_int_int_ rfl rfl ((clone_I _ _ L.held _ (hL.H.keep (Ext.tr z_64 x_69))).mono ?_)
  rintro e w_73 ⟨A_70, c_70, rfl, OC_70, hn_70, x_74⟩
  refine ⟨_, rfl, hK _ _ ⟨Ext.tr x_69 x_74, ?_⟩⟩
  have q_75 := x_69.size
  have z_68 := Ext.tr z_64 x_69
  have q_76 := x_74.size
  have z_73 := Ext.tr z_68 x_74
  have u_71 := fun q hq => (OC_70.lt q hq).2
  have lo_72 := fun q hq => (OC_70.lt q hq).1
  have B_5 := B_5.later (Ext.tr x_51 (Ext.tr x_56 (Ext.tr x_60 (Ext.tr x_65 (Ext.tr x_69 x_74)))))
  refine fb rfl rfl rfl fun w_77 x_78 Q hK => st (new := [.int .i64 L.window, .slice A_17 ((L.sent).length) c_17, .int .i64 L.base, .int .i64 L.next, .slice A_52 ((L.way).length) c_52, .slice a.K L.acks.length a.k, .slice A_26 ((L.got).length) c_26, .slice a.H L.held.length a.h]) rfl rfl (B_5.later x_78) rfl LnW_sz_S_int rfl rfl rfl fun w_79 m_80 B_5 => hK _ _ ?_
  have q_82 := x_78.size
  have z_77 := Ext.tr z_73 x_78
  have q_83 := m_80.size
  have z_79 := Ext.mod z_77 m_80 (by simp only [List.mem_singleton, forall_eq]; omega)
  have q_81 := m_80.size
  refine fw rfl rfl (fun _ => fa LnW_fd_api_Link_5 rfl) rfl <| fb rfl rfl rfl fun w_84 x_85 Q hK => st (new := [.int .i64 L.window, .slice A_17 ((L.sent).length) c_17, .int .i64 L.base, .int .i64 L.next, .slice A_52 ((L.way).length) c_52, .slice A_61 ((L.acks).length) c_61, .slice A_26 ((L.got).length) c_26, .slice a.H L.held.length a.h]) rfl rfl (B_5.later x_85) rfl LnW_sz_S_int rfl rfl rfl fun w_86 m_87 B_5 => hK _ _ ?_
  have q_89 := x_85.size
  have z_84 := Ext.tr z_79 x_85
  have q_90 := m_87.size
  have z_86 := Ext.mod z_84 m_87 (by simp only [List.mem_singleton, forall_eq]; omega)
  have q_88 := m_87.size
  refine fw rfl rfl (fun _ => fa LnW_fd_api_Link_7 rfl) rfl <| fb rfl rfl rfl fun w_91 x_92 Q hK => st (new := [.int .i64 L.window, .slice A_17 ((L.sent).length) c_17, .int .i64 L.base, .int .i64 L.next, .slice A_52 ((L.way).length) c_52, .slice A_61 ((L.acks).length) c_61, .slice A_26 ((L.got).length) c_26, .slice A_70 ((L.held).length) c_70]) rfl rfl (B_5.later x_92) rfl LnW_sz_S_int rfl rfl rfl fun w_93 m_94 B_5 => hK _ _ ?_
  have q_96 := x_92.size
  have z_91 := Ext.tr z_86 x_92
  have q_97 := m_94.size
  have z_93 := Ext.mod z_91 m_94 (by simp only [List.mem_singleton, forall_eq]; omega)
  have q_95 := m_94.size
  refine fn fun w_98 x_99 => ?_
  have q_100 := x_99.size
  have z_98 := Ext.tr z_93 x_99
  refine nT <| sq <| rg <| ?_
  have B_5 := B_5.later x_99
  refine vl (ld rfl (B_5.all LnW_ag_api_Link LnW_sz_api_Link)) rfl <| ?_
  have B_12 := B_12.later (Ext.tr x_16 (Ext.tr x_21 (Ext.tr x_25 (Ext.tr x_30 x_34))))
  have B_12 := B_12.mod m_36 (by simp only [List.mem_singleton]; omega)
  have B_12 := B_12.later x_41
  have B_12 := B_12.mod m_43 (by simp only [List.mem_singleton]; omega)
  have B_12 := B_12.later (Ext.tr x_48 (Ext.tr x_51 (Ext.tr x_56 (Ext.tr x_60 (Ext.tr x_65 (Ext.tr x_69 (Ext.tr x_74 x_78)))))))
  have B_12 := B_12.mod m_80 (by simp only [List.mem_singleton]; omega)
  have B_12 := B_12.later x_85
  have B_12 := B_12.mod m_87 (by simp only [List.mem_singleton]; omega)
  have B_12 := B_12.later x_92
  have B_12 := B_12.mod m_94 (by simp only [List.mem_singleton]; omega)
  have B_12 := B_12.later x_99
  refine st (new := [.int .i64 L.window, .slice A_17 ((L.sent).length) c_17, .int .i64 L.base, .int .i64 L.next, .slice A_52 ((L.way).length) c_52, .slice A_61 ((L.acks).length) c_61, .slice A_26 ((L.got).length) c_26, .slice A_70 ((L.held).length) c_70]) rfl rfl B_12 rfl LnW_sz_api_Link rfl rfl rfl fun w_101 m_102 B_12 => ?_
  have q_104 := m_102.size
  have z_101 := Ext.mod z_98 m_102 (by simp only [List.mem_singleton, forall_eq]; omega)
  have q_103 := m_102.size
  refine nl <| nT <| rt <| tR (.cell rfl (B_12.all LnW_ag_api_Link LnW_sz_api_Link) .nil) <| ?_
  have OC_17 := OC_17.later (Ext.tr x_25 (Ext.tr x_30 x_34))
  have OC_17 := OC_17.mod m_36 (fun q hq h => by have hb := List.mem_singleton.1 h; exfalso; (have := lo_19 q hq; omega))
  have OC_17 := OC_17.later x_41
  have OC_17 := OC_17.mod m_43 (fun q hq h => by have hb := List.mem_singleton.1 h; exfalso; (have := lo_19 q hq; omega))
  have OC_17 := OC_17.later (Ext.tr x_48 (Ext.tr x_51 (Ext.tr x_56 (Ext.tr x_60 (Ext.tr x_65 (Ext.tr x_69 (Ext.tr x_74 x_78)))))))
  have OC_17 := OC_17.mod m_80 (fun q hq h => by have hb := List.mem_singleton.1 h; exfalso; (have := lo_19 q hq; omega))
  have OC_17 := OC_17.later x_85
  have OC_17 := OC_17.mod m_87 (fun q hq h => by have hb := List.mem_singleton.1 h; exfalso; (have := lo_19 q hq; omega))
  have OC_17 := OC_17.later x_92
  have OC_17 := OC_17.mod m_94 (fun q hq h => by have hb := List.mem_singleton.1 h; exfalso; (have := lo_19 q hq; omega))
  have OC_17 := OC_17.later x_99
  have OC_17 := OC_17.mod m_102 (fun q hq h => by have hb := List.mem_singleton.1 h; exfalso; (have := lo_19 q hq; omega))
  have OC_52 := OC_52.later (Ext.tr x_60 (Ext.tr x_65 (Ext.tr x_69 (Ext.tr x_74 x_78))))
  have OC_52 := OC_52.mod m_80 (fun q hq h => by have hb := List.mem_singleton.1 h; exfalso; (have := lo_54 q hq; omega))
  have OC_52 := OC_52.later x_85
  have OC_52 := OC_52.mod m_87 (fun q hq h => by have hb := List.mem_singleton.1 h; exfalso; (have := lo_54 q hq; omega))
  have OC_52 := OC_52.later x_92
  have OC_52 := OC_52.mod m_94 (fun q hq h => by have hb := List.mem_singleton.1 h; exfalso; (have := lo_54 q hq; omega))
  have OC_52 := OC_52.later x_99
  have OC_52 := OC_52.mod m_102 (fun q hq h => by have hb := List.mem_singleton.1 h; exfalso; (have := lo_54 q hq; omega))
  have OC_61 := OC_61.later (Ext.tr x_69 (Ext.tr x_74 x_78))
  have OC_61 := OC_61.mod m_80 (fun q hq h => by have hb := List.mem_singleton.1 h; exfalso; (have := lo_63 q hq; omega))
  have OC_61 := OC_61.later x_85
  have OC_61 := OC_61.mod m_87 (fun q hq h => by have hb := List.mem_singleton.1 h; exfalso; (have := lo_63 q hq; omega))
  have OC_61 := OC_61.later x_92
  have OC_61 := OC_61.mod m_94 (fun q hq h => by have hb := List.mem_singleton.1 h; exfalso; (have := lo_63 q hq; omega))
  have OC_61 := OC_61.later x_99
  have OC_61 := OC_61.mod m_102 (fun q hq h => by have hb := List.mem_singleton.1 h; exfalso; (have := lo_63 q hq; omega))
  have OC_26 := OC_26.later x_34
  have OC_26 := OC_26.mod m_36 (fun q hq h => by have hb := List.mem_singleton.1 h; exfalso; (have := lo_28 q hq; omega))
  have OC_26 := OC_26.later x_41
  have OC_26 := OC_26.mod m_43 (fun q hq h => by have hb := List.mem_singleton.1 h; exfalso; (have := lo_28 q hq; omega))
  have OC_26 := OC_26.later (Ext.tr x_48 (Ext.tr x_51 (Ext.tr x_56 (Ext.tr x_60 (Ext.tr x_65 (Ext.tr x_69 (Ext.tr x_74 x_78)))))))
  have OC_26 := OC_26.mod m_80 (fun q hq h => by have hb := List.mem_singleton.1 h; exfalso; (have := lo_28 q hq; omega))
  have OC_26 := OC_26.later x_85
  have OC_26 := OC_26.mod m_87 (fun q hq h => by have hb := List.mem_singleton.1 h; exfalso; (have := lo_28 q hq; omega))
  have OC_26 := OC_26.later x_92
  have OC_26 := OC_26.mod m_94 (fun q hq h => by have hb := List.mem_singleton.1 h; exfalso; (have := lo_28 q hq; omega))
  have OC_26 := OC_26.later x_99
  have OC_26 := OC_26.mod m_102 (fun q hq h => by have hb := List.mem_singleton.1 h; exfalso; (have := lo_28 q hq; omega))
  have OC_70 := OC_70.later x_78
  have OC_70 := OC_70.mod m_80 (fun q hq h => by have hb := List.mem_singleton.1 h; exfalso; (have := lo_72 q hq; omega))
  have OC_70 := OC_70.later x_85
  have OC_70 := OC_70.mod m_87 (fun q hq h => by have hb := List.mem_singleton.1 h; exfalso; (have := lo_72 q hq; omega))
  have OC_70 := OC_70.later x_92
  have OC_70 := OC_70.mod m_94 (fun q hq h => by have hb := List.mem_singleton.1 h; exfalso; (have := lo_72 q hq; omega))
  have OC_70 := OC_70.later x_99
  have OC_70 := OC_70.mod m_102 (fun q hq h => by have hb := List.mem_singleton.1 h; exfalso; (have := lo_72 q hq; omega))
  exact ⟨⟨A_17, A_52, A_61, A_26, A_70, c_17, c_52, c_61, c_26, c_70⟩, rfl, ⟨OC_17.down (by omega), OC_52.down (by omega), OC_61.down (by omega), OC_26.down (by omega), OC_70.down (by omega), fun q h1 h2 => by (have := lo_54 q h1; (have := u_18 q h2; omega)), fun q h1 h2 => by (have := lo_63 q h1; (have := u_18 q h2; omega)), fun q h1 h2 => by (have := lo_63 q h1; (have := u_53 q h2; omega)), fun q h1 h2 => by (have := lo_28 q h1; (have := u_18 q h2; omega)), fun q h1 h2 => by (have := lo_54 q h2; (have := u_27 q h1; omega)), fun q h1 h2 => by (have := lo_63 q h2; (have := u_27 q h1; omega)), fun q h1 h2 => by (have := lo_72 q h1; (have := u_18 q h2; omega)), fun q h1 h2 => by (have := lo_72 q h1; (have := u_53 q h2; omega)), fun q h1 h2 => by (have := lo_72 q h1; (have := u_62 q h2; omega)), fun q h1 h2 => by (have := lo_72 q h1; (have := u_27 q h2; omega)), hL.nums⟩, z_101⟩
end Go.Proofs.Ytfabhinehfhndaa
