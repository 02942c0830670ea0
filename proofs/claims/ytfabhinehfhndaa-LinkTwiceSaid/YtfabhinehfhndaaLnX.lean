/-
  LinkTwice. (Printed by bin/linktwice.py.)
-/
import Derived.Test.YtfabhinehfhndaaLnY
import Derived.Test.YtfabhinehfhndaaLnH
set_option linter.unusedVariables false
set_option linter.unusedSimpArgs false
namespace Go.Proofs.Ytfabhinehfhndaa
open Go.RowKit

theorem LnX_ag_api_Link : Ag Try.prog 55 true := fun _ => by kernel_rfl
theorem LnX_sz_api_Link : Sz Try.prog 55 8 := fun _ => by kernel_rfl
theorem LnX_en_link_Do : Enters Try.prog 31 := en Try.func31 (by kernel_rfl) (by kernel_rfl)
theorem LnX_zv_api_Link : Zv Try.prog 55 (.agg #[.int .i64 0, .slice none 0 0, .int .i64 0, .int .i64 0, .slice none 0 0, .slice none 0 0, .slice none 0 0, .slice none 0 0]) := fun _ => by kernel_rfl
theorem LnX_en_mustkeep_linkLives : Enters Try.prog 27 := en Try.func27 (by kernel_rfl) (by kernel_rfl)
theorem LnX_fd_api_Link_5 : Fd Try.prog 55 5 5 := fun _ _ _ => by kernel_rfl
theorem LnX_ag_S_int : Ag Try.prog 38 false := fun _ => by kernel_rfl
theorem LnX_sz_int : Sz Try.prog 3 1 := fun _ => by kernel_rfl
theorem LnX_sz_S_int : Sz Try.prog 38 1 := fun _ => by kernel_rfl
theorem LnX_en_mustref_SameLink : Enters Try.prog 32 := en Try.func32 (by kernel_rfl) (by kernel_rfl)
theorem ok3 {i : Int} {k : Bool} (h : okI i) : (⟨3, i, k, .empty⟩ : Evt).ok := ⟨(by decide : (Lit.int .i64 3).wf = true), h, (by decide : (ByteArray.empty).size ≤ 140737488351232)⟩
set_option maxRecDepth 100000 in
set_option maxHeartbeats 400000 in
theorem linkTwice_b1 (a : Lnk.At) (L M B C : Lnk) (i : Int) (e f g : Int) (w : World) (hL : Lnk.Has w a L) (hi : okI i) (hM : L.doR ⟨3, i, true, .empty⟩ = (M, e)) (hB : M.doR ⟨3, i, false, .empty⟩ = (B, f)) (hC : L.doR ⟨3, i, false, .empty⟩ = (C, g)) (hne : (e != 0) = true) :
    Calls Try.prog 11 #[.agg #[.int .i64 L.window, .slice a.S L.sent.length a.s, .int .i64 L.base, .int .i64 L.next, .slice a.W L.way.length a.w, .slice a.K L.acks.length a.k, .slice a.G L.got.length a.g, .slice a.H L.held.length a.h], .int .i64 i] w (fun e w' => e = .returned (.bool true) ∧ Ext w w') := by
  have hio := okI_iff.1 hi
  refine calls_W (n := 62) Try.func11 rfl rfl rfl ?_
  refine sq <| rg <| bx rfl rfl rfl rfl fun w_1 b_2 x_3 l_4 B_5 => ?_
  have q_6 := x_3.size
  have z_1 := Ext.tr (Ext.rf w) x_3
  have q_7 := B_5.lt
  refine vl (as_ rfl) rfl <| nl <| nT <| sq <| rg <| vl (ld rfl (B_5.all LnX_ag_api_Link LnX_sz_api_Link)) rfl <| vl (mv rfl) rfl <| vl (v := .agg #[.int .i64 3, .int .i64 i, .bool true, .string .empty]) (bd rfl (by kernel_rfl)) rfl <| ?_
  have hDA := lDo_any a L ⟨3, i, true, .empty⟩ _ (hL.keep z_1) (ok3 hi)
  rw [hM] at hDA
  dsimp only at hDA
  refine ca LnX_en_link_Do rfl rfl ((hDA).mono ?_)
  rintro e w_18 ⟨aA, rfl, HTA, x_19⟩
  refine ⟨_, rfl, ?_⟩
  have q_20 := x_19.size
  have z_18 := Ext.tr z_1 x_19
  have bdHTA := fun q hq => HTA.lt (q := q) hq
  have loHTA := fun q hq => (HTA.lt (q := q) hq).1
  have MAS := HTA.S
  have u_8 := fun q hq => (MAS.lt q hq).2
  have lo_9 := fun q hq => (MAS.lt q hq).1
  have cMAS := MAS.has.1
  have eMAS := MAS.has.len_le
  have MAW := HTA.W
  have u_10 := fun q hq => (MAW.lt q hq).2
  have lo_11 := fun q hq => (MAW.lt q hq).1
  have cMAW := MAW.has.1
  have eMAW := MAW.has.len_le
  have MAK := HTA.K
  have u_12 := fun q hq => (MAK.lt q hq).2
  have lo_13 := fun q hq => (MAK.lt q hq).1
  have cMAK := MAK.has.1
  have eMAK := MAK.has.len_le
  have MAG := HTA.G
  have u_14 := fun q hq => (MAG.lt q hq).2
  have lo_15 := fun q hq => (MAG.lt q hq).1
  have cMAG := MAG.has.1
  have eMAG := MAG.has.len_le
  have MAH := HTA.H
  have u_16 := fun q hq => (MAH.lt q hq).2
  have lo_17 := fun q hq => (MAH.lt q hq).1
  have cMAH := MAH.has.1
  have eMAH := MAH.has.len_le
  refine vl (mv rfl) rfl <| vl (ex rfl rfl) rfl <| vl (ex rfl rfl) rfl <| al rfl LnX_zv_api_Link rfl rfl fun w_21 b_22 x_23 l_24 B_25 => ?_
  have q_26 := x_23.size
  have z_21 := Ext.tr z_18 x_23
  have q_27 := B_25.lt
  refine st (new := [.int .i64 M.window, .slice aA.S M.sent.length aA.s, .int .i64 M.base, .int .i64 M.next, .slice aA.W M.way.length aA.w, .slice aA.K M.acks.length aA.k, .slice aA.G M.got.length aA.g, .slice aA.H M.held.length aA.h]) rfl rfl B_25 rfl LnX_sz_api_Link rfl rfl rfl fun w_28 m_29 B_25 => ?_
  have q_31 := m_29.size
  have z_28 := Ext.mod z_21 m_29 (by simp only [List.mem_singleton, forall_eq]; omega)
  have q_30 := m_29.size
  refine vl (as_ rfl) rfl <| nl <| nT <| sq <| rg <| vl (ld rfl (B_25.all LnX_ag_api_Link LnX_sz_api_Link)) rfl <| vl (mv rfl) rfl <| vl (v := .agg #[.int .i64 3, .int .i64 i, .bool false, .string .empty]) (bd rfl (by kernel_rfl)) rfl <| ?_
  have HTA := HTA.later x_23
  have HTA := HTA.mod m_29 (fun q hq h => by have e_ := List.mem_singleton.1 h; have := bdHTA q hq; omega)
  have hDB := lDo_any aA M ⟨3, i, false, .empty⟩ _ HTA.has (ok3 hi)
  rw [hB] at hDB
  dsimp only at hDB
  refine ca LnX_en_link_Do rfl rfl ((hDB).mono ?_)
  rintro e w_42 ⟨aB, rfl, HTB, x_43⟩
  refine ⟨_, rfl, ?_⟩
  have q_44 := x_43.size
  have z_42 := Ext.tr z_28 x_43
  have bdHTB := fun q hq => HTB.lt (q := q) hq
  have loHTB := fun q hq => (HTB.lt (q := q) hq).1
  have MBS := HTB.S
  have u_32 := fun q hq => (MBS.lt q hq).2
  have lo_33 := fun q hq => (MBS.lt q hq).1
  have cMBS := MBS.has.1
  have eMBS := MBS.has.len_le
  have MBW := HTB.W
  have u_34 := fun q hq => (MBW.lt q hq).2
  have lo_35 := fun q hq => (MBW.lt q hq).1
  have cMBW := MBW.has.1
  have eMBW := MBW.has.len_le
  have MBK := HTB.K
  have u_36 := fun q hq => (MBK.lt q hq).2
  have lo_37 := fun q hq => (MBK.lt q hq).1
  have cMBK := MBK.has.1
  have eMBK := MBK.has.len_le
  have MBG := HTB.G
  have u_38 := fun q hq => (MBG.lt q hq).2
  have lo_39 := fun q hq => (MBG.lt q hq).1
  have cMBG := MBG.has.1
  have eMBG := MBG.has.len_le
  have MBH := HTB.H
  have u_40 := fun q hq => (MBH.lt q hq).2
  have lo_41 := fun q hq => (MBH.lt q hq).1
  have cMBH := MBH.has.1
  have eMBH := MBH.has.len_le
  refine vl (mv rfl) rfl <| vl (ex rfl rfl) rfl <| vl (ex rfl rfl) rfl <| al rfl LnX_zv_api_Link rfl rfl fun w_45 b_46 x_47 l_48 B_49 => ?_
  have q_50 := x_47.size
  have z_45 := Ext.tr z_42 x_47
  have q_51 := B_49.lt
  refine st (new := [.int .i64 B.window, .slice aB.S B.sent.length aB.s, .int .i64 B.base, .int .i64 B.next, .slice aB.W B.way.length aB.w, .slice aB.K B.acks.length aB.k, .slice aB.G B.got.length aB.g, .slice aB.H B.held.length aB.h]) rfl rfl B_49 rfl LnX_sz_api_Link rfl rfl rfl fun w_52 m_53 B_49 => ?_
  have q_55 := m_53.size
  have z_52 := Ext.mod z_45 m_53 (by simp only [List.mem_singleton, forall_eq]; omega)
  have q_54 := m_53.size
  refine vl (as_ rfl) rfl <| nl <| nT <| sq <| rg <| ?_
  have B_5 := B_5.later (Ext.tr x_19 x_23)
  have B_5 := B_5.mod m_29 (by simp only [List.mem_singleton]; omega)
  have B_5 := B_5.later (Ext.tr x_43 x_47)
  have B_5 := B_5.mod m_53 (by simp only [List.mem_singleton]; omega)
  refine vl (ld rfl (B_5.all LnX_ag_api_Link LnX_sz_api_Link)) rfl <| vl (mv rfl) rfl <| vl (v := .agg #[.int .i64 3, .int .i64 i, .bool false, .string .empty]) (bd rfl (by kernel_rfl)) rfl <| ?_
  have hDC := lDo_any a L ⟨3, i, false, .empty⟩ _ (hL.keep z_52) (ok3 hi)
  rw [hC] at hDC
  dsimp only at hDC
  refine ca LnX_en_link_Do rfl rfl ((hDC).mono ?_)
  rintro e w_66 ⟨aC, rfl, HTC, x_67⟩
  refine ⟨_, rfl, ?_⟩
  have q_68 := x_67.size
  have z_66 := Ext.tr z_52 x_67
  have bdHTC := fun q hq => HTC.lt (q := q) hq
  have loHTC := fun q hq => (HTC.lt (q := q) hq).1
  have MCS := HTC.S
  have u_56 := fun q hq => (MCS.lt q hq).2
  have lo_57 := fun q hq => (MCS.lt q hq).1
  have cMCS := MCS.has.1
  have eMCS := MCS.has.len_le
  have MCW := HTC.W
  have u_58 := fun q hq => (MCW.lt q hq).2
  have lo_59 := fun q hq => (MCW.lt q hq).1
  have cMCW := MCW.has.1
  have eMCW := MCW.has.len_le
  have MCK := HTC.K
  have u_60 := fun q hq => (MCK.lt q hq).2
  have lo_61 := fun q hq => (MCK.lt q hq).1
  have cMCK := MCK.has.1
  have eMCK := MCK.has.len_le
  have MCG := HTC.G
  have u_62 := fun q hq => (MCG.lt q hq).2
  have lo_63 := fun q hq => (MCG.lt q hq).1
  have cMCG := MCG.has.1
  have eMCG := MCG.has.len_le
  have MCH := HTC.H
  have u_64 := fun q hq => (MCH.lt q hq).2
  have lo_65 := fun q hq => (MCH.lt q hq).1
  have cMCH := MCH.has.1
  have eMCH := MCH.has.len_le
  refine vl (mv rfl) rfl <| vl (ex rfl rfl) rfl <| vl (ex rfl rfl) rfl <| al rfl LnX_zv_api_Link rfl rfl fun w_69 b_70 x_71 l_72 B_73 => ?_
  have q_74 := x_71.size
  have z_69 := Ext.tr z_66 x_71
  have q_75 := B_73.lt
  refine st (new := [.int .i64 C.window, .slice aC.S C.sent.length aC.s, .int .i64 C.base, .int .i64 C.next, .slice aC.W C.way.length aC.w, .slice aC.K C.acks.length aC.k, .slice aC.G C.got.length aC.g, .slice aC.H C.held.length aC.h]) rfl rfl B_73 rfl LnX_sz_api_Link rfl rfl rfl fun w_76 m_77 B_73 => ?_
  have q_79 := m_77.size
  have z_76 := Ext.mod z_69 m_77 (by simp only [List.mem_singleton, forall_eq]; omega)
  have q_78 := m_77.size
  refine vl (as_ rfl) rfl <| nl <| nT <| sq <| sq <| rg <| ca LnX_en_mustkeep_linkLives rfl rfl ((linkLives_any _).mono ?_)
  rintro e w_80 ⟨rfl, x_81⟩
  refine ⟨_, rfl, ?_⟩
  have q_82 := x_81.size
  have z_80 := Ext.tr z_76 x_81
  refine vl (nt rfl) rfl <| vl (mv rfl) rfl <| ug rfl rfl rfl <| vl (mv rfl) rfl <| ug rfl rfl rfl <| vl (bne rfl rfl) rfl <| vl (pkF rfl (evb rfl hne)) rfl <| vl (mv rfl) rfl <| vQ (v := undef) rfl rfl rfl rfl (fun hc => nomatch hc) rfl <| vQ (v := undef) rfl rfl rfl rfl (fun hc => nomatch hc) rfl <| vl (pkT rfl rfl) rfl <| nl <| nT <| cT rfl <| sq <| rg <| ca LnX_en_mustkeep_linkLives rfl rfl ((linkLives_any _).mono ?_)
  rintro e w_83 ⟨rfl, x_84⟩
  refine ⟨_, rfl, ?_⟩
  have q_85 := x_84.size
  have z_83 := Ext.tr z_80 x_84
  refine vl (as_ rfl) rfl <| nl <| nT <| rt <| tT <| tR (.tmp rfl .nil) <| ?_
  exact ⟨rfl, z_83⟩
set_option maxRecDepth 100000 in
set_option maxHeartbeats 400000 in
theorem linkTwice_b2 (a : Lnk.At) (L M B C : Lnk) (i : Int) (f g : Int) (w : World) (hL : Lnk.Has w a L) (hi : okI i) (hM : L.doR ⟨3, i, true, .empty⟩ = (M, 0)) (hB : M.doR ⟨3, i, false, .empty⟩ = (B, f)) (hC : L.doR ⟨3, i, false, .empty⟩ = (C, g)) (hne : (f != 0) = true) :
    Calls Try.prog 11 #[.agg #[.int .i64 L.window, .slice a.S L.sent.length a.s, .int .i64 L.base, .int .i64 L.next, .slice a.W L.way.length a.w, .slice a.K L.acks.length a.k, .slice a.G L.got.length a.g, .slice a.H L.held.length a.h], .int .i64 i] w (fun e w' => e = .returned (.bool true) ∧ Ext w w') := by
  have hio := okI_iff.1 hi
  refine calls_W (n := 62) Try.func11 rfl rfl rfl ?_
  refine sq <| rg <| bx rfl rfl rfl rfl fun w_1 b_2 x_3 l_4 B_5 => ?_
  have q_6 := x_3.size
  have z_1 := Ext.tr (Ext.rf w) x_3
  have q_7 := B_5.lt
  refine vl (as_ rfl) rfl <| nl <| nT <| sq <| rg <| vl (ld rfl (B_5.all LnX_ag_api_Link LnX_sz_api_Link)) rfl <| vl (mv rfl) rfl <| vl (v := .agg #[.int .i64 3, .int .i64 i, .bool true, .string .empty]) (bd rfl (by kernel_rfl)) rfl <| ?_
  have hDA := lDo_any a L ⟨3, i, true, .empty⟩ _ (hL.keep z_1) (ok3 hi)
  rw [hM] at hDA
  dsimp only at hDA
  refine ca LnX_en_link_Do rfl rfl ((hDA).mono ?_)
  rintro e w_18 ⟨aA, rfl, HTA, x_19⟩
  refine ⟨_, rfl, ?_⟩
  have q_20 := x_19.size
  have z_18 := Ext.tr z_1 x_19
  have bdHTA := fun q hq => HTA.lt (q := q) hq
  have loHTA := fun q hq => (HTA.lt (q := q) hq).1
  have MAS := HTA.S
  have u_8 := fun q hq => (MAS.lt q hq).2
  have lo_9 := fun q hq => (MAS.lt q hq).1
  have cMAS := MAS.has.1
  have eMAS := MAS.has.len_le
  have MAW := HTA.W
  have u_10 := fun q hq => (MAW.lt q hq).2
  have lo_11 := fun q hq => (MAW.lt q hq).1
  have cMAW := MAW.has.1
  have eMAW := MAW.has.len_le
  have MAK := HTA.K
  have u_12 := fun q hq => (MAK.lt q hq).2
  have lo_13 := fun q hq => (MAK.lt q hq).1
  have cMAK := MAK.has.1
  have eMAK := MAK.has.len_le
  have MAG := HTA.G
  have u_14 := fun q hq => (MAG.lt q hq).2
  have lo_15 := fun q hq => (MAG.lt q hq).1
  have cMAG := MAG.has.1
  have eMAG := MAG.has.len_le
  have MAH := HTA.H
  have u_16 := fun q hq => (MAH.lt q hq).2
  have lo_17 := fun q hq => (MAH.lt q hq).1
  have cMAH := MAH.has.1
  have eMAH := MAH.has.len_le
  refine vl (mv rfl) rfl <| vl (ex rfl rfl) rfl <| vl (ex rfl rfl) rfl <| al rfl LnX_zv_api_Link rfl rfl fun w_21 b_22 x_23 l_24 B_25 => ?_
  have q_26 := x_23.size
  have z_21 := Ext.tr z_18 x_23
  have q_27 := B_25.lt
  refine st (new := [.int .i64 M.window, .slice aA.S M.sent.length aA.s, .int .i64 M.base, .int .i64 M.next, .slice aA.W M.way.length aA.w, .slice aA.K M.acks.length aA.k, .slice aA.G M.got.length aA.g, .slice aA.H M.held.length aA.h]) rfl rfl B_25 rfl LnX_sz_api_Link rfl rfl rfl fun w_28 m_29 B_25 => ?_
  have q_31 := m_29.size
  have z_28 := Ext.mod z_21 m_29 (by simp only [List.mem_singleton, forall_eq]; omega)
  have q_30 := m_29.size
  refine vl (as_ rfl) rfl <| nl <| nT <| sq <| rg <| vl (ld rfl (B_25.all LnX_ag_api_Link LnX_sz_api_Link)) rfl <| vl (mv rfl) rfl <| vl (v := .agg #[.int .i64 3, .int .i64 i, .bool false, .string .empty]) (bd rfl (by kernel_rfl)) rfl <| ?_
  have HTA := HTA.later x_23
  have HTA := HTA.mod m_29 (fun q hq h => by have e_ := List.mem_singleton.1 h; have := bdHTA q hq; omega)
  have hDB := lDo_any aA M ⟨3, i, false, .empty⟩ _ HTA.has (ok3 hi)
  rw [hB] at hDB
  dsimp only at hDB
  refine ca LnX_en_link_Do rfl rfl ((hDB).mono ?_)
  rintro e w_42 ⟨aB, rfl, HTB, x_43⟩
  refine ⟨_, rfl, ?_⟩
  have q_44 := x_43.size
  have z_42 := Ext.tr z_28 x_43
  have bdHTB := fun q hq => HTB.lt (q := q) hq
  have loHTB := fun q hq => (HTB.lt (q := q) hq).1
  have MBS := HTB.S
  have u_32 := fun q hq => (MBS.lt q hq).2
  have lo_33 := fun q hq => (MBS.lt q hq).1
  have cMBS := MBS.has.1
  have eMBS := MBS.has.len_le
  have MBW := HTB.W
  have u_34 := fun q hq => (MBW.lt q hq).2
  have lo_35 := fun q hq => (MBW.lt q hq).1
  have cMBW := MBW.has.1
  have eMBW := MBW.has.len_le
  have MBK := HTB.K
  have u_36 := fun q hq => (MBK.lt q hq).2
  have lo_37 := fun q hq => (MBK.lt q hq).1
  have cMBK := MBK.has.1
  have eMBK := MBK.has.len_le
  have MBG := HTB.G
  have u_38 := fun q hq => (MBG.lt q hq).2
  have lo_39 := fun q hq => (MBG.lt q hq).1
  have cMBG := MBG.has.1
  have eMBG := MBG.has.len_le
  have MBH := HTB.H
  have u_40 := fun q hq => (MBH.lt q hq).2
  have lo_41 := fun q hq => (MBH.lt q hq).1
  have cMBH := MBH.has.1
  have eMBH := MBH.has.len_le
  refine vl (mv rfl) rfl <| vl (ex rfl rfl) rfl <| vl (ex rfl rfl) rfl <| al rfl LnX_zv_api_Link rfl rfl fun w_45 b_46 x_47 l_48 B_49 => ?_
  have q_50 := x_47.size
  have z_45 := Ext.tr z_42 x_47
  have q_51 := B_49.lt
  refine st (new := [.int .i64 B.window, .slice aB.S B.sent.length aB.s, .int .i64 B.base, .int .i64 B.next, .slice aB.W B.way.length aB.w, .slice aB.K B.acks.length aB.k, .slice aB.G B.got.length aB.g, .slice aB.H B.held.length aB.h]) rfl rfl B_49 rfl LnX_sz_api_Link rfl rfl rfl fun w_52 m_53 B_49 => ?_
  have q_55 := m_53.size
  have z_52 := Ext.mod z_45 m_53 (by simp only [List.mem_singleton, forall_eq]; omega)
  have q_54 := m_53.size
  refine vl (as_ rfl) rfl <| nl <| nT <| sq <| rg <| ?_
  have B_5 := B_5.later (Ext.tr x_19 x_23)
  have B_5 := B_5.mod m_29 (by simp only [List.mem_singleton]; omega)
  have B_5 := B_5.later (Ext.tr x_43 x_47)
  have B_5 := B_5.mod m_53 (by simp only [List.mem_singleton]; omega)
  refine vl (ld rfl (B_5.all LnX_ag_api_Link LnX_sz_api_Link)) rfl <| vl (mv rfl) rfl <| vl (v := .agg #[.int .i64 3, .int .i64 i, .bool false, .string .empty]) (bd rfl (by kernel_rfl)) rfl <| ?_
  have hDC := lDo_any a L ⟨3, i, false, .empty⟩ _ (hL.keep z_52) (ok3 hi)
  rw [hC] at hDC
  dsimp only at hDC
  refine ca LnX_en_link_Do rfl rfl ((hDC).mono ?_)
  rintro e w_66 ⟨aC, rfl, HTC, x_67⟩
  refine ⟨_, rfl, ?_⟩
  have q_68 := x_67.size
  have z_66 := Ext.tr z_52 x_67
  have bdHTC := fun q hq => HTC.lt (q := q) hq
  have loHTC := fun q hq => (HTC.lt (q := q) hq).1
  have MCS := HTC.S
  have u_56 := fun q hq => (MCS.lt q hq).2
  have lo_57 := fun q hq => (MCS.lt q hq).1
  have cMCS := MCS.has.1
  have eMCS := MCS.has.len_le
  have MCW := HTC.W
  have u_58 := fun q hq => (MCW.lt q hq).2
  have lo_59 := fun q hq => (MCW.lt q hq).1
  have cMCW := MCW.has.1
  have eMCW := MCW.has.len_le
  have MCK := HTC.K
  have u_60 := fun q hq => (MCK.lt q hq).2
  have lo_61 := fun q hq => (MCK.lt q hq).1
  have cMCK := MCK.has.1
  have eMCK := MCK.has.len_le
  have MCG := HTC.G
  have u_62 := fun q hq => (MCG.lt q hq).2
  have lo_63 := fun q hq => (MCG.lt q hq).1
  have cMCG := MCG.has.1
  have eMCG := MCG.has.len_le
  have MCH := HTC.H
  have u_64 := fun q hq => (MCH.lt q hq).2
  have lo_65 := fun q hq => (MCH.lt q hq).1
  have cMCH := MCH.has.1
  have eMCH := MCH.has.len_le
  refine vl (mv rfl) rfl <| vl (ex rfl rfl) rfl <| vl (ex rfl rfl) rfl <| al rfl LnX_zv_api_Link rfl rfl fun w_69 b_70 x_71 l_72 B_73 => ?_
  have q_74 := x_71.size
  have z_69 := Ext.tr z_66 x_71
  have q_75 := B_73.lt
  refine st (new := [.int .i64 C.window, .slice aC.S C.sent.length aC.s, .int .i64 C.base, .int .i64 C.next, .slice aC.W C.way.length aC.w, .slice aC.K C.acks.length aC.k, .slice aC.G C.got.length aC.g, .slice aC.H C.held.length aC.h]) rfl rfl B_73 rfl LnX_sz_api_Link rfl rfl rfl fun w_76 m_77 B_73 => ?_
  have q_79 := m_77.size
  have z_76 := Ext.mod z_69 m_77 (by simp only [List.mem_singleton, forall_eq]; omega)
  have q_78 := m_77.size
  refine vl (as_ rfl) rfl <| nl <| nT <| sq <| sq <| rg <| ca LnX_en_mustkeep_linkLives rfl rfl ((linkLives_any _).mono ?_)
  rintro e w_80 ⟨rfl, x_81⟩
  refine ⟨_, rfl, ?_⟩
  have q_82 := x_81.size
  have z_80 := Ext.tr z_76 x_81
  refine vl (nt rfl) rfl <| vl (mv rfl) rfl <| ug rfl rfl rfl <| vl (mv rfl) rfl <| ug rfl rfl rfl <| vl (bne rfl rfl) rfl <| vl (pkF rfl rfl) rfl <| vl (mv rfl) rfl <| ug rfl rfl rfl <| vl (mv rfl) rfl <| ug rfl rfl rfl <| vl (bne rfl rfl) rfl <| vl (pkF rfl (evb rfl hne)) rfl <| nl <| nT <| cT rfl <| sq <| rg <| ca LnX_en_mustkeep_linkLives rfl rfl ((linkLives_any _).mono ?_)
  rintro e w_83 ⟨rfl, x_84⟩
  refine ⟨_, rfl, ?_⟩
  have q_85 := x_84.size
  have z_83 := Ext.tr z_80 x_84
  refine vl (as_ rfl) rfl <| nl <| nT <| rt <| tT <| tR (.tmp rfl .nil) <| ?_
  exact ⟨rfl, z_83⟩
set_option maxRecDepth 100000 in
set_option maxHeartbeats 400000 in
theorem linkTwice_ok (a : Lnk.At) (L M B C : Lnk) (i : Int) (w : World) (hL : Lnk.Has w a L) (hi : okI i) (hM : L.doR ⟨3, i, true, .empty⟩ = (M, 0)) (hB : M.doR ⟨3, i, false, .empty⟩ = (B, 0)) (hC : L.doR ⟨3, i, false, .empty⟩ = (C, 0)) (h0 : 0 < B.acks.length) (hs : ({ B with acks := B.acks.take (B.acks.length - 1) } : Lnk) = C) :
    Calls Try.prog 11 #[.agg #[.int .i64 L.window, .slice a.S L.sent.length a.s, .int .i64 L.base, .int .i64 L.next, .slice a.W L.way.length a.w, .slice a.K L.acks.length a.k, .slice a.G L.got.length a.g, .slice a.H L.held.length a.h], .int .i64 i] w (fun e w' => e = .returned (.bool true) ∧ Ext w w') := by
  have hio := okI_iff.1 hi
  have hz : ((B.acks.length : Int) == 0) = false := by rw [beq_eq_false_iff_ne]; omega
  refine calls_W (n := 62) Try.func11 rfl rfl rfl ?_
  refine sq <| rg <| bx rfl rfl rfl rfl fun w_1 b_2 x_3 l_4 B_5 => ?_
  have q_6 := x_3.size
  have z_1 := Ext.tr (Ext.rf w) x_3
  have q_7 := B_5.lt
  refine vl (as_ rfl) rfl <| nl <| nT <| sq <| rg <| vl (ld rfl (B_5.all LnX_ag_api_Link LnX_sz_api_Link)) rfl <| vl (mv rfl) rfl <| vl (v := .agg #[.int .i64 3, .int .i64 i, .bool true, .string .empty]) (bd rfl (by kernel_rfl)) rfl <| ?_
  have hDA := lDo_any a L ⟨3, i, true, .empty⟩ _ (hL.keep z_1) (ok3 hi)
  rw [hM] at hDA
  dsimp only at hDA
  refine ca LnX_en_link_Do rfl rfl ((hDA).mono ?_)
  rintro e w_18 ⟨aA, rfl, HTA, x_19⟩
  refine ⟨_, rfl, ?_⟩
  have q_20 := x_19.size
  have z_18 := Ext.tr z_1 x_19
  have bdHTA := fun q hq => HTA.lt (q := q) hq
  have loHTA := fun q hq => (HTA.lt (q := q) hq).1
  have MAS := HTA.S
  have u_8 := fun q hq => (MAS.lt q hq).2
  have lo_9 := fun q hq => (MAS.lt q hq).1
  have cMAS := MAS.has.1
  have eMAS := MAS.has.len_le
  have MAW := HTA.W
  have u_10 := fun q hq => (MAW.lt q hq).2
  have lo_11 := fun q hq => (MAW.lt q hq).1
  have cMAW := MAW.has.1
  have eMAW := MAW.has.len_le
  have MAK := HTA.K
  have u_12 := fun q hq => (MAK.lt q hq).2
  have lo_13 := fun q hq => (MAK.lt q hq).1
  have cMAK := MAK.has.1
  have eMAK := MAK.has.len_le
  have MAG := HTA.G
  have u_14 := fun q hq => (MAG.lt q hq).2
  have lo_15 := fun q hq => (MAG.lt q hq).1
  have cMAG := MAG.has.1
  have eMAG := MAG.has.len_le
  have MAH := HTA.H
  have u_16 := fun q hq => (MAH.lt q hq).2
  have lo_17 := fun q hq => (MAH.lt q hq).1
  have cMAH := MAH.has.1
  have eMAH := MAH.has.len_le
  refine vl (mv rfl) rfl <| vl (ex rfl rfl) rfl <| vl (ex rfl rfl) rfl <| al rfl LnX_zv_api_Link rfl rfl fun w_21 b_22 x_23 l_24 B_25 => ?_
  have q_26 := x_23.size
  have z_21 := Ext.tr z_18 x_23
  have q_27 := B_25.lt
  refine st (new := [.int .i64 M.window, .slice aA.S M.sent.length aA.s, .int .i64 M.base, .int .i64 M.next, .slice aA.W M.way.length aA.w, .slice aA.K M.acks.length aA.k, .slice aA.G M.got.length aA.g, .slice aA.H M.held.length aA.h]) rfl rfl B_25 rfl LnX_sz_api_Link rfl rfl rfl fun w_28 m_29 B_25 => ?_
  have q_31 := m_29.size
  have z_28 := Ext.mod z_21 m_29 (by simp only [List.mem_singleton, forall_eq]; omega)
  have q_30 := m_29.size
  refine vl (as_ rfl) rfl <| nl <| nT <| sq <| rg <| vl (ld rfl (B_25.all LnX_ag_api_Link LnX_sz_api_Link)) rfl <| vl (mv rfl) rfl <| vl (v := .agg #[.int .i64 3, .int .i64 i, .bool false, .string .empty]) (bd rfl (by kernel_rfl)) rfl <| ?_
  have HTA := HTA.later x_23
  have HTA := HTA.mod m_29 (fun q hq h => by have e_ := List.mem_singleton.1 h; have := bdHTA q hq; omega)
  have hDB := lDo_any aA M ⟨3, i, false, .empty⟩ _ HTA.has (ok3 hi)
  rw [hB] at hDB
  dsimp only at hDB
  refine ca LnX_en_link_Do rfl rfl ((hDB).mono ?_)
  rintro e w_42 ⟨aB, rfl, HTB, x_43⟩
  refine ⟨_, rfl, ?_⟩
  have q_44 := x_43.size
  have z_42 := Ext.tr z_28 x_43
  have bdHTB := fun q hq => HTB.lt (q := q) hq
  have loHTB := fun q hq => (HTB.lt (q := q) hq).1
  have MBS := HTB.S
  have u_32 := fun q hq => (MBS.lt q hq).2
  have lo_33 := fun q hq => (MBS.lt q hq).1
  have cMBS := MBS.has.1
  have eMBS := MBS.has.len_le
  have MBW := HTB.W
  have u_34 := fun q hq => (MBW.lt q hq).2
  have lo_35 := fun q hq => (MBW.lt q hq).1
  have cMBW := MBW.has.1
  have eMBW := MBW.has.len_le
  have MBK := HTB.K
  have u_36 := fun q hq => (MBK.lt q hq).2
  have lo_37 := fun q hq => (MBK.lt q hq).1
  have cMBK := MBK.has.1
  have eMBK := MBK.has.len_le
  have MBG := HTB.G
  have u_38 := fun q hq => (MBG.lt q hq).2
  have lo_39 := fun q hq => (MBG.lt q hq).1
  have cMBG := MBG.has.1
  have eMBG := MBG.has.len_le
  have MBH := HTB.H
  have u_40 := fun q hq => (MBH.lt q hq).2
  have lo_41 := fun q hq => (MBH.lt q hq).1
  have cMBH := MBH.has.1
  have eMBH := MBH.has.len_le
  refine vl (mv rfl) rfl <| vl (ex rfl rfl) rfl <| vl (ex rfl rfl) rfl <| al rfl LnX_zv_api_Link rfl rfl fun w_45 b_46 x_47 l_48 B_49 => ?_
  have q_50 := x_47.size
  have z_45 := Ext.tr z_42 x_47
  have q_51 := B_49.lt
  refine st (new := [.int .i64 B.window, .slice aB.S B.sent.length aB.s, .int .i64 B.base, .int .i64 B.next, .slice aB.W B.way.length aB.w, .slice aB.K B.acks.length aB.k, .slice aB.G B.got.length aB.g, .slice aB.H B.held.length aB.h]) rfl rfl B_49 rfl LnX_sz_api_Link rfl rfl rfl fun w_52 m_53 B_49 => ?_
  have q_55 := m_53.size
  have z_52 := Ext.mod z_45 m_53 (by simp only [List.mem_singleton, forall_eq]; omega)
  have q_54 := m_53.size
  refine vl (as_ rfl) rfl <| nl <| nT <| sq <| rg <| ?_
  have B_5 := B_5.later (Ext.tr x_19 x_23)
  have B_5 := B_5.mod m_29 (by simp only [List.mem_singleton]; omega)
  have B_5 := B_5.later (Ext.tr x_43 x_47)
  have B_5 := B_5.mod m_53 (by simp only [List.mem_singleton]; omega)
  refine vl (ld rfl (B_5.all LnX_ag_api_Link LnX_sz_api_Link)) rfl <| vl (mv rfl) rfl <| vl (v := .agg #[.int .i64 3, .int .i64 i, .bool false, .string .empty]) (bd rfl (by kernel_rfl)) rfl <| ?_
  have hDC := lDo_any a L ⟨3, i, false, .empty⟩ _ (hL.keep z_52) (ok3 hi)
  rw [hC] at hDC
  dsimp only at hDC
  refine ca LnX_en_link_Do rfl rfl ((hDC).mono ?_)
  rintro e w_66 ⟨aC, rfl, HTC, x_67⟩
  refine ⟨_, rfl, ?_⟩
  have q_68 := x_67.size
  have z_66 := Ext.tr z_52 x_67
  have bdHTC := fun q hq => HTC.lt (q := q) hq
  have loHTC := fun q hq => (HTC.lt (q := q) hq).1
  have MCS := HTC.S
  have u_56 := fun q hq => (MCS.lt q hq).2
  have lo_57 := fun q hq => (MCS.lt q hq).1
  have cMCS := MCS.has.1
  have eMCS := MCS.has.len_le
  have MCW := HTC.W
  have u_58 := fun q hq => (MCW.lt q hq).2
  have lo_59 := fun q hq => (MCW.lt q hq).1
  have cMCW := MCW.has.1
  have eMCW := MCW.has.len_le
  have MCK := HTC.K
  have u_60 := fun q hq => (MCK.lt q hq).2
  have lo_61 := fun q hq => (MCK.lt q hq).1
  have cMCK := MCK.has.1
  have eMCK := MCK.has.len_le
  have MCG := HTC.G
  have u_62 := fun q hq => (MCG.lt q hq).2
  have lo_63 := fun q hq => (MCG.lt q hq).1
  have cMCG := MCG.has.1
  have eMCG := MCG.has.len_le
  have MCH := HTC.H
  have u_64 := fun q hq => (MCH.lt q hq).2
  have lo_65 := fun q hq => (MCH.lt q hq).1
  have cMCH := MCH.has.1
  have eMCH := MCH.has.len_le
  refine vl (mv rfl) rfl <| vl (ex rfl rfl) rfl <| vl (ex rfl rfl) rfl <| al rfl LnX_zv_api_Link rfl rfl fun w_69 b_70 x_71 l_72 B_73 => ?_
  have q_74 := x_71.size
  have z_69 := Ext.tr z_66 x_71
  have q_75 := B_73.lt
  refine st (new := [.int .i64 C.window, .slice aC.S C.sent.length aC.s, .int .i64 C.base, .int .i64 C.next, .slice aC.W C.way.length aC.w, .slice aC.K C.acks.length aC.k, .slice aC.G C.got.length aC.g, .slice aC.H C.held.length aC.h]) rfl rfl B_73 rfl LnX_sz_api_Link rfl rfl rfl fun w_76 m_77 B_73 => ?_
  have q_79 := m_77.size
  have z_76 := Ext.mod z_69 m_77 (by simp only [List.mem_singleton, forall_eq]; omega)
  have q_78 := m_77.size
  refine vl (as_ rfl) rfl <| nl <| nT <| sq <| sq <| rg <| ca LnX_en_mustkeep_linkLives rfl rfl ((linkLives_any _).mono ?_)
  rintro e w_80 ⟨rfl, x_81⟩
  refine ⟨_, rfl, ?_⟩
  have q_82 := x_81.size
  have z_80 := Ext.tr z_76 x_81
  refine vl (nt rfl) rfl <| vl (mv rfl) rfl <| ug rfl rfl rfl <| vl (mv rfl) rfl <| ug rfl rfl rfl <| vl (bne rfl rfl) rfl <| vl (pkF rfl rfl) rfl <| vl (mv rfl) rfl <| ug rfl rfl rfl <| vl (mv rfl) rfl <| ug rfl rfl rfl <| vl (bne rfl rfl) rfl <| vl (pkF rfl rfl) rfl <| nl <| nT <| cF rfl <| sk <| nT <| sq <| sq <| rg <| vl (fa LnX_fd_api_Link_5 rfl) rfl <| ?_
  have B_49 := B_49.later (Ext.tr x_67 x_71)
  have B_49 := B_49.mod m_77 (by simp only [List.mem_singleton]; omega)
  have B_49 := B_49.later x_81
  refine vl (ld rfl (B_49.one LnX_ag_S_int rfl)) rfl <| vl (ln Try.underlying38 rfl) rfl <| vl (beq rfl rfl) rfl <| nl <| nT <| ?_
  refine ceq rfl (fun h_83 => ?_) (fun h_83 => ?_)
  · refine sq <| rg <| vl (as_ rfl) rfl <| nl <| nT <| rt <| tT <| tR (.tmp rfl .nil) <| ?_
    exact absurd (show (B.acks.length : Int) = 0 by simpa using h_83) (by omega)
  · refine sk <| nT <| sq <| rg <| vl (fa LnX_fd_api_Link_5 rfl) rfl <| vl (ld rfl (B_49.one LnX_ag_S_int rfl)) rfl <| vl (fa LnX_fd_api_Link_5 rfl) rfl <| vl (ld rfl (B_49.one LnX_ag_S_int rfl)) rfl <| vl (ln Try.underlying38 rfl) rfl <| vl (bsu rfl rfl (inI (by omega))) rfl <| vl (sP (B.acks.length - 1) (B.acks.take (B.acks.length - 1)).length Try.underlying38 LnX_sz_int rfl rfl (by omega) (by omega) (by rw [List.length_take]; omega)) rfl <| vl (fa LnX_fd_api_Link_5 rfl) rfl <| st (new := [.int .i64 B.window, .slice aB.S B.sent.length aB.s, .int .i64 B.base, .int .i64 B.next, .slice aB.W B.way.length aB.w, .slice (pfx aB.K (B.acks.length - 1)) ((B.acks.take (B.acks.length - 1)).length) aB.k, .slice aB.G B.got.length aB.g, .slice aB.H B.held.length aB.h]) rfl rfl B_49 rfl LnX_sz_S_int rfl rfl rfl fun w_84 m_85 B_49 => ?_
    have q_87 := m_85.size
    have z_84 := Ext.mod z_80 m_85 (by simp only [List.mem_singleton, forall_eq]; omega)
    have q_86 := m_85.size
    refine nl <| nT <| sq <| rg <| vl (mv rfl) rfl <| vl (beq rfl rfl) rfl <| vl (mv rfl) rfl <| ug rfl rfl rfl <| vl (ld rfl (B_49.all LnX_ag_api_Link LnX_sz_api_Link)) rfl <| ug rfl rfl rfl <| ?_
    have B_73 := B_73.later x_81
    have B_73 := B_73.mod m_85 (by simp only [List.mem_singleton]; omega)
    refine vl (ld rfl (B_73.all LnX_ag_api_Link LnX_sz_api_Link)) rfl <| ug rfl rfl rfl <| ?_
    have HTB := HTB.later x_47
    have HTB := HTB.mod m_53 (fun q hq h => by have e_ := List.mem_singleton.1 h; have := bdHTB q hq; omega)
    have HTB := HTB.later (Ext.tr x_67 x_71)
    have HTB := HTB.mod m_77 (fun q hq h => by have e_ := List.mem_singleton.1 h; have := bdHTB q hq; omega)
    have HTB := HTB.later x_81
    have HTB := HTB.mod m_85 (fun q hq h => by have e_ := List.mem_singleton.1 h; have := bdHTB q hq; omega)
    have HTC := HTC.later x_71
    have HTC := HTC.mod m_77 (fun q hq h => by have e_ := List.mem_singleton.1 h; have := bdHTC q hq; omega)
    have HTC := HTC.later x_81
    have HTC := HTC.mod m_85 (fun q hq h => by have e_ := List.mem_singleton.1 h; have := bdHTC q hq; omega)
    refine ca LnX_en_mustref_SameLink rfl rfl ((sameLink_any { aB with K := pfx aB.K (B.acks.length - 1) } { B with acks := B.acks.take (B.acks.length - 1) } _ C _ ⟨HTB.S.has, HTB.W.has, HTB.K.has.pre _, HTB.G.has, HTB.H.has, HTB.nums⟩ HTC.has).mono ?_)
    rintro e w_88 ⟨rfl, x_89⟩
    refine ⟨_, rfl, ?_⟩
    have q_90 := x_89.size
    have z_88 := Ext.tr z_84 x_89
    refine vl (pkT rfl rfl) rfl <| vl (as_ rfl) rfl <| nl <| nT <| rt <| tR (.tmp rfl .nil) <| ?_
    exact ⟨by rw [decide_eq_true hs]; rfl, z_88⟩
theorem linkTwice_any (c0 : Array Value) (a1 : Int) (w : World) (h0 : (.cons (.int .i64) (.cons (.slice .str 16) (.cons (.int .i64) (.cons (.int .i64) (.cons (.slice (.int .i64) 8) (.cons (.slice (.int .i64) 8) (.cons (.slice .str 16) (.cons (.slice (.int .i64) 8) .nil))))))) : Sh).Ok w c0.toList) (w1 : (Lit.int .i64 a1).wf = true) :
    Calls Try.prog 11 #[.agg c0, .int .i64 a1] w fun e w' => e = .returned (.bool true) ∧ Below w.heap.size w w' := by
  obtain ⟨a, L, e, hL⟩ := Lnk.opens w _ (show Lnk.sh.Ok w c0.toList from h0)
  have hc : c0 = (Lnk.cells a L).toArray := by rw [← e]
  subst hc
  have hi : okI a1 := w1
  obtain ⟨M, e1, hM⟩ : ∃ M e, L.doR ⟨3, a1, true, .empty⟩ = (M, e) := ⟨_, _, rfl⟩
  obtain ⟨B, f1, hB⟩ : ∃ B f, M.doR ⟨3, a1, false, .empty⟩ = (B, f) := ⟨_, _, rfl⟩
  obtain ⟨C, g1, hC⟩ : ∃ C g, L.doR ⟨3, a1, false, .empty⟩ = (C, g) := ⟨_, _, rfl⟩
  by_cases he : e1 = 0
  · subst he
    by_cases hf : f1 = 0
    · subst hf
      obtain ⟨h0, h1⟩ := take_twice hM hB
      rw [h1] at hC
      have h2 := Prod.mk.inj hC
      obtain ⟨h3, rfl⟩ := h2
      exact linkTwice_ok a L M B C a1 w hL hi hM hB (by rw [h1, h3]) h0 h3
    · exact linkTwice_b2 a L M B C a1 _ _ w hL hi hM hB hC (by simpa using hf)
  · exact linkTwice_b1 a L M B C a1 _ _ _ w hL hi hM hB hC (by simpa using he)
end Go.Proofs.Ytfabhinehfhndaa
