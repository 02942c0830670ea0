/-
  GoodsCuts. (Printed by bin/goodslaw2.py.)
-/
import Derived.Test.YticfnngppcmidaaLawP
set_option linter.unusedVariables false
namespace Go.Proofs.Yticfnngppcmidaa
open Go.RowKit

theorem LawD_ag_api_World : Ag Try.prog 28 true := fun _ => by kernel_rfl
theorem LawD_sz_api_World : Sz Try.prog 28 9 := fun _ => by kernel_rfl
theorem LawD_en_goods_Do : Enters Try.prog 15 := en Try.func15 (by kernel_rfl) (by kernel_rfl)
theorem LawD_zv_api_World : Zv Try.prog 28 (.agg #[.int .i64 0, .int .i64 0, .slice none 0 0, .slice none 0 0, .slice none 0 0, .slice none 0 0, .slice none 0 0, .int .i64 0, .int .i64 0]) := fun _ => by kernel_rfl
theorem LawD_en_mustkeep_goodsLives : Enters Try.prog 16 := en Try.func16 (by kernel_rfl) (by kernel_rfl)
theorem LawD_en_slices_Clone_S_api_Deed_api_Deed_ : Enters Try.prog 20 := en Try.func20 (by kernel_rfl) (by kernel_rfl)
theorem LawD_el_S_api_Deed : ElT Try.prog Ded.rep 29 45 40 := ElT.mk_ (z := Ded.zero) (k := 5) Try.underlying29 Ded.info rfl rfl (by decide) Ded.zero_raw
theorem LawD_en_mustref_SameWorld : Enters Try.prog 21 := en Try.func21 (by kernel_rfl) (by kernel_rfl)
theorem LawD_en_slices_Clone_S_bool_bool_ : Enters Try.prog 23 := en Try.func23 (by kernel_rfl) (by kernel_rfl)
theorem LawD_el_S_bool : ElT Try.prog repB 30 4 1 := ElT.mk_ (z := .bool false) (k := 1) Try.underlying30 (by kernel_rfl) rfl rfl (by decide) (fun j u h => raw0B j u h)
theorem LawD_en_slices_Equal_S_bool_bool_ : Enters Try.prog 22 := en Try.func22 (by kernel_rfl) (by kernel_rfl)
theorem LawD_sz_api_Deed : Sz Try.prog 45 5 := fun _ => by kernel_rfl
theorem LawD_ag_api_Deed : Ag Try.prog 45 true := fun _ => by kernel_rfl
theorem LawD_zv_api_Deed : Zv Try.prog 45 (.agg #[.int .i64 0, .int .i64 0, .int .i64 0, .int .i64 0, .int .i64 0]) := fun _ => by kernel_rfl
theorem LawD_sz_bool : Sz Try.prog 4 1 := fun _ => by kernel_rfl
theorem LawD_ag_bool : Ag Try.prog 4 false := fun _ => by kernel_rfl
set_option maxRecDepth 100000 in
set_option maxHeartbeats 400000 in
theorem goodsCuts_walk (a : Wd.At) (W : Wd) (A : Option Addr) (c : Nat) (l : List Ded) (A2 : Option Addr) (c2 : Nat) (m : List Ded) (w : World) (hW : Wd.Has w a W) (hl : Ded.rep.SHas 40 w A c l) (hm : Ded.rep.SHas 40 w A2 c2 m) :
    Calls Try.prog 4 #[.agg ((Wd.cells a W).toArray), .slice A l.length c, .slice A2 m.length c2] w (fun e w' => e = .returned (.bool true) ∧ Ext w w') := by
  have hb1 := hl.2.2.1
  have hb2 := hm.2.2.1
  refine calls_W (n := 137) Try.func4 rfl rfl rfl ?_
  refine sq <| rg <| bx rfl rfl rfl rfl fun w_1 b_2 x_3 l_4 B_5 => ?_
  have q_6 := x_3.size
  have z_1 := Ext.tr (Ext.rf w) x_3
  have q_7 := B_5.lt
  refine vl (as_ rfl) rfl <| nl <| nT <| sq <| rg <| vl (ld rfl (B_5.all LawD_ag_api_World LawD_sz_api_World)) rfl <| vl (mv rfl) rfl <| ca LawD_en_goods_Do rfl rfl ((do_any l _ _ _ a W (hW.keep z_1) (hl.keep z_1)).mono ?_)
  rintro e w_13 ⟨a_8, A_8, c_8, rfl, HO_8, OD_8, hd_8, x_14⟩
  refine ⟨_, rfl, ?_⟩
  have q_15 := x_14.size
  have z_13 := Ext.tr z_1 x_14
  have u_9 := fun q hq => (HO_8.lt q hq).2
  have lo_10 := fun q hq => (HO_8.lt q hq).1
  have u_11 := fun q hq => (OD_8.lt q hq).2
  have lo_12 := fun q hq => (OD_8.lt q hq).1
  have dd_8 : ∀ q ∈ Rep.blkOf A_8, q ∈ WOwn.foot a_8 → False := hd_8
  have dw_8 : ∀ q ∈ WOwn.foot a_8, q ∈ Rep.blkOf A_8 → False := fun q h1 h2 => hd_8 q h2 h1
  refine vl (mv rfl) rfl <| vl (ex rfl rfl) rfl <| vl (ex rfl rfl) rfl <| vl (ex rfl rfl) rfl <| al rfl LawD_zv_api_World rfl rfl fun w_16 b_17 x_18 l_19 B_20 => ?_
  have q_21 := x_18.size
  have z_16 := Ext.tr z_13 x_18
  have q_22 := B_20.lt
  refine st rfl rfl B_20 rfl LawD_sz_api_World rfl rfl rfl fun w_23 m_24 B_20 => ?_
  have q_26 := m_24.size
  have z_23 := Ext.mod z_16 m_24 (by simp only [List.mem_singleton, forall_eq]; omega)
  have q_25 := m_24.size
  refine vl (as_ rfl) rfl <| vl (as_ rfl) rfl <| nl <| nT <| sq <| rg <| vl (ld rfl (B_20.all LawD_ag_api_World LawD_sz_api_World)) rfl <| vl (mv rfl) rfl <| ?_
  have HO_8 := HO_8.later x_18
  have HO_8 := HO_8.mod m_24 (fun q hq h => by have hb := List.mem_singleton.1 h; exfalso; (have := u_9 q hq; omega))
  refine ca LawD_en_goods_Do rfl rfl ((do_any m _ _ _ a_8 (W.doW l) HO_8.has (hm.keep z_23)).mono ?_)
  rintro e w_32 ⟨a_27, A_27, c_27, rfl, HO_27, OD_27, hd_27, x_33⟩
  refine ⟨_, rfl, ?_⟩
  have q_34 := x_33.size
  have z_32 := Ext.tr z_23 x_33
  have u_28 := fun q hq => (HO_27.lt q hq).2
  have lo_29 := fun q hq => (HO_27.lt q hq).1
  have u_30 := fun q hq => (OD_27.lt q hq).2
  have lo_31 := fun q hq => (OD_27.lt q hq).1
  have dd_27 : ∀ q ∈ Rep.blkOf A_27, q ∈ WOwn.foot a_27 → False := hd_27
  have dw_27 : ∀ q ∈ WOwn.foot a_27, q ∈ Rep.blkOf A_27 → False := fun q h1 h2 => hd_27 q h2 h1
  refine vl (mv rfl) rfl <| vl (ex rfl rfl) rfl <| vl (ex rfl rfl) rfl <| vl (ex rfl rfl) rfl <| al rfl LawD_zv_api_World rfl rfl fun w_35 b_36 x_37 l_38 B_39 => ?_
  have q_40 := x_37.size
  have z_35 := Ext.tr z_32 x_37
  have q_41 := B_39.lt
  refine st rfl rfl B_39 rfl LawD_sz_api_World rfl rfl rfl fun w_42 m_43 B_39 => ?_
  have q_45 := m_43.size
  have z_42 := Ext.mod z_35 m_43 (by simp only [List.mem_singleton, forall_eq]; omega)
  have q_44 := m_43.size
  refine vl (as_ rfl) rfl <| vl (as_ rfl) rfl <| nl <| nT <| sq <| sq <| rg <| ca LawD_en_mustkeep_goodsLives rfl rfl ((goodsLives_any _).mono ?_)
  rintro e w_46 ⟨rfl, x_47⟩
  refine ⟨_, rfl, ?_⟩
  have q_48 := x_47.size
  have z_46 := Ext.tr z_42 x_47
  refine vl (nt rfl) rfl <| vl (mv rfl) rfl <| vQ rfl rfl rfl rfl (fun hc => mv rfl) rfl <| vQ rfl rfl rfl rfl (fun hc => bne (gt hc rfl) rfl) rfl <| vl (pO rfl rfl rfl rfl) rfl <| vl (mv rfl) rfl <| vQ rfl rfl rfl rfl (fun hc => mv rfl) rfl <| vQ rfl rfl rfl rfl (fun hc => bne (gt hc rfl) rfl) rfl <| vl (pO rfl rfl rfl rfl) rfl <| vl (mv rfl) rfl <| vQ rfl rfl rfl rfl (fun hc => mv rfl) rfl <| vQ rfl rfl rfl rfl (fun hc => ln Try.underlying29 (gt hc rfl)) rfl <| vQ rfl rfl rfl rfl (fun hc => mv rfl) rfl <| vQ rfl rfl rfl rfl (fun hc => ln Try.underlying29 (gt hc rfl)) rfl <| vQ rfl rfl rfl rfl (fun hc => bad (gt hc rfl) (gt hc rfl) (inI (by (try simp only [Bool.or_eq_true, Bool.or_eq_false_iff, Bool.and_eq_true, Bool.and_eq_false_iff, decide_eq_true_eq, decide_eq_false_iff_not, beq_iff_eq, bne_iff_ne, beq_eq_false_iff_ne, bne_eq_false_iff_eq, Bool.not_eq_true', Bool.not_eq_false', Bool.not_eq_true, Bool.not_eq_false, Int.not_lt, Int.not_le, Nat.not_lt, Nat.not_le, ne_eq, Classical.not_not] at hc); omega))) rfl <| vQ rfl rfl rfl rfl (fun hc => bgt (gt hc rfl) rfl) rfl <| vl (pO rfl rfl rfl rfl) rfl <| vl (mv rfl) rfl <| vQ rfl rfl rfl rfl (fun hc => mv rfl) rfl <| vQ rfl rfl rfl rfl (fun hc => ln Try.underlying30 (gt hc rfl)) rfl <| vQ rfl rfl rfl rfl (fun hc => mv rfl) rfl <| vQ rfl rfl rfl rfl (fun hc => ln Try.underlying29 (gt hc rfl)) rfl <| vQ rfl rfl rfl rfl (fun hc => bne (gt hc rfl) (gt hc rfl)) rfl <| vl (pO rfl rfl rfl rfl) rfl <| ?_
  refine nl <| nT <| ?_
  refine cb rfl (fun h_49 => ?_) (fun h_49 => ?_)
  · refine sq <| rg <| ca LawD_en_mustkeep_goodsLives rfl rfl ((goodsLives_any _).mono ?_)
    rintro e w_50 ⟨rfl, x_51⟩
    refine ⟨_, rfl, ?_⟩
    have q_52 := x_51.size
    have z_50 := Ext.tr z_46 x_51
    refine vl (mv rfl) rfl <| ug rfl rfl rfl <| vl (mv rfl) rfl <| ug rfl rfl rfl <| vl (bne rfl rfl) rfl <| ug rfl rfl rfl <| vl (mv rfl) rfl <| vQ rfl rfl rfl rfl (fun hc => mv rfl) rfl <| vQ rfl rfl rfl rfl (fun hc => bne (gt hc rfl) rfl) rfl <| ug rfl rfl rfl <| vl (pO rfl rfl rfl rfl) rfl <| ug rfl rfl rfl <| vl (mv rfl) rfl <| vQ rfl rfl rfl rfl (fun hc => mv rfl) rfl <| vQ rfl rfl rfl rfl (fun hc => ln Try.underlying29 (gt hc rfl)) rfl <| vQ rfl rfl rfl rfl (fun hc => mv rfl) rfl <| vQ rfl rfl rfl rfl (fun hc => ln Try.underlying29 (gt hc rfl)) rfl <| vQ rfl rfl rfl rfl (fun hc => bad (gt hc rfl) (gt hc rfl) (inI (by (try simp only [Bool.or_eq_true, Bool.or_eq_false_iff, Bool.and_eq_true, Bool.and_eq_false_iff, decide_eq_true_eq, decide_eq_false_iff_not, beq_iff_eq, bne_iff_ne, beq_eq_false_iff_ne, bne_eq_false_iff_eq, Bool.not_eq_true', Bool.not_eq_false', Bool.not_eq_true, Bool.not_eq_false, Int.not_lt, Int.not_le, Nat.not_lt, Nat.not_le, ne_eq, Classical.not_not] at hc); omega))) rfl <| vQ rfl rfl rfl rfl (fun hc => bgt (gt hc rfl) rfl) rfl <| ug rfl rfl rfl <| vl (pO rfl rfl rfl rfl) rfl <| vl (pkT rfl rfl) rfl <| vl (as_ rfl) rfl <| nl <| ?_
    refine nT <| rt <| tT <| tR (.tmp rfl .nil) <| ?_
    exact ⟨ret_true (cuts_no h_49), z_50⟩
  · simp only [Bool.or_eq_true, Bool.or_eq_false_iff, Bool.and_eq_true, Bool.and_eq_false_iff, decide_eq_true_eq, decide_eq_false_iff_not, beq_iff_eq, bne_iff_ne, beq_eq_false_iff_ne, bne_eq_false_iff_eq, Bool.not_eq_true', Bool.not_eq_false', Bool.not_eq_true, Bool.not_eq_false, Int.not_lt, Int.not_le, Nat.not_lt, Nat.not_le, ne_eq, Classical.not_not] at h_49
    have hE1 : W.doE l = 0 := by have := h_49.1.1.1.2; omega
    have hE2 : (W.doW l).doE m = 0 := by have := h_49.1.1.2; omega
    have hlm : l.length + m.length ≤ 200 := by have := h_49.1.2; omega
    obtain ⟨hE3, hW3, hB3⟩ := cuts hE1 hE2 hlm
    have kE : (W.doE (l ++ m) != 0) = false := by rw [hE3]; rfl
    have kW : (!decide ((W.doW l).doW m = W.doW (l ++ m))) = false := by rw [decide_eq_true hW3]; rfl
    have kB : (!decide (W.doB (l ++ m) = W.doB l ++ (W.doW l).doB m)) = false := by rw [decide_eq_true hB3]; rfl
    have hbl := doB_len hE3
    have hbl1 := doB_len hE1
    have hbl2 := doB_len hE2
    have hok : ∀ d ∈ l ++ m, d.ok := fun d hd => (List.mem_append.1 hd).elim (Ded.all_ok hl d) (Ded.all_ok hm d)
    have hla : (l ++ m).length = l.length + m.length := List.length_append
    refine sk <| nT <| sq <| rg <| vl (mv rfl) rfl <| ca LawD_en_slices_Clone_S_api_Deed_api_Deed_ rfl rfl ((clone_D _ _ l _ (hl.keep z_46)).mono ?_)
    rintro e w_56 ⟨A_53, c_53, rfl, OC_53, hn_53, x_57⟩
    refine ⟨_, rfl, ?_⟩
    have q_58 := x_57.size
    have z_56 := Ext.tr z_46 x_57
    have u_54 := fun q hq => (OC_53.lt q hq).2
    have lo_55 := fun q hq => (OC_53.lt q hq).1
    refine vl (mv rfl) rfl <| ap LawD_el_S_api_Deed Rep.flat_bare OC_53 (hm.keep z_56) rfl rfl (by first | (simp <;> omega) | omega) (by first | (simp <;> omega) | omega) (by omega) rfl fun w_59 A_60 c_61 m_62 O_63 g_64 n_65 => ?_
    have q_66 := m_62.size
    have z_59 := Ext.mod z_56 m_62 (fun q hq => Nat.le_trans (by omega) (OC_53.lt q hq).1)
    have u_67 := fun q hq => (O_63.lt q hq).2
    have q_68 := m_62.size
    refine vl (as_ rfl) rfl <| nl <| nT <| sq <| rg <| ?_
    have B_5 := B_5.later (Ext.tr x_14 x_18)
    have B_5 := B_5.mod m_24 (by simp only [List.mem_singleton]; omega)
    have B_5 := B_5.later (Ext.tr x_33 x_37)
    have B_5 := B_5.mod m_43 (by simp only [List.mem_singleton]; omega)
    have B_5 := B_5.later (Ext.tr x_47 x_57)
    have d_69 : ∀ q ∈ Rep.blkOf A_53, q = b_2 → False := fun q hq hb => by (have := lo_55 q hq; omega)
    have B_5 := B_5.mod m_62 (fun hq => d_69 _ hq rfl)
    refine vl (ld rfl (B_5.all LawD_ag_api_World LawD_sz_api_World)) rfl <| vl (mv rfl) rfl <| ca LawD_en_goods_Do rfl rfl ((do_any (l ++ m) _ _ _ a W (hW.keep z_59) O_63.has).mono ?_)
    rintro e w_75 ⟨a_70, A_70, c_70, rfl, HO_70, OD_70, hd_70, x_76⟩
    refine ⟨_, rfl, ?_⟩
    have q_77 := x_76.size
    have z_75 := Ext.tr z_59 x_76
    have u_71 := fun q hq => (HO_70.lt q hq).2
    have lo_72 := fun q hq => (HO_70.lt q hq).1
    have u_73 := fun q hq => (OD_70.lt q hq).2
    have lo_74 := fun q hq => (OD_70.lt q hq).1
    have dd_70 : ∀ q ∈ Rep.blkOf A_70, q ∈ WOwn.foot a_70 → False := hd_70
    have dw_70 : ∀ q ∈ WOwn.foot a_70, q ∈ Rep.blkOf A_70 → False := fun q h1 h2 => hd_70 q h2 h1
    refine vl (mv rfl) rfl <| vl (ex rfl rfl) rfl <| vl (ex rfl rfl) rfl <| vl (ex rfl rfl) rfl <| al rfl LawD_zv_api_World rfl rfl fun w_78 b_79 x_80 l_81 B_82 => ?_
    have q_83 := x_80.size
    have z_78 := Ext.tr z_75 x_80
    have q_84 := B_82.lt
    refine st rfl rfl B_82 rfl LawD_sz_api_World rfl rfl rfl fun w_85 m_86 B_82 => ?_
    have q_88 := m_86.size
    have z_85 := Ext.mod z_78 m_86 (by simp only [List.mem_singleton, forall_eq]; omega)
    have q_87 := m_86.size
    refine vl (as_ rfl) rfl <| vl (as_ rfl) rfl <| nl <| nT <| sq <| sq <| rg <| vl (mv rfl) rfl <| vl (bne rfl rfl) rfl <| vl (mv (evb rfl kE)) rfl <| ug rfl rfl rfl <| ?_
    have B_39 := B_39.later (Ext.tr x_47 x_57)
    have d_89 : ∀ q ∈ Rep.blkOf A_53, q = b_36 → False := fun q hq hb => by (have := lo_55 q hq; omega)
    have B_39 := B_39.mod m_62 (fun hq => d_89 _ hq rfl)
    have B_39 := B_39.later (Ext.tr x_76 x_80)
    have B_39 := B_39.mod m_86 (by simp only [List.mem_singleton]; omega)
    refine vl (ld rfl (B_39.all LawD_ag_api_World LawD_sz_api_World)) rfl <| ug rfl rfl rfl <| vl (ld rfl (B_82.all LawD_ag_api_World LawD_sz_api_World)) rfl <| ug rfl rfl rfl <| ?_
    have HO_27 := HO_27.later x_37
    have HO_27 := HO_27.mod m_43 (fun q hq h => by have hb := List.mem_singleton.1 h; exfalso; (have := u_28 q hq; omega))
    have HO_27 := HO_27.later (Ext.tr x_47 x_57)
    have HO_27 := HO_27.mod m_62 (fun q hq h => by exfalso; (have := lo_55 q h; (have := u_28 q hq; omega)))
    have HO_27 := HO_27.later (Ext.tr x_76 x_80)
    have HO_27 := HO_27.mod m_86 (fun q hq h => by have hb := List.mem_singleton.1 h; exfalso; (have := u_28 q hq; omega))
    have HO_70 := HO_70.later x_80
    have HO_70 := HO_70.mod m_86 (fun q hq h => by have hb := List.mem_singleton.1 h; exfalso; (have := u_71 q hq; omega))
    refine ca LawD_en_mustref_SameWorld rfl rfl ((sameWorld_any _ a_27 ((W.doW l).doW m) a_70 (W.doW (l ++ m)) HO_27.has HO_70.has).mono ?_)
    rintro e w_90 ⟨rfl, x_91⟩
    refine ⟨_, rfl, ?_⟩
    have q_92 := x_91.size
    have z_90 := Ext.tr z_85 x_91
    refine ug rfl rfl rfl <| vl (nt rfl) rfl <| vl (pkF rfl (evb rfl kW)) rfl <| vl (mv rfl) rfl <| ug rfl rfl rfl <| vl (mv rfl) rfl <| ug rfl rfl rfl <| vl (mv rfl) rfl <| ug rfl rfl rfl <| ?_
    have OD_8 := OD_8.later x_18
    have OD_8 := OD_8.mod m_24 (fun q hq h => by have hb := List.mem_singleton.1 h; exfalso; (have := u_11 q hq; omega))
    have OD_8 := OD_8.later (Ext.tr x_33 x_37)
    have OD_8 := OD_8.mod m_43 (fun q hq h => by have hb := List.mem_singleton.1 h; exfalso; (have := u_11 q hq; omega))
    have OD_8 := OD_8.later (Ext.tr x_47 x_57)
    have OD_8 := OD_8.mod m_62 (fun q hq h => by exfalso; (have := lo_55 q h; (have := u_11 q hq; omega)))
    have OD_8 := OD_8.later (Ext.tr x_76 x_80)
    have OD_8 := OD_8.mod m_86 (fun q hq h => by have hb := List.mem_singleton.1 h; exfalso; (have := u_11 q hq; omega))
    have OD_8 := OD_8.later x_91
    refine ca LawD_en_slices_Clone_S_bool_bool_ rfl rfl ((clone_B _ _ (W.doB l) _ OD_8.has).mono ?_)
    rintro e w_96 ⟨A_93, c_93, rfl, OC_93, hn_93, x_97⟩
    refine ⟨_, rfl, ?_⟩
    have q_98 := x_97.size
    have z_96 := Ext.tr z_90 x_97
    have u_94 := fun q hq => (OC_93.lt q hq).2
    have lo_95 := fun q hq => (OC_93.lt q hq).1
    refine ug rfl rfl rfl <| vl (mv rfl) rfl <| ug rfl rfl rfl <| ?_
    have OD_27 := OD_27.later x_37
    have OD_27 := OD_27.mod m_43 (fun q hq h => by have hb := List.mem_singleton.1 h; exfalso; (have := u_30 q hq; omega))
    have OD_27 := OD_27.later (Ext.tr x_47 x_57)
    have OD_27 := OD_27.mod m_62 (fun q hq h => by exfalso; (have := lo_55 q h; (have := u_30 q hq; omega)))
    have OD_27 := OD_27.later (Ext.tr x_76 x_80)
    have OD_27 := OD_27.mod m_86 (fun q hq h => by have hb := List.mem_singleton.1 h; exfalso; (have := u_30 q hq; omega))
    have OD_27 := OD_27.later (Ext.tr x_91 x_97)
    refine ap LawD_el_S_bool Rep.flat_bare OC_93 OD_27.has rfl rfl (by first | (simp <;> omega) | omega) (by first | (simp <;> omega) | omega) (by omega) rfl fun w_99 A_100 c_101 m_102 O_103 g_104 n_105 => ?_
    have q_106 := m_102.size
    have z_99 := Ext.mod z_96 m_102 (fun q hq => Nat.le_trans (by omega) (OC_93.lt q hq).1)
    have u_107 := fun q hq => (O_103.lt q hq).2
    have q_108 := m_102.size
    refine ug rfl rfl rfl <| ?_
    have OD_70 := OD_70.later x_80
    have OD_70 := OD_70.mod m_86 (fun q hq h => by have hb := List.mem_singleton.1 h; exfalso; (have := u_73 q hq; omega))
    have OD_70 := OD_70.later (Ext.tr x_91 x_97)
    have OD_70 := OD_70.mod m_102 (fun q hq h => by exfalso; (have := lo_95 q h; (have := u_73 q hq; omega)))
    refine ca LawD_en_slices_Equal_S_bool_bool_ rfl rfl ((equal_B _ _ _ _ _ _ (W.doB (l ++ m)) (W.doB l ++ (W.doW l).doB m) _ OD_70.has O_103.has).mono ?_)
    rintro e w_109 ⟨rfl, x_110⟩
    refine ⟨_, rfl, ?_⟩
    have q_111 := x_110.size
    have z_109 := Ext.tr z_99 x_110
    refine ug rfl rfl rfl <| vl (nt rfl) rfl <| vl (pkF rfl (evb rfl kB)) rfl <| nl <| nT <| cF rfl <| sk <| nT <| sq <| rg <| vl (as_ rfl) rfl <| nl <| nT <| sq <| sq <| rg <| vl (mv rfl) rfl <| vl (ln Try.underlying29 rfl) rfl <| vl (mv rfl) rfl <| nl <| nT <| bk <| ?_
    have B_5 := B_5.later (Ext.tr x_76 x_80)
    have B_5 := B_5.mod m_86 (by simp only [List.mem_singleton]; omega)
    have B_5 := B_5.later (Ext.tr x_91 x_97)
    have d_118 : ∀ q ∈ Rep.blkOf A_93, q = b_2 → False := fun q hq hb => by (have := lo_95 q hq; omega)
    have B_5 := B_5.mod m_102 (fun hq => d_118 _ hq rfl)
    have B_5 := B_5.later x_110
    have O_63 := O_63.later (Ext.tr x_76 x_80)
    have O_63 := O_63.mod m_86 (fun q hq h => by have hb := List.mem_singleton.1 h; exfalso; (have := u_67 q hq; omega))
    have O_63 := O_63.later (Ext.tr x_91 x_97)
    have O_63 := O_63.mod m_102 (fun q hq h => by exfalso; (have := lo_95 q h; (have := u_67 q hq; omega)))
    have O_63 := O_63.later x_110
    have HO_70 := HO_70.later (Ext.tr x_91 x_97)
    have HO_70 := HO_70.mod m_102 (fun q hq h => by exfalso; (have := lo_95 q h; (have := u_71 q hq; omega)))
    have HO_70 := HO_70.later x_110
    have OD_70 := OD_70.later x_110
    have B_82 := B_82.later (Ext.tr x_91 x_97)
    have d_119 : ∀ q ∈ Rep.blkOf A_93, q = b_79 → False := fun q hq hb => by (have := lo_95 q hq; omega)
    have B_82 := B_82.mod m_102 (fun hq => d_119 _ hq rfl)
    have B_82 := B_82.later x_110
    refine lp (fun mI EI wI => ∃ k : Nat, ∃ Ao : Option Addr, ∃ co : Nat, EI = [(3, .pointer (some ⟨b_2, 0, none⟩)), (6, .bool false), (14, .pointer (some ⟨b_79, 0, none⟩)), (15, .slice A_70 ((W.doB (l ++ m)).length) c_70), (17, .slice Ao ((picked ((l ++ m).take k) ((W.doB (l ++ m)).take k)).length) co), (107, .slice A_60 ((l ++ m).length) c_61), (108, .int .i64 ((((l ++ m).length : Nat) : Int))), (109, .int .i64 (k : Int))] ∧ mI = (l ++ m).length - k ∧ Ext w wI ∧ Blk wI b_2 (Wd.cells a W) 28 (0, 0) ∧ Ded.rep.SOwn 45 40 wI w_46.heap.size (Rep.blkOf A_60) A_60 c_61 (l ++ m) ∧ WOwn wI w_59.heap.size a_70 (W.doW (l ++ m)) ∧ repB.SOwn 4 1 wI w_59.heap.size (Rep.blkOf A_70) A_70 c_70 (W.doB (l ++ m)) ∧ Blk wI b_79 ((Wd.cells a_70 (W.doW (l ++ m)))) 28 (0, 0) ∧ Ded.rep.SOwn 45 40 wI w.heap.size (Rep.blkOf Ao) Ao co (picked ((l ++ m).take k) ((W.doB (l ++ m)).take k)) ∧ (k ≤ (l ++ m).length) ∧ (∀ q ∈ Rep.blkOf Ao, q = b_2 → False) ∧ (∀ q ∈ Rep.blkOf Ao, q = b_79 → False) ∧ (∀ q ∈ Rep.blkOf Ao, q ∈ WOwn.foot a_70 → False) ∧ (∀ q ∈ Rep.blkOf Ao, q ∈ Rep.blkOf A_60 → False) ∧ (∀ q ∈ Rep.blkOf Ao, q ∈ Rep.blkOf A_70 → False)) _ _ ⟨0, none, 0, rfl, rfl, z_109, B_5, O_63, HO_70, OD_70, B_82, (Rep.SOwn.nil _), by omega, (fun q hq hb => by (simp [Rep.blkOf] at hq)), (fun q hq hb => by (simp [Rep.blkOf] at hq)), (fun q hq hb => by (simp [Rep.blkOf] at hq)), (fun q hq hb => by (simp [Rep.blkOf] at hq)), (fun q hq hb => by (simp [Rep.blkOf] at hq))⟩ (.cons rfl (.cons rfl (.cons rfl (.cons rfl (.cons rfl (.cons rfl (.cons rfl (.cons (loI rfl (by first | omega | rfl | (simp <;> omega))) .nil)))))))) ?_
    rintro m_120 E_121 w_117 ⟨k, Ao, co, rfl, rfl, z_117, B_5, O_63, HO_70, OD_70, B_82, OO, hk, d_112, d_113, d_114, d_115, d_116⟩
    have q_122 := z_117.size
    have q_123 := B_5.lt
    have u_124 := fun q hq => (O_63.lt q hq).2
    have u_125 := fun q hq => (HO_70.lt q hq).2
    have u_126 := fun q hq => (OD_70.lt q hq).2
    have q_127 := B_82.lt
    have u_128 := fun q hq => (OO.lt q hq).2
    have hpl := picked_len ((l ++ m).take k) ((W.doB (l ++ m)).take k)
    refine sq <| rg <| vl (blt rfl rfl) rfl <| nl <| nT <| sq <| ?_
    refine clt rfl (fun h_129 => ?_) (fun h_129 => ?_)
    · refine sk <| nT <| sq <| bk <| sq <| rg <| vl (mv rfl) rfl <| vl (iA k Try.underlying29 LawD_sz_api_Deed rfl rfl (O_63.has.adr (Nat.zero_lt_of_lt (show k < _ from (by omega)))) rfl (by omega)) rfl <| vl (ld rfl (Rep.SHas.elt hcD (O_63.has.adh (Nat.zero_lt_of_lt (show k < _ from (by omega)))) (get_d (l := l ++ m) (u := default) (by omega)) LawD_ag_api_Deed LawD_sz_api_Deed)) rfl <| al rfl LawD_zv_api_Deed rfl rfl fun w_130 b_131 x_132 l_133 B_134 => ?_
      have q_135 := x_132.size
      have z_130 := Ext.tr z_117 x_132
      have q_136 := B_134.lt
      refine vl (as_ rfl) rfl <| st (new := [.int .i64 (((l ++ m).getD k default).kind), .int .i64 (((l ++ m).getD k default).who), .int .i64 (((l ++ m).getD k default).spot.x), .int .i64 (((l ++ m).getD k default).spot.y), .int .i64 (((l ++ m).getD k default).what)]) rfl rfl B_134 rfl LawD_sz_api_Deed rfl rfl rfl fun w_137 m_138 B_134 => ?_
      have q_140 := m_138.size
      have z_137 := Ext.mod z_130 m_138 (by simp only [List.mem_singleton, forall_eq]; omega)
      have q_139 := m_138.size
      refine nl <| nT <| sq <| rg <| vl (mv rfl) rfl <| vl (mv rfl) rfl <| ?_
      have OD_70 := OD_70.later x_132
      have OD_70 := OD_70.mod m_138 (fun q hq h => by have hb := List.mem_singleton.1 h; exfalso; (have := u_126 q hq; omega))
      refine vl (iA k Try.underlying30 LawD_sz_bool rfl rfl (OD_70.has.adr (Nat.zero_lt_of_lt (show k < _ from (by omega)))) rfl (by omega)) rfl <| vl (ld rfl (Rep.SHas.one' hcB (OD_70.has.adh (Nat.zero_lt_of_lt (show k < _ from (by omega)))) (get_d (l := W.doB (l ++ m)) (u := false) (by omega)) rfl LawD_ag_bool)) rfl <| nl <| nT <| ?_
      refine cb rfl (fun h_141 => ?_) (fun h_141 => ?_)
      · refine rg <| vl (mv rfl) rfl <| vl (ld rfl (B_134.all LawD_ag_api_Deed LawD_sz_api_Deed)) rfl <| bs (e := 45) (cs := [.int .i64 (((l ++ m).getD k default).kind), .int .i64 (((l ++ m).getD k default).who), .int .i64 (((l ++ m).getD k default).spot.x), .int .i64 (((l ++ m).getD k default).spot.y), .int .i64 (((l ++ m).getD k default).what)]) rfl (fun _ => by kernel_rfl) rfl fun w_142 b_143 x_144 l_145 B_146 => ?_
        have q_147 := x_144.size
        have z_142 := Ext.tr z_137 x_144
        have q_148 := B_146.lt
        have OO := OO.later x_132
        have OO := OO.mod m_138 (fun q hq h => by have hb := List.mem_singleton.1 h; exfalso; (have := u_128 q hq; omega))
        have OO := OO.later x_144
        refine ap LawD_el_S_api_Deed Rep.flat_bare OO (Blk.has1 (R := Ded.rep) (by_ := 40) (q := (l ++ m).getD k default) B_146 ⟨rfl, (hok _ (mem_d (by omega)))⟩ (by decide)) rfl rfl (by rw [List.length_cons, List.length_nil]; rw [List.length_take] at hpl; omega) (by rw [List.length_cons, List.length_nil]; rw [List.length_take] at hpl; omega) z_142.size rfl fun w_149 A_150 c_151 m_152 O_153 g_154 n_155 => ?_
        have q_156 := m_152.size
        have z_149 := Ext.mod z_142 m_152 (fun q hq => (OO.lt q hq).1)
        have u_157 := fun q hq => (O_153.lt q hq).2
        have q_158 := m_152.size
        refine vl (as_ rfl) rfl <| nl <| nB <| nT <| rg <| vl (bad rfl rfl (inI (by omega))) rfl <| vl (mv rfl) rfl <| nl <| ?_
        have B_5 := B_5.later x_132
        have B_5 := B_5.mod m_138 (by simp only [List.mem_singleton]; omega)
        have B_5 := B_5.later x_144
        have B_5 := B_5.mod m_152 (fun hq => d_112 _ hq rfl)
        have O_63 := O_63.later x_132
        have O_63 := O_63.mod m_138 (fun q hq h => by have hb := List.mem_singleton.1 h; exfalso; (have := u_124 q hq; omega))
        have O_63 := O_63.later x_144
        have O_63 := O_63.mod m_152 (fun q hq h => by exfalso; (exact d_115 q h hq))
        have HO_70 := HO_70.later x_132
        have HO_70 := HO_70.mod m_138 (fun q hq h => by have hb := List.mem_singleton.1 h; exfalso; (have := u_125 q hq; omega))
        have HO_70 := HO_70.later x_144
        have HO_70 := HO_70.mod m_152 (fun q hq h => by exfalso; (exact d_114 q h hq))
        have OD_70 := OD_70.later x_144
        have OD_70 := OD_70.mod m_152 (fun q hq h => by exfalso; (exact d_116 q h hq))
        have B_82 := B_82.later x_132
        have B_82 := B_82.mod m_138 (by simp only [List.mem_singleton]; omega)
        have B_82 := B_82.later x_144
        have B_82 := B_82.mod m_152 (fun hq => d_113 _ hq rfl)
        exact nI _ _ ⟨k + 1, A_150, c_151, rfl, rfl, z_149, B_5, O_63, HO_70, OD_70, B_82, (by rw [picked_yes (by omega) (by omega) h_141]; exact O_153), by omega, (fun q hq hb => by (exact Or.elim (g_154 q hq) (fun k_159 => by (exact d_112 q k_159 hb)) (fun k_159 => by omega))), (fun q hq hb => by (exact Or.elim (g_154 q hq) (fun k_160 => by (exact d_113 q k_160 hb)) (fun k_160 => by omega))), (fun q hq hb => by (exact Or.elim (g_154 q hq) (fun k_161 => by (exact d_114 q k_161 hb)) (fun k_161 => by (have := u_125 q hb; omega)))), (fun q hq hb => by (exact Or.elim (g_154 q hq) (fun k_162 => by (exact d_115 q k_162 hb)) (fun k_162 => by (have := u_124 q hb; omega)))), (fun q hq hb => by (exact Or.elim (g_154 q hq) (fun k_163 => by (exact d_116 q k_163 hb)) (fun k_163 => by (have := u_126 q hb; omega))))⟩ (by omega) (.cons rfl (.cons rfl (.cons rfl (.cons rfl (.cons (by rw [picked_yes (by omega) (by omega) h_141]; rfl) (.cons rfl (.cons rfl (.cons (loI rfl (by first | omega | rfl | (simp <;> omega))) .nil))))))))
      · refine sk <| nB <| nT <| rg <| vl (bad rfl rfl (inI (by omega))) rfl <| vl (mv rfl) rfl <| nl <| ?_
        have B_5 := B_5.later x_132
        have B_5 := B_5.mod m_138 (by simp only [List.mem_singleton]; omega)
        have O_63 := O_63.later x_132
        have O_63 := O_63.mod m_138 (fun q hq h => by have hb := List.mem_singleton.1 h; exfalso; (have := u_124 q hq; omega))
        have HO_70 := HO_70.later x_132
        have HO_70 := HO_70.mod m_138 (fun q hq h => by have hb := List.mem_singleton.1 h; exfalso; (have := u_125 q hq; omega))
        have B_82 := B_82.later x_132
        have B_82 := B_82.mod m_138 (by simp only [List.mem_singleton]; omega)
        have OO := OO.later x_132
        have OO := OO.mod m_138 (fun q hq h => by have hb := List.mem_singleton.1 h; exfalso; (have := u_128 q hq; omega))
        exact nI _ _ ⟨k + 1, Ao, co, rfl, rfl, z_137, B_5, O_63, HO_70, OD_70, B_82, (by rw [picked_no (by omega) (by omega) h_141]; exact OO), by omega, (fun q hq hb => by (exact d_112 q hq hb)), (fun q hq hb => by (exact d_113 q hq hb)), (fun q hq hb => by (exact d_114 q hq hb)), (fun q hq hb => by (exact d_115 q hq hb)), (fun q hq hb => by (exact d_116 q hq hb))⟩ (by omega) (.cons rfl (.cons rfl (.cons rfl (.cons rfl (.cons (by rw [picked_no (by omega) (by omega) h_141]; rfl) (.cons rfl (.cons rfl (.cons (loI rfl (by first | omega | rfl | (simp <;> omega))) .nil))))))))
    · refine xt <| xT <| xK <| xB <| nT <| sq <| rg <| vl (ld rfl (B_5.all LawD_ag_api_World LawD_sz_api_World)) rfl <| vl (mv rfl) rfl <| ca LawD_en_goods_Do rfl rfl ((do_any (picked ((l ++ m).take k) ((W.doB (l ++ m)).take k)) _ _ _ a W (hW.keep z_117) OO.has).mono ?_)
      rintro e w_169 ⟨a_164, A_164, c_164, rfl, HO_164, OD_164, hd_164, x_170⟩
      refine ⟨_, rfl, ?_⟩
      have q_171 := x_170.size
      have z_169 := Ext.tr z_117 x_170
      have u_165 := fun q hq => (HO_164.lt q hq).2
      have lo_166 := fun q hq => (HO_164.lt q hq).1
      have u_167 := fun q hq => (OD_164.lt q hq).2
      have lo_168 := fun q hq => (OD_164.lt q hq).1
      have dd_164 : ∀ q ∈ Rep.blkOf A_164, q ∈ WOwn.foot a_164 → False := hd_164
      have dw_164 : ∀ q ∈ WOwn.foot a_164, q ∈ Rep.blkOf A_164 → False := fun q h1 h2 => hd_164 q h2 h1
      refine vl (mv rfl) rfl <| vl (ex rfl rfl) rfl <| vl (ex rfl rfl) rfl <| vl (ex rfl rfl) rfl <| al rfl LawD_zv_api_World rfl rfl fun w_172 b_173 x_174 l_175 B_176 => ?_
      have q_177 := x_174.size
      have z_172 := Ext.tr z_169 x_174
      have q_178 := B_176.lt
      refine st rfl rfl B_176 rfl LawD_sz_api_World rfl rfl rfl fun w_179 m_180 B_176 => ?_
      have q_182 := m_180.size
      have z_179 := Ext.mod z_172 m_180 (by simp only [List.mem_singleton, forall_eq]; omega)
      have q_181 := m_180.size
      refine vl (as_ rfl) rfl <| vl (as_ rfl) rfl <| nl <| nT <| sq <| rg <| vl (mv rfl) rfl <| vl (beq rfl rfl) rfl <| vl (mv rfl) rfl <| vQ rfl rfl rfl rfl (fun hc => ld rfl (B_176.all LawD_ag_api_World LawD_sz_api_World)) rfl <| ?_
      have B_82 := B_82.later (Ext.tr x_170 x_174)
      have B_82 := B_82.mod m_180 (by simp only [List.mem_singleton]; omega)
      refine vQ rfl rfl rfl rfl (fun hc => ld rfl (B_82.all LawD_ag_api_World LawD_sz_api_World)) rfl <| ?_
      have HO_164 := HO_164.later x_174
      have HO_164 := HO_164.mod m_180 (fun q hq h => by have hb := List.mem_singleton.1 h; exfalso; (have := u_165 q hq; omega))
      have HO_70 := HO_70.later (Ext.tr x_170 x_174)
      have HO_70 := HO_70.mod m_180 (fun q hq h => by have hb := List.mem_singleton.1 h; exfalso; (have := u_125 q hq; omega))
      refine vC rfl rfl rfl rfl LawD_en_mustref_SameWorld (fun hc => ec (gt hc rfl) (ec (gt hc rfl) rfl)) (fun hc => sameWorld_any _ a_164 (W.doW (picked ((l ++ m).take k) ((W.doB (l ++ m)).take k))) a_70 (W.doW (l ++ m)) HO_164.has HO_70.has) rfl fun w_183 x_184 => ?_
      have q_185 := x_184.size
      have z_183 := Ext.tr z_179 x_184
      refine vl (pA rfl rfl rfl rfl) rfl <| vl (as_ rfl) rfl <| nl <| nT <| rt <| tR (.tmp rfl .nil) <| ?_
      exact ⟨ret_true (cuts_yes hE3 (by omega)), z_183⟩
theorem goodsCuts_any (c0 : Array Value) (a1 : Option Addr) (len1 cap1 : Nat) (a2 : Option Addr) (len2 cap2 : Nat) (w : World) (h0 : (.cons (.cons (.int .i64) (.cons (.int .i64) (.cons (.slice (.int .i64) 8) .nil))) (.cons (.slice (.cons (.int .i64) (.cons (.int .i64) .nil)) 16) (.cons (.slice (.int .i64) 8) (.cons (.slice (.int .i64) 8) (.cons (.slice (.cons (.int .i64) (.cons (.int .i64) (.cons (.int .i64) (.cons (.cons (.int .i64) (.cons (.int .i64) .nil)) (.cons (.int .i64) (.cons (.int .i64) .nil)))))) 56) (.cons (.int .i64) (.cons (.int .i64) .nil)))))) : Sh).Ok w c0.toList) (h1 : (.slice (.cons (.int .i64) (.cons (.int .i64) (.cons (.cons (.int .i64) (.cons (.int .i64) .nil)) (.cons (.int .i64) .nil)))) 40 : Sh).Ok w [.slice a1 len1 cap1]) (h2 : (.slice (.cons (.int .i64) (.cons (.int .i64) (.cons (.cons (.int .i64) (.cons (.int .i64) .nil)) (.cons (.int .i64) .nil)))) 40 : Sh).Ok w [.slice a2 len2 cap2]) :
    Calls Try.prog 4 #[.agg c0, .slice a1 len1 cap1, .slice a2 len2 cap2] w fun e w' => e = .returned (.bool true) ∧ Below w.heap.size w w' := by
  obtain ⟨a, W, e, hW⟩ := Wd.opens w _ (show Wd.sh.Ok w c0.toList from h0)
  have hc : c0 = (Wd.cells a W).toArray := by rw [← e]
  subst hc
  obtain ⟨A, c, l, e2, hl⟩ := Rep.opens_slice (R := Ded.rep) (by_ := 40) Ded.opens rfl (by decide) h1
  simp only [List.cons.injEq, Value.slice.injEq, and_true] at e2
  obtain ⟨rfl, rfl, rfl⟩ := e2
  obtain ⟨A2, c2, m, e3, hm⟩ := Rep.opens_slice (R := Ded.rep) (by_ := 40) Ded.opens rfl (by decide) h2
  simp only [List.cons.injEq, Value.slice.injEq, and_true] at e3
  obtain ⟨rfl, rfl, rfl⟩ := e3
  exact goodsCuts_walk a W _ _ l _ _ m w hW hl hm
end Go.Proofs.Yticfnngppcmidaa
