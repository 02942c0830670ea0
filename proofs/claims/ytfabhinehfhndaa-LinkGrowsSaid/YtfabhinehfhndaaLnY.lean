/-
  LinkGrows. (Printed by bin/linkgrow.py.)
-/
import Derived.Test.YtfabhinehfhndaaLnR
import Derived.Test.YtfabhinehfhndaaLnG
set_option linter.unusedVariables false
set_option linter.unusedSimpArgs false
namespace Go.Proofs.Ytfabhinehfhndaa
open Go.RowKit

theorem LnY_ag_api_Link : Ag Try.prog 55 true := fun _ => by kernel_rfl
theorem LnY_sz_api_Link : Sz Try.prog 55 8 := fun _ => by kernel_rfl
theorem LnY_ag_api_Event : Ag Try.prog 60 true := fun _ => by kernel_rfl
theorem LnY_sz_api_Event : Sz Try.prog 60 4 := fun _ => by kernel_rfl
theorem LnY_en_link_Do : Enters Try.prog 31 := en Try.func31 (by kernel_rfl) (by kernel_rfl)
theorem LnY_zv_api_Link : Zv Try.prog 55 (.agg #[.int .i64 0, .slice none 0 0, .int .i64 0, .int .i64 0, .slice none 0 0, .slice none 0 0, .slice none 0 0, .slice none 0 0]) := fun _ => by kernel_rfl
theorem LnY_en_mustkeep_linkLives : Enters Try.prog 27 := en Try.func27 (by kernel_rfl) (by kernel_rfl)
theorem LnY_en_mustref_SameLink : Enters Try.prog 32 := en Try.func32 (by kernel_rfl) (by kernel_rfl)
theorem LnY_fd_api_Link_6 : Fd Try.prog 55 6 6 := fun _ _ _ => by kernel_rfl
theorem LnY_ag_S_string : Ag Try.prog 53 false := fun _ => by kernel_rfl
theorem LnY_fd_api_Link_1 : Fd Try.prog 55 1 1 := fun _ _ _ => by kernel_rfl
theorem LnY_sz_string : Sz Try.prog 9 1 := fun _ => by kernel_rfl
theorem LnY_en_slices_Equal_S_string_string_ : Enters Try.prog 28 := en Try.func28 (by kernel_rfl) (by kernel_rfl)
theorem LnY_fd_api_Link_2 : Fd Try.prog 55 2 2 := fun _ _ _ => by kernel_rfl
theorem LnY_ag_int : Ag Try.prog 3 false := fun _ => by kernel_rfl
theorem LnY_fd_api_Link_3 : Fd Try.prog 55 3 3 := fun _ _ _ => by kernel_rfl
theorem LnY_en_mustref_LinkRight : Enters Try.prog 29 := en Try.func29 (by kernel_rfl) (by kernel_rfl)
theorem Lnk.opens (w : World) (cs : List Value) (h : Lnk.sh.Ok w cs) : ∃ (a : Lnk.At) (L : Lnk), cs = Lnk.cells a L ∧ Lnk.Has w a L := by
  obtain ⟨_, _, rfl, _, _, ⟨x0, rfl, k0⟩, _, _, rfl, _, _, hS, _, _, rfl, _, _, ⟨x2, rfl, k2⟩, _, _, rfl, _, _, ⟨x3, rfl, k3⟩, _, _, rfl, _, _, hW, _, _, rfl, _, _, hK, _, _, rfl, _, _, hG, _, _, rfl, _, _, hH, rfl⟩ := h
  obtain ⟨AS, cS, lS, rfl, HS⟩ := Rep.opens_slice (R := repS) (by_ := 16) repS_opens rfl (by decide) hS
  obtain ⟨AW, cW, lW, rfl, HW⟩ := Rep.opens_slice (R := repI) (by_ := 8) repI_opens rfl (by decide) hW
  obtain ⟨AK, cK, lK, rfl, HK⟩ := Rep.opens_slice (R := repI) (by_ := 8) repI_opens rfl (by decide) hK
  obtain ⟨AG, cG, lG, rfl, HG⟩ := Rep.opens_slice (R := repS) (by_ := 16) repS_opens rfl (by decide) hG
  obtain ⟨AH, cH, lH, rfl, HH⟩ := Rep.opens_slice (R := repI) (by_ := 8) repI_opens rfl (by decide) hH
  exact ⟨⟨AS, AW, AK, AG, AH, cS, cW, cK, cG, cH⟩, ⟨x0, lS, x2, x3, lW, lK, lG, lH⟩, rfl, HS, HW, HK, HG, HH, k0, k2, k3⟩
set_option maxRecDepth 100000 in
set_option maxHeartbeats 400000 in
theorem linkGrows_bad (a : Lnk.At) (L M : Lnk) (x : Evt) (e : Int) (w : World) (hL : Lnk.Has w a L) (hxo : x.ok) (hM : L.doR x = (M, e)) (hne : (e != 0) = true) (hs : M = L) :
    Calls Try.prog 10 #[.agg #[.int .i64 L.window, .slice a.S L.sent.length a.s, .int .i64 L.base, .int .i64 L.next, .slice a.W L.way.length a.w, .slice a.K L.acks.length a.k, .slice a.G L.got.length a.g, .slice a.H L.held.length a.h], .agg #[.int .i64 x.kind, .int .i64 x.at_, .bool x.keep, .string x.text]] w (fun e w' => e = .returned (.bool true) ∧ Ext w w') := by
  refine calls_W (n := 82) Try.func10 rfl rfl rfl ?_
  refine sq <| rg <| bx rfl rfl rfl rfl fun w_1 b_2 x_3 l_4 B_5 => ?_
  have q_6 := x_3.size
  have z_1 := Ext.tr (Ext.rf w) x_3
  have q_7 := B_5.lt
  refine bx rfl rfl rfl rfl fun w_8 b_9 x_10 l_11 B_12 => ?_
  have q_13 := x_10.size
  have z_8 := Ext.tr z_1 x_10
  have q_14 := B_12.lt
  refine vl (as_ rfl) rfl <| nl <| nT <| sq <| rg <| ?_
  have B_5 := B_5.later x_10
  refine vl (ld rfl (B_5.all LnY_ag_api_Link LnY_sz_api_Link)) rfl <| vl (ld rfl (B_12.all LnY_ag_api_Event LnY_sz_api_Event)) rfl <| ?_
  have hDA := lDo_any a L x _ (hL.keep z_8) hxo
  rw [hM] at hDA
  dsimp only at hDA
  refine ca LnY_en_link_Do rfl rfl ((hDA).mono ?_)
  rintro e w_25 ⟨aA, rfl, HTA, x_26⟩
  refine ⟨_, rfl, ?_⟩
  have q_27 := x_26.size
  have z_25 := Ext.tr z_8 x_26
  have bdHTA := fun q hq => HTA.lt (q := q) hq
  have loHTA := fun q hq => (HTA.lt (q := q) hq).1
  have MAS := HTA.S
  have u_15 := fun q hq => (MAS.lt q hq).2
  have lo_16 := fun q hq => (MAS.lt q hq).1
  have cMAS := MAS.has.1
  have eMAS := MAS.has.len_le
  have MAW := HTA.W
  have u_17 := fun q hq => (MAW.lt q hq).2
  have lo_18 := fun q hq => (MAW.lt q hq).1
  have cMAW := MAW.has.1
  have eMAW := MAW.has.len_le
  have MAK := HTA.K
  have u_19 := fun q hq => (MAK.lt q hq).2
  have lo_20 := fun q hq => (MAK.lt q hq).1
  have cMAK := MAK.has.1
  have eMAK := MAK.has.len_le
  have MAG := HTA.G
  have u_21 := fun q hq => (MAG.lt q hq).2
  have lo_22 := fun q hq => (MAG.lt q hq).1
  have cMAG := MAG.has.1
  have eMAG := MAG.has.len_le
  have MAH := HTA.H
  have u_23 := fun q hq => (MAH.lt q hq).2
  have lo_24 := fun q hq => (MAH.lt q hq).1
  have cMAH := MAH.has.1
  have eMAH := MAH.has.len_le
  refine vl (mv rfl) rfl <| vl (ex rfl rfl) rfl <| vl (ex rfl rfl) rfl <| al rfl LnY_zv_api_Link rfl rfl fun w_28 b_29 x_30 l_31 B_32 => ?_
  have q_33 := x_30.size
  have z_28 := Ext.tr z_25 x_30
  have q_34 := B_32.lt
  refine st (new := [.int .i64 M.window, .slice aA.S M.sent.length aA.s, .int .i64 M.base, .int .i64 M.next, .slice aA.W M.way.length aA.w, .slice aA.K M.acks.length aA.k, .slice aA.G M.got.length aA.g, .slice aA.H M.held.length aA.h]) rfl rfl B_32 rfl LnY_sz_api_Link rfl rfl rfl fun w_35 m_36 B_32 => ?_
  have q_38 := m_36.size
  have z_35 := Ext.mod z_28 m_36 (by simp only [List.mem_singleton, forall_eq]; omega)
  have q_37 := m_36.size
  refine vl (as_ rfl) rfl <| nl <| nT <| sq <| sq <| rg <| ca LnY_en_mustkeep_linkLives rfl rfl ((linkLives_any _).mono ?_)
  rintro e w_39 ⟨rfl, x_40⟩
  refine ⟨_, rfl, ?_⟩
  have q_41 := x_40.size
  have z_39 := Ext.tr z_35 x_40
  refine vl (nt rfl) rfl <| vl (mv rfl) rfl <| ug rfl rfl rfl <| vl (mv rfl) rfl <| ug rfl rfl rfl <| vl (bne rfl rfl) rfl <| vl (pkF rfl (evb rfl hne)) rfl <| nl <| nT <| cT rfl <| sq <| rg <| ca LnY_en_mustkeep_linkLives rfl rfl ((linkLives_any _).mono ?_)
  rintro e w_42 ⟨rfl, x_43⟩
  refine ⟨_, rfl, ?_⟩
  have q_44 := x_43.size
  have z_42 := Ext.tr z_39 x_43
  refine vl (mv rfl) rfl <| ug rfl rfl rfl <| ?_
  have B_32 := B_32.later (Ext.tr x_40 x_43)
  refine vl (ld rfl (B_32.all LnY_ag_api_Link LnY_sz_api_Link)) rfl <| ug rfl rfl rfl <| ?_
  have B_5 := B_5.later (Ext.tr x_26 x_30)
  have B_5 := B_5.mod m_36 (by simp only [List.mem_singleton]; omega)
  have B_5 := B_5.later (Ext.tr x_40 x_43)
  refine vl (ld rfl (B_5.all LnY_ag_api_Link LnY_sz_api_Link)) rfl <| ug rfl rfl rfl <| ?_
  have HTA := HTA.later x_30
  have HTA := HTA.mod m_36 (fun q hq h => by have e_ := List.mem_singleton.1 h; have := bdHTA q hq; omega)
  have HTA := HTA.later (Ext.tr x_40 x_43)
  refine ca LnY_en_mustref_SameLink rfl rfl ((sameLink_any _ M _ L _ HTA.has (hL.keep z_42)).mono ?_)
  rintro e w_45 ⟨rfl, x_46⟩
  refine ⟨_, rfl, ?_⟩
  have q_47 := x_46.size
  have z_45 := Ext.tr z_42 x_46
  refine vl (pkT rfl rfl) rfl <| vl (as_ rfl) rfl <| nl <| nT <| rt <| tT <| tR (.tmp rfl .nil) <| ?_
  exact ⟨by rw [decide_eq_true hs]; rfl, z_45⟩
set_option maxRecDepth 100000 in
set_option maxHeartbeats 400000 in
theorem linkGrows_ok (a : Lnk.At) (L M : Lnk) (x : Evt) (w : World) (hL : Lnk.Has w a L) (hxo : x.ok) (hM : L.doR x = (M, 0)) (hMc : M.chk = 0) (h1 : L.got.length ≤ M.got.length) (h2 : M.got.take L.got.length = L.got) (h3 : L.sent.length ≤ M.sent.length) (h4 : M.sent.take L.sent.length = L.sent) (h5 : L.base ≤ M.base) (h6 : L.next ≤ M.next) :
    Calls Try.prog 10 #[.agg #[.int .i64 L.window, .slice a.S L.sent.length a.s, .int .i64 L.base, .int .i64 L.next, .slice a.W L.way.length a.w, .slice a.K L.acks.length a.k, .slice a.G L.got.length a.g, .slice a.H L.held.length a.h], .agg #[.int .i64 x.kind, .int .i64 x.at_, .bool x.keep, .string x.text]] w (fun e w' => e = .returned (.bool true) ∧ Ext w w') := by
  have k1 : decide ((L.got.length : Int) ≤ (M.got.length : Int)) = true := decide_eq_true (by omega)
  have k2 : decide (M.got.take L.got.length = L.got) = true := decide_eq_true h2
  have k3 : decide ((L.sent.length : Int) ≤ (M.sent.length : Int)) = true := decide_eq_true (by omega)
  have k4 : decide (M.sent.take L.sent.length = L.sent) = true := decide_eq_true h4
  have k5 := decide_eq_true h5
  have k6 := decide_eq_true h6
  have hG0 := hL.G.len_le
  have hS0 := hL.S.len_le
  refine calls_W (n := 82) Try.func10 rfl rfl rfl ?_
  refine sq <| rg <| bx rfl rfl rfl rfl fun w_1 b_2 x_3 l_4 B_5 => ?_
  have q_6 := x_3.size
  have z_1 := Ext.tr (Ext.rf w) x_3
  have q_7 := B_5.lt
  refine bx rfl rfl rfl rfl fun w_8 b_9 x_10 l_11 B_12 => ?_
  have q_13 := x_10.size
  have z_8 := Ext.tr z_1 x_10
  have q_14 := B_12.lt
  refine vl (as_ rfl) rfl <| nl <| nT <| sq <| rg <| ?_
  have B_5 := B_5.later x_10
  refine vl (ld rfl (B_5.all LnY_ag_api_Link LnY_sz_api_Link)) rfl <| vl (ld rfl (B_12.all LnY_ag_api_Event LnY_sz_api_Event)) rfl <| ?_
  have hDA := lDo_any a L x _ (hL.keep z_8) hxo
  rw [hM] at hDA
  dsimp only at hDA
  refine ca LnY_en_link_Do rfl rfl ((hDA).mono ?_)
  rintro e w_25 ⟨aA, rfl, HTA, x_26⟩
  refine ⟨_, rfl, ?_⟩
  have q_27 := x_26.size
  have z_25 := Ext.tr z_8 x_26
  have bdHTA := fun q hq => HTA.lt (q := q) hq
  have loHTA := fun q hq => (HTA.lt (q := q) hq).1
  have MAS := HTA.S
  have u_15 := fun q hq => (MAS.lt q hq).2
  have lo_16 := fun q hq => (MAS.lt q hq).1
  have cMAS := MAS.has.1
  have eMAS := MAS.has.len_le
  have MAW := HTA.W
  have u_17 := fun q hq => (MAW.lt q hq).2
  have lo_18 := fun q hq => (MAW.lt q hq).1
  have cMAW := MAW.has.1
  have eMAW := MAW.has.len_le
  have MAK := HTA.K
  have u_19 := fun q hq => (MAK.lt q hq).2
  have lo_20 := fun q hq => (MAK.lt q hq).1
  have cMAK := MAK.has.1
  have eMAK := MAK.has.len_le
  have MAG := HTA.G
  have u_21 := fun q hq => (MAG.lt q hq).2
  have lo_22 := fun q hq => (MAG.lt q hq).1
  have cMAG := MAG.has.1
  have eMAG := MAG.has.len_le
  have MAH := HTA.H
  have u_23 := fun q hq => (MAH.lt q hq).2
  have lo_24 := fun q hq => (MAH.lt q hq).1
  have cMAH := MAH.has.1
  have eMAH := MAH.has.len_le
  refine vl (mv rfl) rfl <| vl (ex rfl rfl) rfl <| vl (ex rfl rfl) rfl <| al rfl LnY_zv_api_Link rfl rfl fun w_28 b_29 x_30 l_31 B_32 => ?_
  have q_33 := x_30.size
  have z_28 := Ext.tr z_25 x_30
  have q_34 := B_32.lt
  refine st (new := [.int .i64 M.window, .slice aA.S M.sent.length aA.s, .int .i64 M.base, .int .i64 M.next, .slice aA.W M.way.length aA.w, .slice aA.K M.acks.length aA.k, .slice aA.G M.got.length aA.g, .slice aA.H M.held.length aA.h]) rfl rfl B_32 rfl LnY_sz_api_Link rfl rfl rfl fun w_35 m_36 B_32 => ?_
  have q_38 := m_36.size
  have z_35 := Ext.mod z_28 m_36 (by simp only [List.mem_singleton, forall_eq]; omega)
  have q_37 := m_36.size
  refine vl (as_ rfl) rfl <| nl <| nT <| sq <| sq <| rg <| ca LnY_en_mustkeep_linkLives rfl rfl ((linkLives_any _).mono ?_)
  rintro e w_39 ⟨rfl, x_40⟩
  refine ⟨_, rfl, ?_⟩
  have q_41 := x_40.size
  have z_39 := Ext.tr z_35 x_40
  refine vl (nt rfl) rfl <| vl (mv rfl) rfl <| ug rfl rfl rfl <| vl (mv rfl) rfl <| ug rfl rfl rfl <| vl (bne rfl rfl) rfl <| vl (pkF rfl rfl) rfl <| nl <| nT <| cF rfl <| sk <| nT <| sq <| ?_
  refine rd [(1, 0), (4, 0)] [0, 1, 2, 3, 4, 5, 6, 7] (by kernel_rfl) (by kernel_rfl) ?_
  refine fw rfl rfl (fun _ => fa LnY_fd_api_Link_6 rfl) rfl <| ?_
  have B_5 := B_5.later (Ext.tr x_26 x_30)
  have B_5 := B_5.mod m_36 (by simp only [List.mem_singleton]; omega)
  have B_5 := B_5.later x_40
  refine fq rfl rfl (fun _ x => ld rfl ((B_5.later x).one LnY_ag_S_string rfl)) rfl <| fw rfl rfl (fun _ => ln Try.underlying53 rfl) rfl <| fw rfl rfl (fun _ => fa LnY_fd_api_Link_1 rfl) rfl <| fq rfl rfl (fun _ x => ld rfl ((B_5.later x).one LnY_ag_S_string rfl)) rfl <| fw rfl rfl (fun _ => ln Try.underlying53 rfl) rfl <| fw rfl rfl (fun _ => as_ rfl) rfl <| fw rfl rfl (fun _ => as_ rfl) rfl <| fn fun w_42 x_43 => ?_
  have q_44 := x_43.size
  have z_42 := Ext.tr z_39 x_43
  refine nT <| sq <| ?_
  refine rd [(1, 0), (7, 0), (11, 0), (12, 0), (16, 0), (23, 0), (27, 0), (28, 0), (32, 0), (34, 0), (39, 0), (41, 0), (45, 0), (46, 0)] [0, 1, 2, 3, 4, 5, 6, 7, 8, 9, 10, 11, 12, 13, 14, 15, 16, 17, 18, 19, 20, 21, 22, 23, 24, 25, 26, 27, 28, 29, 30, 31, 32, 33, 34, 35, 36, 37, 38, 39, 40, 41, 42, 43, 44, 45, 46, 47, 48, 49] (by kernel_rfl) (by kernel_rfl) ?_
  refine fw rfl rfl (fun _ => fa LnY_fd_api_Link_6 rfl) rfl <| ?_
  have B_32 := B_32.later (Ext.tr x_40 x_43)
  refine fq rfl rfl (fun _ x => ld rfl ((B_32.later x).one LnY_ag_S_string rfl)) rfl <| fw rfl rfl (fun _ => ln Try.underlying53 rfl) rfl <| fw rfl rfl (fun _ => mv rfl) rfl <| fw rfl rfl (fun _ => bge rfl rfl) rfl <| fw rfl rfl (fun _ => mv (evb rfl k1)) rfl <| fW rfl rfl rfl rfl rfl rfl (fun hc _ => fa LnY_fd_api_Link_6 rfl) rfl <| fQ rfl rfl rfl rfl rfl rfl (fun hc _ x => ld rfl ((B_32.later x).one LnY_ag_S_string rfl)) rfl <| fW rfl rfl rfl rfl rfl rfl (fun hc _ => mv rfl) rfl <| fW rfl rfl rfl rfl rfl rfl (fun hc _ => sP L.got.length (M.got.take L.got.length).length Try.underlying53 LnY_sz_string rfl rfl rfl (by omega) (by rw [List.length_take]; omega)) rfl <| fW rfl rfl rfl rfl rfl rfl (fun hc _ => fa LnY_fd_api_Link_6 rfl) rfl <| ?_
  have B_5 := B_5.later x_43
  refine fQ rfl rfl rfl rfl rfl rfl (fun hc _ x => ld rfl ((B_5.later x).one LnY_ag_S_string rfl)) rfl <| ?_
  have MAG := MAG.later x_30
  have MAG := MAG.mod m_36 (fun q hq h => by have hb := List.mem_singleton.1 h; exfalso; (have := u_21 q hq; omega))
  have MAG := MAG.later (Ext.tr x_40 x_43)
  refine fC rfl rfl rfl rfl rfl rfl LnY_en_slices_Equal_S_string_string_ (fun hc => rfl) (fun hc _ x => equal_S _ _ _ _ _ _ (M.got.take L.got.length) L.got _ ((MAG.later x).has.pre L.got.length) (hL.G.keep (Ext.tr z_42 x))) rfl <| fw rfl rfl (fun _ => pkT rfl (evb rfl k2)) rfl <| fw rfl rfl (fun _ => mv rfl) rfl <| fW rfl rfl rfl rfl rfl rfl (fun hc _ => fa LnY_fd_api_Link_1 rfl) rfl <| fQ rfl rfl rfl rfl rfl rfl (fun hc _ x => ld rfl ((B_32.later x).one LnY_ag_S_string rfl)) rfl <| fW rfl rfl rfl rfl rfl rfl (fun hc _ => ln Try.underlying53 rfl) rfl <| fW rfl rfl rfl rfl rfl rfl (fun hc _ => mv rfl) rfl <| fW rfl rfl rfl rfl rfl rfl (fun hc _ => bge rfl rfl) rfl <| fw rfl rfl (fun _ => pkT rfl (evb rfl k3)) rfl <| fw rfl rfl (fun _ => mv rfl) rfl <| fW rfl rfl rfl rfl rfl rfl (fun hc _ => fa LnY_fd_api_Link_1 rfl) rfl <| fQ rfl rfl rfl rfl rfl rfl (fun hc _ x => ld rfl ((B_32.later x).one LnY_ag_S_string rfl)) rfl <| fW rfl rfl rfl rfl rfl rfl (fun hc _ => mv rfl) rfl <| fW rfl rfl rfl rfl rfl rfl (fun hc _ => sP L.sent.length (M.sent.take L.sent.length).length Try.underlying53 LnY_sz_string rfl rfl rfl (by omega) (by rw [List.length_take]; omega)) rfl <| fW rfl rfl rfl rfl rfl rfl (fun hc _ => fa LnY_fd_api_Link_1 rfl) rfl <| fQ rfl rfl rfl rfl rfl rfl (fun hc _ x => ld rfl ((B_5.later x).one LnY_ag_S_string rfl)) rfl <| ?_
  have MAS := MAS.later x_30
  have MAS := MAS.mod m_36 (fun q hq h => by have hb := List.mem_singleton.1 h; exfalso; (have := u_15 q hq; omega))
  have MAS := MAS.later (Ext.tr x_40 x_43)
  refine fC rfl rfl rfl rfl rfl rfl LnY_en_slices_Equal_S_string_string_ (fun hc => rfl) (fun hc _ x => equal_S _ _ _ _ _ _ (M.sent.take L.sent.length) L.sent _ ((MAS.later x).has.pre L.sent.length) (hL.S.keep (Ext.tr z_42 x))) rfl <| fw rfl rfl (fun _ => pkT rfl (evb rfl k4)) rfl <| fw rfl rfl (fun _ => mv rfl) rfl <| fW rfl rfl rfl rfl rfl rfl (fun hc _ => fa LnY_fd_api_Link_2 rfl) rfl <| fQ rfl rfl rfl rfl rfl rfl (fun hc _ x => ld rfl ((B_32.later x).one LnY_ag_int rfl)) rfl <| fW rfl rfl rfl rfl rfl rfl (fun hc _ => fa LnY_fd_api_Link_2 rfl) rfl <| fQ rfl rfl rfl rfl rfl rfl (fun hc _ x => ld rfl ((B_5.later x).one LnY_ag_int rfl)) rfl <| fW rfl rfl rfl rfl rfl rfl (fun hc _ => bge rfl rfl) rfl <| fw rfl rfl (fun _ => pkT rfl (evb rfl k5)) rfl <| fw rfl rfl (fun _ => mv rfl) rfl <| fW rfl rfl rfl rfl rfl rfl (fun hc _ => fa LnY_fd_api_Link_3 rfl) rfl <| fQ rfl rfl rfl rfl rfl rfl (fun hc _ x => ld rfl ((B_32.later x).one LnY_ag_int rfl)) rfl <| fW rfl rfl rfl rfl rfl rfl (fun hc _ => fa LnY_fd_api_Link_3 rfl) rfl <| fQ rfl rfl rfl rfl rfl rfl (fun hc _ x => ld rfl ((B_5.later x).one LnY_ag_int rfl)) rfl <| fW rfl rfl rfl rfl rfl rfl (fun hc _ => bge rfl rfl) rfl <| fw rfl rfl (fun _ => pkT rfl (evb rfl k6)) rfl <| fw rfl rfl (fun _ => mv rfl) rfl <| fQ rfl rfl rfl rfl rfl rfl (fun hc _ x => ld rfl ((B_32.later x).all LnY_ag_api_Link LnY_sz_api_Link)) rfl <| ?_
  have HTA := HTA.later x_30
  have HTA := HTA.mod m_36 (fun q hq h => by have e_ := List.mem_singleton.1 h; have := bdHTA q hq; omega)
  have HTA := HTA.later (Ext.tr x_40 x_43)
  refine fC rfl rfl rfl rfl rfl rfl LnY_en_mustref_LinkRight (fun hc => rfl) (fun hc _ x => linkRight_any _ M _ (HTA.later x).has) rfl <| fW rfl rfl rfl rfl rfl rfl (fun hc _ => beq rfl rfl) rfl <| fw rfl rfl (fun _ => pkT rfl rfl) rfl <| fw rfl rfl (fun _ => as_ rfl) rfl <| fn fun w_45 x_46 => ?_
  have q_47 := x_46.size
  have z_45 := Ext.tr z_42 x_46
  refine nT <| rt <| tR (.tmp rfl .nil) <| ?_
  exact ⟨by rw [hMc]; rfl, z_45⟩
theorem linkGrows_any (c0 : Array Value) (c1 : Array Value) (w : World) (h0 : (.cons (.int .i64) (.cons (.slice .str 16) (.cons (.int .i64) (.cons (.int .i64) (.cons (.slice (.int .i64) 8) (.cons (.slice (.int .i64) 8) (.cons (.slice .str 16) (.cons (.slice (.int .i64) 8) .nil))))))) : Sh).Ok w c0.toList) (h1 : (.cons (.int .i64) (.cons (.int .i64) (.cons .bool (.cons .str .nil))) : Sh).Ok w c1.toList) :
    Calls Try.prog 10 #[.agg c0, .agg c1] w fun e w' => e = .returned (.bool true) ∧ Below w.heap.size w w' := by
  obtain ⟨a, L, e, hL⟩ := Lnk.opens w _ (show Lnk.sh.Ok w c0.toList from h0)
  have hc : c0 = (Lnk.cells a L).toArray := by rw [← e]
  subst hc
  obtain ⟨x, e, hxo⟩ := Evt.opens w _ (show Evt.sh.Ok w c1.toList from h1)
  have hc : c1 = x.cells.toArray := by rw [← e]
  subst hc
  by_cases hk : L.chk = 0
  · by_cases hs : (L.step x).2 = 0
    · obtain ⟨g, g1, g2, g3, g4, g5, g6⟩ := step_grows hk hs
      exact linkGrows_ok a L _ x w hL hxo (doR_ok hk hs) g.chk g1 g2 g3 g4 g5 g6
    · exact linkGrows_bad a L _ x _ w hL hxo (doR_no hk hs) (by simpa using hs) rfl
  · exact linkGrows_bad a L _ x _ w hL hxo (doR_bad hk) (by simpa using hk) rfl
end Go.Proofs.Ytfabhinehfhndaa
