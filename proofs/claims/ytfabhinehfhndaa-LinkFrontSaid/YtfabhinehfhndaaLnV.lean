/-
  LinkFront. (Printed by bin/linkfront.py.)
-/
import Derived.Test.YtfabhinehfhndaaLnR
import Derived.Test.YtfabhinehfhndaaLnF
set_option linter.unusedVariables false
set_option linter.unusedSimpArgs false
namespace Go.Proofs.Ytfabhinehfhndaa
open Go.RowKit

theorem LnV_en_link_Play : Enters Try.prog 26 := en Try.func26 (by kernel_rfl) (by kernel_rfl)
theorem LnV_zv_api_Link : Zv Try.prog 55 (.agg #[.int .i64 0, .slice none 0 0, .int .i64 0, .int .i64 0, .slice none 0 0, .slice none 0 0, .slice none 0 0, .slice none 0 0]) := fun _ => by kernel_rfl
theorem LnV_sz_api_Link : Sz Try.prog 55 8 := fun _ => by kernel_rfl
theorem LnV_en_mustkeep_linkLives : Enters Try.prog 27 := en Try.func27 (by kernel_rfl) (by kernel_rfl)
theorem LnV_sz_api_Event : Sz Try.prog 60 4 := fun _ => by kernel_rfl
theorem LnV_ag_api_Event : Ag Try.prog 60 true := fun _ => by kernel_rfl
theorem LnV_zv_api_Event : Zv Try.prog 60 (.agg #[.int .i64 0, .int .i64 0, .bool false, .string .empty]) := fun _ => by kernel_rfl
theorem LnV_fd_api_Event_0 : Fd Try.prog 60 0 0 := fun _ _ _ => by kernel_rfl
theorem LnV_ag_int : Ag Try.prog 3 false := fun _ => by kernel_rfl
theorem LnV_fd_api_Event_3 : Fd Try.prog 60 3 3 := fun _ _ _ => by kernel_rfl
theorem LnV_ag_string : Ag Try.prog 9 false := fun _ => by kernel_rfl
theorem LnV_el_S_string : ElT Try.prog repS 53 9 16 := ElT.mk_ (z := .string .empty) (k := 1) Try.underlying53 info_str rfl rfl (by decide) (fun j u h => raw0S j u h)
theorem LnV_fd_api_Link_6 : Fd Try.prog 55 6 6 := fun _ _ _ => by kernel_rfl
theorem LnV_ag_S_string : Ag Try.prog 53 false := fun _ => by kernel_rfl
theorem LnV_fd_api_Link_1 : Fd Try.prog 55 1 1 := fun _ _ _ => by kernel_rfl
theorem LnV_en_slices_Equal_S_string_string_ : Enters Try.prog 28 := en Try.func28 (by kernel_rfl) (by kernel_rfl)
theorem LnV_sz_string : Sz Try.prog 9 1 := fun _ => by kernel_rfl
theorem LnV_fd_api_Link_2 : Fd Try.prog 55 2 2 := fun _ _ _ => by kernel_rfl
theorem LnV_fd_api_Link_3 : Fd Try.prog 55 3 3 := fun _ _ _ => by kernel_rfl
theorem LnV_ag_api_Link : Ag Try.prog 55 true := fun _ => by kernel_rfl
theorem LnV_en_mustref_LinkRight : Enters Try.prog 29 := en Try.func29 (by kernel_rfl) (by kernel_rfl)
theorem lplay_all (window : Int) (A : Option Addr) (c : Nat) (l : List Evt) (w : World) (hl : Evt.rep.SHas 40 w A c l) : Calls Try.prog 26 #[.int .i64 window, .slice A l.length c] w (fun e w' => ∃ a' A' c', e = .returned (.tuple #[.agg (Lnk.cells a' (playR window l).1).toArray, .slice A' (playR window l).2.1.length c', .int .i64 (playR window l).2.2]) ∧ LTop w' w.heap.size a' (playR window l).1 ∧ repI.SOwn 35 8 w' w.heap.size (Rep.blkOf A') A' c' (playR window l).2.1 ∧ Ext w w') := by
  by_cases h : window < 1 ∨ 16 < window
  · exact lplay_bad window A c l w hl h
  · exact lplay_any window A c l w hl h
theorem gv_len_ (l : List Evt) : ∀ g : List ByteArray, g.length ≤ 200 → (l.foldl giveE g).length ≤ 200 := by
  induction l with
  | nil => intro g h; exact h
  | cons x r ih =>
    intro g h
    refine ih _ ?_
    unfold giveE
    split
    · rw [List.length_append, List.length_singleton]; omega
    · exact h
theorem gv_len (l : List Evt) : (l.foldl giveE []).length ≤ 200 := gv_len_ l [] (by simp)
theorem gv_yes {l : List Evt} {k : Nat} (h : k < l.length) (hc : (l.getD k default).kind = 1 ∧ (((l.take k).foldl giveE []).length : Int) < 200) : (l.take (k + 1)).foldl giveE [] = (l.take k).foldl giveE [] ++ [(l.getD k default).text] := by
  rw [take_succ_dd (d := default) h, List.foldl_append]
  show giveE _ _ = _
  have h2 : ((l.take k).foldl giveE []).length < 200 := by have := hc.2; omega
  unfold giveE; exact if_pos ⟨hc.1, h2⟩
theorem gv_no {l : List Evt} {k : Nat} (h : k < l.length) (hc : (l.getD k default).kind = 1 → 200 ≤ (((l.take k).foldl giveE []).length : Int)) : (l.take (k + 1)).foldl giveE [] = (l.take k).foldl giveE [] := by
  rw [take_succ_dd (d := default) h, List.foldl_append]
  show giveE _ _ = _
  have h2 : ¬ ((l.getD k default).kind = 1 ∧ ((l.take k).foldl giveE []).length < 200) := by rintro ⟨a, b⟩; have := hc a; omega
  unfold giveE; exact if_neg h2
set_option maxRecDepth 100000 in
set_option maxHeartbeats 400000 in
theorem linkFront_bad (window : Int) (A : Option Addr) (c : Nat) (l : List Evt) (M : Lnk) (T : List Int) (e : Int) (w : World) (hl : Evt.rep.SHas 40 w A c l) (hM : playR window l = (M, T, e)) (hne : (e != 0) = true) :
    Calls Try.prog 8 #[.int .i64 window, .slice A l.length c] w (fun e w' => e = .returned (.bool true) ∧ Ext w w') := by
  have hll := hl.len_le
  refine calls_W (n := 87) Try.func8 rfl rfl rfl ?_
  refine sq <| rg <| vl (as_ rfl) rfl <| nl <| nT <| sq <| rg <| vl (mv rfl) rfl <| vl (mv rfl) rfl <| ?_
  have hP := lplay_all window _ _ l _ (hl.keep (Ext.rf w))
  rw [hM] at hP
  dsimp only at hP
  refine ca LnV_en_link_Play rfl rfl ((hP).mono ?_)
  rintro e w_5 ⟨aA, AE, cE, rfl, HTA, HE, x_6⟩
  refine ⟨_, rfl, ?_⟩
  have q_7 := x_6.size
  have z_5 := Ext.tr (Ext.rf w) x_6
  have bdHTA := fun q hq => HTA.lt (q := q) hq
  have MAS := HTA.S
  have u_1 := fun q hq => (MAS.lt q hq).2
  have lo_2 := fun q hq => (MAS.lt q hq).1
  have cMAS := MAS.has.1
  have eMAS := MAS.has.len_le
  have MAG := HTA.G
  have u_3 := fun q hq => (MAG.lt q hq).2
  have lo_4 := fun q hq => (MAG.lt q hq).1
  have cMAG := MAG.has.1
  have eMAG := MAG.has.len_le
  refine vl (mv rfl) rfl <| vl (ex rfl rfl) rfl <| vl (ex rfl rfl) rfl <| vl (ex rfl rfl) rfl <| al rfl LnV_zv_api_Link rfl rfl fun w_8 b_9 x_10 l_11 B_12 => ?_
  have q_13 := x_10.size
  have z_8 := Ext.tr z_5 x_10
  have q_14 := B_12.lt
  refine st (new := [.int .i64 M.window, .slice aA.S M.sent.length aA.s, .int .i64 M.base, .int .i64 M.next, .slice aA.W M.way.length aA.w, .slice aA.K M.acks.length aA.k, .slice aA.G M.got.length aA.g, .slice aA.H M.held.length aA.h]) rfl rfl B_12 rfl LnV_sz_api_Link rfl rfl rfl fun w_15 m_16 B_12 => ?_
  have q_18 := m_16.size
  have z_15 := Ext.mod z_8 m_16 (by simp only [List.mem_singleton, forall_eq]; omega)
  have q_17 := m_16.size
  refine vl (as_ rfl) rfl <| vl (as_ rfl) rfl <| nl <| nT <| sq <| sq <| rg <| ca LnV_en_mustkeep_linkLives rfl rfl ((linkLives_any _).mono ?_)
  rintro e w_19 ⟨rfl, x_20⟩
  refine ⟨_, rfl, ?_⟩
  have q_21 := x_20.size
  have z_19 := Ext.tr z_15 x_20
  refine vl (nt rfl) rfl <| vl (mv rfl) rfl <| ug rfl rfl rfl <| vl (mv rfl) rfl <| ug rfl rfl rfl <| vl (bne rfl rfl) rfl <| vl (pkF rfl (evb rfl hne)) rfl <| nl <| nT <| cT rfl <| sq <| rg <| ca LnV_en_mustkeep_linkLives rfl rfl ((linkLives_any _).mono ?_)
  rintro e w_22 ⟨rfl, x_23⟩
  refine ⟨_, rfl, ?_⟩
  have q_24 := x_23.size
  have z_22 := Ext.tr z_19 x_23
  refine vl (as_ rfl) rfl <| nl <| nT <| rt <| tT <| tR (.tmp rfl .nil) <| ?_
  exact ⟨rfl, z_22⟩
set_option maxRecDepth 100000 in
set_option maxHeartbeats 400000 in
theorem linkFront_ok (window : Int) (A : Option Addr) (c : Nat) (l : List Evt) (M : Lnk) (T : List Int) (w : World) (hl : Evt.rep.SHas 40 w A c l) (hM : playR window l = (M, T, 0)) (hMc : M.chk = 0) (h1 : M.sent = (l.foldl giveE [])) (h2 : M.got.length ≤ M.sent.length) (h3 : M.got = M.sent.take M.got.length) (h4 : M.base ≤ (M.got.length : Int)) (h5 : M.next - M.base ≤ window) (h6 : 0 ≤ M.base ∧ M.base ≤ 200 ∧ 0 ≤ M.next ∧ M.next ≤ 200) :
    Calls Try.prog 8 #[.int .i64 window, .slice A l.length c] w (fun e w' => e = .returned (.bool true) ∧ Ext w w') := by
  have hll := hl.len_le
  have k1 := decide_eq_true h1
  have k2 : decide ((M.got.length : Int) ≤ ((l.foldl giveE []).length : Int)) = true := decide_eq_true (by rw [← h1]; omega)
  have k3 : decide (M.got = (l.foldl giveE []).take M.got.length) = true := decide_eq_true (by rw [← h1]; exact h3)
  have hsl : M.sent.length = (l.foldl giveE []).length := by rw [h1]
  have k4 := decide_eq_true h4
  have k5 := decide_eq_true h5
  refine calls_W (n := 87) Try.func8 rfl rfl rfl ?_
  refine sq <| rg <| vl (as_ rfl) rfl <| nl <| nT <| sq <| rg <| vl (mv rfl) rfl <| vl (mv rfl) rfl <| ?_
  have hP := lplay_all window _ _ l _ (hl.keep (Ext.rf w))
  rw [hM] at hP
  dsimp only at hP
  refine ca LnV_en_link_Play rfl rfl ((hP).mono ?_)
  rintro e w_5 ⟨aA, AE, cE, rfl, HTA, HE, x_6⟩
  refine ⟨_, rfl, ?_⟩
  have q_7 := x_6.size
  have z_5 := Ext.tr (Ext.rf w) x_6
  have bdHTA := fun q hq => HTA.lt (q := q) hq
  have MAS := HTA.S
  have u_1 := fun q hq => (MAS.lt q hq).2
  have lo_2 := fun q hq => (MAS.lt q hq).1
  have cMAS := MAS.has.1
  have eMAS := MAS.has.len_le
  have MAG := HTA.G
  have u_3 := fun q hq => (MAG.lt q hq).2
  have lo_4 := fun q hq => (MAG.lt q hq).1
  have cMAG := MAG.has.1
  have eMAG := MAG.has.len_le
  refine vl (mv rfl) rfl <| vl (ex rfl rfl) rfl <| vl (ex rfl rfl) rfl <| vl (ex rfl rfl) rfl <| al rfl LnV_zv_api_Link rfl rfl fun w_8 b_9 x_10 l_11 B_12 => ?_
  have q_13 := x_10.size
  have z_8 := Ext.tr z_5 x_10
  have q_14 := B_12.lt
  refine st (new := [.int .i64 M.window, .slice aA.S M.sent.length aA.s, .int .i64 M.base, .int .i64 M.next, .slice aA.W M.way.length aA.w, .slice aA.K M.acks.length aA.k, .slice aA.G M.got.length aA.g, .slice aA.H M.held.length aA.h]) rfl rfl B_12 rfl LnV_sz_api_Link rfl rfl rfl fun w_15 m_16 B_12 => ?_
  have q_18 := m_16.size
  have z_15 := Ext.mod z_8 m_16 (by simp only [List.mem_singleton, forall_eq]; omega)
  have q_17 := m_16.size
  refine vl (as_ rfl) rfl <| vl (as_ rfl) rfl <| nl <| nT <| sq <| sq <| rg <| ca LnV_en_mustkeep_linkLives rfl rfl ((linkLives_any _).mono ?_)
  rintro e w_19 ⟨rfl, x_20⟩
  refine ⟨_, rfl, ?_⟩
  have q_21 := x_20.size
  have z_19 := Ext.tr z_15 x_20
  refine vl (nt rfl) rfl <| vl (mv rfl) rfl <| ug rfl rfl rfl <| vl (mv rfl) rfl <| ug rfl rfl rfl <| vl (bne rfl rfl) rfl <| vl (pkF rfl rfl) rfl <| nl <| nT <| cF rfl <| sk <| nT <| sq <| rg <| vl (as_ rfl) rfl <| nl <| nT <| sq <| sq <| rg <| vl (mv rfl) rfl <| vl (ln Try.underlying52 rfl) rfl <| vl (mv rfl) rfl <| nl <| ?_
  refine nT <| bk <| ?_
  have HTA := HTA.later x_10
  have HTA := HTA.mod m_16 (fun q hq h => by have e_ := List.mem_singleton.1 h; have := bdHTA q hq; omega)
  have HTA := HTA.later x_20
  have MAS := MAS.later x_10
  have MAS := MAS.mod m_16 (fun q hq h => by have hb := List.mem_singleton.1 h; exfalso; (have := u_1 q hq; omega))
  have MAS := MAS.later x_20
  have MAG := MAG.later x_10
  have MAG := MAG.mod m_16 (fun q hq h => by have hb := List.mem_singleton.1 h; exfalso; (have := u_3 q hq; omega))
  have MAG := MAG.later x_20
  have B_12 := B_12.later x_20
  refine lp (fun mI EI wI => ∃ k : Nat, ∃ A1 : Option Addr, ∃ c1 : Nat, EI = [(0, .int .i64 window), (4, .bool false), (5, .pointer (some ⟨b_9, 0, none⟩)), (8, .slice A1 (((l.take k).foldl giveE []).length) c1), (26, .slice A l.length c), (27, .int .i64 (l.length : Int)), (28, .int .i64 (k : Int))] ∧ mI = l.length - k ∧ Ext w wI ∧ LTop wI w.heap.size aA M ∧ repS.SOwn 9 16 wI w.heap.size (Rep.blkOf aA.S) aA.S aA.s (M.sent) ∧ repS.SOwn 9 16 wI w.heap.size (Rep.blkOf aA.G) aA.G aA.g (M.got) ∧ Blk wI b_9 [.int .i64 M.window, .slice aA.S M.sent.length aA.s, .int .i64 M.base, .int .i64 M.next, .slice aA.W M.way.length aA.w, .slice aA.K M.acks.length aA.k, .slice aA.G M.got.length aA.g, .slice aA.H M.held.length aA.h] 55 (0, 0) ∧ repS.SOwn 9 16 wI w_19.heap.size (Rep.blkOf A1) A1 c1 (((l.take k).foldl giveE [])) ∧ (k ≤ l.length) ∧ (w_19.heap.size ≤ wI.heap.size) ∧ (∀ q ∈ Rep.blkOf A1, q = b_9 → False) ∧ (∀ q ∈ Rep.blkOf A1, q ∈ Rep.blkOf aA.S → False) ∧ (∀ q ∈ Rep.blkOf A1, q ∈ Rep.blkOf aA.G → False)) _ _ ⟨0, none, 0, rfl, rfl, z_19, HTA, MAS, MAG, B_12, (Rep.SOwn.nil _), by omega, Nat.le_refl _, (fun q hq hb => by (simp [Rep.blkOf] at hq)), (fun q hq hb => by (simp [Rep.blkOf] at hq)), (fun q hq hb => by (simp [Rep.blkOf] at hq))⟩ (.cons rfl (.cons rfl (.cons rfl (.cons rfl (.cons rfl (.cons rfl (.cons (loI rfl (by first | omega | rfl | (simp <;> omega))) .nil))))))) ?_
  rintro m_26 E_27 w_25 ⟨k, A1, c1, rfl, rfl, z_25, HTA, MAS, MAG, B_12, OV1, hk, hwP, d_22, d_23, d_24⟩
  have q_28 := z_25.size
  have u_29 := fun q hq => (MAS.lt q hq).2
  have u_30 := fun q hq => (MAG.lt q hq).2
  have q_31 := B_12.lt
  have u_32 := fun q hq => (OV1.lt q hq).2
  have cV := OV1.has.1
  have gA1 : ∀ q ∈ Rep.blkOf A1, w_19.heap.size ≤ q := fun q hq => (OV1.lt q hq).1
  have gA2 : ∀ q ∈ Rep.blkOf A1, w.heap.size ≤ q := fun q hq => by have := gA1 q hq; omega
  refine sq <| rg <| vl (blt rfl rfl) rfl <| nl <| nT <| sq <| ?_
  refine clt rfl (fun h_33 => ?_) (fun h_33 => ?_)
  · refine sk <| nT <| sq <| bk <| sq <| rg <| vl (iA k Try.underlying52 LnV_sz_api_Event rfl rfl ((hl.keep z_25).adr (Nat.zero_lt_of_lt (show k < _ from (by omega)))) rfl (by omega)) rfl <| vl (ld rfl (Rep.SHas.elt hcV ((hl.keep z_25).adh (Nat.zero_lt_of_lt (show k < _ from (by omega)))) (get_d (l := l) (u := default) (by omega)) LnV_ag_api_Event LnV_sz_api_Event)) rfl <| al rfl LnV_zv_api_Event rfl rfl fun w_34 b_35 x_36 l_37 B_38 => ?_
    have q_39 := x_36.size
    have z_34 := Ext.tr z_25 x_36
    have q_40 := B_38.lt
    refine st (new := [.int .i64 ((l.getD k default).kind), .int .i64 ((l.getD k default).at_), .bool ((l.getD k default).keep), .string ((l.getD k default).text)]) rfl rfl B_38 rfl LnV_sz_api_Event rfl rfl rfl fun w_41 m_42 B_38 => ?_
    have q_44 := m_42.size
    have z_41 := Ext.mod z_34 m_42 (by simp only [List.mem_singleton, forall_eq]; omega)
    have q_43 := m_42.size
    refine nl <| nT <| sq <| rg <| vl (fa LnV_fd_api_Event_0 rfl) rfl <| vl (ld rfl (B_38.one LnV_ag_int rfl)) rfl <| vl (beq rfl rfl) rfl <| vl (mv rfl) rfl <| vQ rfl rfl rfl rfl (fun hc => mv rfl) rfl <| vQ rfl rfl rfl rfl (fun hc => ln Try.underlying53 (gt hc rfl)) rfl <| vQ rfl rfl rfl rfl (fun hc => blt (gt hc rfl) rfl) rfl <| vl (pA rfl rfl rfl rfl) rfl <| nl <| nT <| ?_
    refine cb rfl (fun h_45 => ?_) (fun h_45 => ?_)
    · have hgv := gv_yes (l := l) (k := k) (by omega) (by simpa using h_45)
      refine rg <| vl (mv rfl) rfl <| vl (fa LnV_fd_api_Event_3 rfl) rfl <| vl (ld rfl (B_38.one LnV_ag_string rfl)) rfl <| bs (e := 9) (cs := [.string ((l.getD k default).text)]) rfl (fun _ => by kernel_rfl) rfl fun w_46 b_47 x_48 l_49 B_50 => ?_
      have q_51 := x_48.size
      have z_46 := Ext.tr z_41 x_48
      have q_52 := B_50.lt
      have OV1 := OV1.later x_36
      have OV1 := OV1.mod m_42 (fun q hq h => by have hb := List.mem_singleton.1 h; exfalso; (have := u_32 q hq; omega))
      have OV1 := OV1.later x_48
      refine ap LnV_el_S_string Rep.flat_bare OV1 (Blk.has1 (R := repS) (by_ := 16) (q := (l.getD k default).text) B_50 ⟨rfl, (getOk hl (by omega)).2.2⟩ (by decide)) rfl rfl (by have := gv_len (l.take k); simp only [List.length_cons, List.length_nil]; omega) (by have := gv_len (l.take k); simp only [List.length_cons, List.length_nil]; omega) (by omega) rfl fun w_53 A_54 c_55 m_56 O_57 g_58 n_59 => ?_
      have q_60 := m_56.size
      have z_53 := Ext.mod z_46 m_56 (fun q hq => Nat.le_trans (by omega) (OV1.lt q hq).1)
      have u_61 := fun q hq => (O_57.lt q hq).2
      have q_62 := m_56.size
      refine vl (as_ rfl) rfl <| nl <| nB <| nT <| rg <| vl (bad rfl rfl (inI (by omega))) rfl <| vl (mv rfl) rfl <| nl <| ?_
      have HTA := HTA.later x_36
      have HTA := HTA.mod m_42 (fun q hq h => by have e_ := List.mem_singleton.1 h; have := bdHTA q hq; omega)
      have HTA := HTA.later x_48
      have HTA := HTA.mod m_56 (fun q hq h => by have := bdHTA q hq; have := gA1 q h; exfalso; omega)
      have MAS := MAS.later x_36
      have MAS := MAS.mod m_42 (fun q hq h => by have hb := List.mem_singleton.1 h; exfalso; (have := u_29 q hq; have := u_1 q hq; omega))
      have MAS := MAS.later x_48
      have MAS := MAS.mod m_56 (fun q hq h => by exfalso; (exact d_23 q h hq))
      have MAG := MAG.later x_36
      have MAG := MAG.mod m_42 (fun q hq h => by have hb := List.mem_singleton.1 h; exfalso; (have := u_30 q hq; have := u_3 q hq; omega))
      have MAG := MAG.later x_48
      have MAG := MAG.mod m_56 (fun q hq h => by exfalso; (exact d_24 q h hq))
      have B_12 := B_12.later x_36
      have B_12 := B_12.mod m_42 (by simp only [List.mem_singleton]; omega)
      have B_12 := B_12.later x_48
      have B_12 := B_12.mod m_56 (fun hq => d_22 _ hq rfl)
      exact nI _ _ ⟨k + 1, A_54, c_55, rfl, rfl, z_53, HTA, MAS, MAG, B_12, (by rw [hgv]; exact O_57), by omega, by omega, (fun q hq hb => by (exact Or.elim (g_58 q hq) (fun k_63 => by (exact d_22 q k_63 hb)) (fun k_63 => by omega))), (fun q hq hb => by (exact Or.elim (g_58 q hq) (fun k_64 => by (exact d_23 q k_64 hb)) (fun k_64 => by (have := u_29 q hb; have := u_1 q hb; omega)))), (fun q hq hb => by (exact Or.elim (g_58 q hq) (fun k_65 => by (exact d_24 q k_65 hb)) (fun k_65 => by (have := u_30 q hb; have := u_3 q hb; omega))))⟩ (by omega) (.cons rfl (.cons rfl (.cons rfl (.cons (by rw [hgv]; rfl) (.cons rfl (.cons rfl (.cons (loI rfl (by first | omega | rfl | (simp <;> omega))) .nil)))))))
    · have hgv := gv_no (l := l) (k := k) (by omega) (by simpa using h_45)
      refine sk <| nB <| nT <| rg <| vl (bad rfl rfl (inI (by omega))) rfl <| vl (mv rfl) rfl <| nl <| ?_
      have HTA := HTA.later x_36
      have HTA := HTA.mod m_42 (fun q hq h => by have e_ := List.mem_singleton.1 h; have := bdHTA q hq; omega)
      have MAS := MAS.later x_36
      have MAS := MAS.mod m_42 (fun q hq h => by have hb := List.mem_singleton.1 h; exfalso; (have := u_29 q hq; have := u_1 q hq; omega))
      have MAG := MAG.later x_36
      have MAG := MAG.mod m_42 (fun q hq h => by have hb := List.mem_singleton.1 h; exfalso; (have := u_30 q hq; have := u_3 q hq; omega))
      have B_12 := B_12.later x_36
      have B_12 := B_12.mod m_42 (by simp only [List.mem_singleton]; omega)
      have OV1 := OV1.later x_36
      have OV1 := OV1.mod m_42 (fun q hq h => by have hb := List.mem_singleton.1 h; exfalso; (have := u_32 q hq; omega))
      exact nI _ _ ⟨k + 1, A1, c1, rfl, rfl, z_41, HTA, MAS, MAG, B_12, (by rw [hgv]; exact OV1), by omega, by omega, (fun q hq hb => by (exact d_22 q hq hb)), (fun q hq hb => by (exact d_23 q hq hb)), (fun q hq hb => by (exact d_24 q hq hb))⟩ (by omega) (.cons rfl (.cons rfl (.cons rfl (.cons (by rw [hgv]; rfl) (.cons rfl (.cons rfl (.cons (loI rfl (by first | omega | rfl | (simp <;> omega))) .nil)))))))
  · refine xt <| xT <| xK <| xB <| nT <| sq <| ?_
    obtain rfl : k = l.length := by omega
    · simp only [List.take_length] at *
      refine rg <| vl (fa LnV_fd_api_Link_6 rfl) rfl <| vl (ld rfl (B_12.one LnV_ag_S_string rfl)) rfl <| vl (ln Try.underlying53 rfl) rfl <| vl (as_ rfl) rfl <| nl <| nT <| sq <| ?_
      refine rd [(1, 0), (3, 0), (12, 0), (16, 0), (20, 0), (26, 0), (28, 0), (34, 0), (35, 0)] [0, 1, 2, 3, 4, 5, 6, 7, 8, 9, 10, 11, 12, 13, 14, 15, 16, 17, 18, 19, 20, 21, 22, 23, 24, 25, 26, 27, 28, 29, 30, 31, 32, 33, 34, 35, 36, 37, 38] (by kernel_rfl) (by kernel_rfl) ?_
      refine fw rfl rfl (fun _ => fa LnV_fd_api_Link_1 rfl) rfl <| fq rfl rfl (fun _ x => ld rfl ((B_12.later x).one LnV_ag_S_string rfl)) rfl <| fw rfl rfl (fun _ => mv rfl) rfl <| fc rfl rfl LnV_en_slices_Equal_S_string_string_ rfl (fun _ x => equal_S _ _ _ _ _ _ M.sent (l.foldl giveE []) _ (MAS.later x).has (OV1.later x).has) rfl <| fw rfl rfl (fun _ => mv (evb rfl k1)) rfl <| fW rfl rfl rfl rfl rfl rfl (fun hc _ => mv rfl) rfl <| fW rfl rfl rfl rfl rfl rfl (fun hc _ => mv rfl) rfl <| fW rfl rfl rfl rfl rfl rfl (fun hc _ => ln Try.underlying53 rfl) rfl <| fW rfl rfl rfl rfl rfl rfl (fun hc _ => ble rfl rfl) rfl <| fw rfl rfl (fun _ => pkT rfl (evb rfl k2)) rfl <| fw rfl rfl (fun _ => mv rfl) rfl <| fW rfl rfl rfl rfl rfl rfl (fun hc _ => fa LnV_fd_api_Link_6 rfl) rfl <| fQ rfl rfl rfl rfl rfl rfl (fun hc _ x => ld rfl ((B_12.later x).one LnV_ag_S_string rfl)) rfl <| fW rfl rfl rfl rfl rfl rfl (fun hc _ => mv rfl) rfl <| fW rfl rfl rfl rfl rfl rfl (fun hc _ => mv rfl) rfl <| fW rfl rfl rfl rfl rfl rfl (fun hc _ => sP M.got.length ((l.foldl giveE []).take M.got.length).length Try.underlying53 LnV_sz_string rfl rfl rfl (by omega) (by rw [List.length_take]; omega)) rfl <| fC rfl rfl rfl rfl rfl rfl LnV_en_slices_Equal_S_string_string_ (fun hc => rfl) (fun hc _ x => equal_S _ _ _ _ _ _ M.got ((l.foldl giveE []).take M.got.length) _ (MAG.later x).has ((OV1.later x).has.pre M.got.length)) rfl <| fw rfl rfl (fun _ => pkT rfl (evb rfl k3)) rfl <| fw rfl rfl (fun _ => mv rfl) rfl <| fW rfl rfl rfl rfl rfl rfl (fun hc _ => fa LnV_fd_api_Link_2 rfl) rfl <| fQ rfl rfl rfl rfl rfl rfl (fun hc _ x => ld rfl ((B_12.later x).one LnV_ag_int rfl)) rfl <| fW rfl rfl rfl rfl rfl rfl (fun hc _ => mv rfl) rfl <| fW rfl rfl rfl rfl rfl rfl (fun hc _ => ble rfl rfl) rfl <| fw rfl rfl (fun _ => pkT rfl (evb rfl k4)) rfl <| ?_
      refine fw rfl rfl (fun _ => mv rfl) rfl <| fW rfl rfl rfl rfl rfl rfl (fun hc _ => fa LnV_fd_api_Link_3 rfl) rfl <| fQ rfl rfl rfl rfl rfl rfl (fun hc _ x => ld rfl ((B_12.later x).one LnV_ag_int rfl)) rfl <| fW rfl rfl rfl rfl rfl rfl (fun hc _ => fa LnV_fd_api_Link_2 rfl) rfl <| fQ rfl rfl rfl rfl rfl rfl (fun hc _ x => ld rfl ((B_12.later x).one LnV_ag_int rfl)) rfl <| fW rfl rfl rfl rfl rfl rfl (fun hc _ => bsu rfl rfl (inI (by (try simp only [Bool.or_eq_true, Bool.or_eq_false_iff, Bool.and_eq_true, Bool.and_eq_false_iff, decide_eq_true_eq, decide_eq_false_iff_not, beq_iff_eq, bne_iff_ne, beq_eq_false_iff_ne, bne_eq_false_iff_eq, Bool.not_eq_true', Bool.not_eq_false', Bool.not_eq_true, Bool.not_eq_false, Int.not_lt, Int.not_le, Nat.not_lt, Nat.not_le, ne_eq, Classical.not_not] at hc); omega))) rfl <| fW rfl rfl rfl rfl rfl rfl (fun hc _ => mv rfl) rfl <| fW rfl rfl rfl rfl rfl rfl (fun hc _ => ble rfl rfl) rfl <| fw rfl rfl (fun _ => pkT rfl (evb rfl k5)) rfl <| fw rfl rfl (fun _ => mv rfl) rfl <| fQ rfl rfl rfl rfl rfl rfl (fun hc _ x => ld rfl ((B_12.later x).all LnV_ag_api_Link LnV_sz_api_Link)) rfl <| fC rfl rfl rfl rfl rfl rfl LnV_en_mustref_LinkRight (fun hc => rfl) (fun hc _ x => linkRight_any _ M _ (HTA.later x).has) rfl <| fW rfl rfl rfl rfl rfl rfl (fun hc _ => beq rfl rfl) rfl <| fw rfl rfl (fun _ => pkT rfl rfl) rfl <| fw rfl rfl (fun _ => as_ rfl) rfl <| fn fun w_66 x_67 => ?_
      have q_68 := x_67.size
      have z_66 := Ext.tr z_25 x_67
      refine nT <| rt <| tR (.tmp rfl .nil) <| ?_
      exact ⟨by rw [hMc]; rfl, z_66⟩
theorem linkFront_any (a0 : Int) (a1 : Option Addr) (len1 cap1 : Nat) (w : World) (w0 : (Lit.int .i64 a0).wf = true) (h1 : (.slice (.cons (.int .i64) (.cons (.int .i64) (.cons .bool (.cons .str .nil)))) 40 : Sh).Ok w [.slice a1 len1 cap1]) :
    Calls Try.prog 8 #[.int .i64 a0, .slice a1 len1 cap1] w fun e w' => e = .returned (.bool true) ∧ Below w.heap.size w w' := by
  obtain ⟨A, c, l, e, hl⟩ := Rep.opens_slice (R := Evt.rep) (by_ := 40) Evt.opens rfl (by decide) h1
  simp only [List.cons.injEq, Value.slice.injEq, and_true] at e
  obtain ⟨rfl, rfl, rfl⟩ := e
  by_cases hw : a0 < 1 ∨ 16 < a0
  · exact linkFront_bad a0 _ _ l _ _ _ w hl (playR_bad hw) (by decide)
  · by_cases hm : 500 < l.length
    · exact linkFront_bad a0 _ _ l _ _ _ w hl (playR_many hw hm) (by decide)
    · obtain ⟨g, g1, g2⟩ := play_GL l (Lnk.new a0) [] (GL.new hw)
      have hb := g.nb; have hg := g.bg; have hs := g.s; have hgs := g.gs; have hns := g.ns; have hb0 := g.b0; have hhn := g.hn
      rw [g1] at hb
      have hwn : (Lnk.new a0).window = a0 := rfl
      exact linkFront_ok a0 _ _ l _ _ w hl (playR_ok hw hm) g.chk g2 g.gs g.ge g.bg (by omega) (by omega)
end Go.Proofs.Ytfabhinehfhndaa
