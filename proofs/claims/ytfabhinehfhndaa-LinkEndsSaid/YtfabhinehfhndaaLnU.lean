/-
  LinkEnds. (Printed by bin/linkends.py.)
-/
import Derived.Test.YtfabhinehfhndaaLnY
import Derived.Test.YtfabhinehfhndaaLnZ
set_option linter.unusedVariables false
set_option linter.unusedSimpArgs false
namespace Go.Proofs.Ytfabhinehfhndaa
open Go.RowKit

theorem LnU_en_mustkeep_linkLives : Enters Try.prog 27 := en Try.func27 (by kernel_rfl) (by kernel_rfl)
theorem LnU_ag_api_Link : Ag Try.prog 55 true := fun _ => by kernel_rfl
theorem LnU_sz_api_Link : Sz Try.prog 55 8 := fun _ => by kernel_rfl
theorem LnU_en_link_Check : Enters Try.prog 30 := en Try.func30 (by kernel_rfl) (by kernel_rfl)
theorem LnU_fd_api_Link_4 : Fd Try.prog 55 4 4 := fun _ _ _ => by kernel_rfl
theorem LnU_sz_S_int : Sz Try.prog 38 1 := fun _ => by kernel_rfl
theorem LnU_fd_api_Link_5 : Fd Try.prog 55 5 5 := fun _ _ _ => by kernel_rfl
theorem LnU_fd_api_Link_2 : Fd Try.prog 55 2 2 := fun _ _ _ => by kernel_rfl
theorem LnU_ag_int : Ag Try.prog 3 false := fun _ => by kernel_rfl
theorem LnU_fd_api_Link_1 : Fd Try.prog 55 1 1 := fun _ _ _ => by kernel_rfl
theorem LnU_ag_S_string : Ag Try.prog 53 false := fun _ => by kernel_rfl
theorem LnU_en_link_Do : Enters Try.prog 31 := en Try.func31 (by kernel_rfl) (by kernel_rfl)
theorem LnU_zv_api_Link : Zv Try.prog 55 (.agg #[.int .i64 0, .slice none 0 0, .int .i64 0, .int .i64 0, .slice none 0 0, .slice none 0 0, .slice none 0 0, .slice none 0 0]) := fun _ => by kernel_rfl
theorem LnU_ag_S_int : Ag Try.prog 38 false := fun _ => by kernel_rfl
theorem LnU_fd_api_Link_6 : Fd Try.prog 55 6 6 := fun _ _ _ => by kernel_rfl
theorem LnU_en_slices_Equal_S_string_string_ : Enters Try.prog 28 := en Try.func28 (by kernel_rfl) (by kernel_rfl)
theorem LnU_fd_api_Link_7 : Fd Try.prog 55 7 7 := fun _ _ _ => by kernel_rfl
theorem b3_ (a b : Bool) : a = true ∨ (a = false ∧ b = true) ∨ (a = false ∧ b = false) := by cases a <;> cases b <;> simp
theorem GL.none {L : Lnk} (h : GL L) : GL { L with way := [], acks := [] } := ⟨h.w1, h.w2, h.s, by simp, by simp, h.gs, h.ge, h.b0, h.bg, h.hn, h.nb, h.ns, by simp, by simp, h.ha, h.inc⟩
theorem okk2 : (⟨2, 0, false, .empty⟩ : Evt).ok := ⟨by decide, by decide, by decide⟩
theorem okk3 : (⟨3, 0, false, .empty⟩ : Evt).ok := ⟨by decide, by decide, by decide⟩
theorem okk4 : (⟨4, 0, false, .empty⟩ : Evt).ok := ⟨by decide, by decide, by decide⟩
theorem LOr.topz {w0 w : World} {bs : List Nat} {Z B : Nat} {a : Lnk.At} {L : Lnk} (h : LTop w B a L) (hB : w0.heap.size ≤ B) (hb : ∀ q ∈ bs, q < B) (hz : w.heap.size ≤ Z) : LOr w0 w bs Z a L := (LOr.top h hB hb).up hz
set_option maxRecDepth 100000 in
set_option maxHeartbeats 400000 in
theorem linkEnds_bad (a : Lnk.At) (L : Lnk) (w : World) (hL : Lnk.Has w a L) (hne : (L.chk != 0) = true) :
    Calls Try.prog 9 #[.agg #[.int .i64 L.window, .slice a.S L.sent.length a.s, .int .i64 L.base, .int .i64 L.next, .slice a.W L.way.length a.w, .slice a.K L.acks.length a.k, .slice a.G L.got.length a.g, .slice a.H L.held.length a.h]] w (fun e w' => e = .returned (.bool true) ∧ Ext w w') := by
  refine calls_W (n := 85) Try.func9 rfl rfl rfl ?_
  refine sq <| rg <| bx rfl rfl rfl rfl fun w_1 b_2 x_3 l_4 B_5 => ?_
  have q_6 := x_3.size
  have z_1 := Ext.tr (Ext.rf w) x_3
  have q_7 := B_5.lt
  refine vl (as_ rfl) rfl <| nl <| nT <| sq <| sq <| rg <| ca LnU_en_mustkeep_linkLives rfl rfl ((linkLives_any _).mono ?_)
  rintro e w_8 ⟨rfl, x_9⟩
  refine ⟨_, rfl, ?_⟩
  have q_10 := x_9.size
  have z_8 := Ext.tr z_1 x_9
  refine vl (nt rfl) rfl <| vl (mv rfl) rfl <| ug rfl rfl rfl <| ?_
  have B_5 := B_5.later x_9
  refine vl (ld rfl (B_5.all LnU_ag_api_Link LnU_sz_api_Link)) rfl <| ug rfl rfl rfl <| ca LnU_en_link_Check rfl rfl ((lcheck_any a L _ (hL.keep z_8)).mono ?_)
  rintro e w_11 ⟨rfl, x_12⟩
  refine ⟨_, rfl, ?_⟩
  have q_13 := x_12.size
  have z_11 := Ext.tr z_8 x_12
  refine ug rfl rfl rfl <| vl (bne rfl rfl) rfl <| vl (pkF rfl (evb rfl hne)) rfl <| nl <| nT <| cT rfl <| sq <| rg <| ca LnU_en_mustkeep_linkLives rfl rfl ((linkLives_any _).mono ?_)
  rintro e w_14 ⟨rfl, x_15⟩
  refine ⟨_, rfl, ?_⟩
  have q_16 := x_15.size
  have z_14 := Ext.tr z_11 x_15
  refine vl (as_ rfl) rfl <| nl <| nT <| rt <| tT <| tR (.tmp rfl .nil) <| ?_
  exact ⟨rfl, z_14⟩
set_option maxRecDepth 100000 in
set_option maxHeartbeats 1000000 in
theorem linkEnds_ok (a : Lnk.At) (L : Lnk) (w : World) (hL : Lnk.Has w a L) (hne : (L.chk != 0) = false) (hg0 : GL { L with way := [], acks := [] }) :
    Calls Try.prog 9 #[.agg #[.int .i64 L.window, .slice a.S L.sent.length a.s, .int .i64 L.base, .int .i64 L.next, .slice a.W L.way.length a.w, .slice a.K L.acks.length a.k, .slice a.G L.got.length a.g, .slice a.H L.held.length a.h]] w (fun e w' => e = .returned (.bool true) ∧ Ext w w') := by
  refine calls_W (n := 85) Try.func9 rfl rfl rfl ?_
  refine sq <| rg <| bx rfl rfl rfl rfl fun w_1 b_2 x_3 l_4 B_5 => ?_
  have q_6 := x_3.size
  have z_1 := Ext.tr (Ext.rf w) x_3
  have q_7 := B_5.lt
  refine vl (as_ rfl) rfl <| nl <| nT <| sq <| sq <| rg <| ca LnU_en_mustkeep_linkLives rfl rfl ((linkLives_any _).mono ?_)
  rintro e w_8 ⟨rfl, x_9⟩
  refine ⟨_, rfl, ?_⟩
  have q_10 := x_9.size
  have z_8 := Ext.tr z_1 x_9
  refine vl (nt rfl) rfl <| vl (mv rfl) rfl <| ug rfl rfl rfl <| ?_
  have B_5 := B_5.later x_9
  refine vl (ld rfl (B_5.all LnU_ag_api_Link LnU_sz_api_Link)) rfl <| ug rfl rfl rfl <| ca LnU_en_link_Check rfl rfl ((lcheck_any a L _ (hL.keep z_8)).mono ?_)
  rintro e w_11 ⟨rfl, x_12⟩
  refine ⟨_, rfl, ?_⟩
  have q_13 := x_12.size
  have z_11 := Ext.tr z_8 x_12
  refine ug rfl rfl rfl <| vl (bne rfl rfl) rfl <| vl (pkF rfl (evb rfl hne)) rfl <| nl <| nT <| cF rfl <| sk <| nT <| sq <| rg <| vl (fa LnU_fd_api_Link_4 rfl) rfl <| ?_
  have B_5 := B_5.later x_12
  refine st (new := [.int .i64 L.window, .slice a.S L.sent.length a.s, .int .i64 L.base, .int .i64 L.next, .slice none 0 0, .slice a.K L.acks.length a.k, .slice a.G L.got.length a.g, .slice a.H L.held.length a.h]) rfl rfl B_5 rfl LnU_sz_S_int rfl rfl rfl fun w_14 m_15 B_5 => ?_
  have q_17 := m_15.size
  have z_14 := Ext.mod z_11 m_15 (by simp only [List.mem_singleton, forall_eq]; omega)
  have q_16 := m_15.size
  refine vl (fa LnU_fd_api_Link_5 rfl) rfl <| st (new := [.int .i64 L.window, .slice a.S L.sent.length a.s, .int .i64 L.base, .int .i64 L.next, .slice none 0 0, .slice none 0 0, .slice a.G L.got.length a.g, .slice a.H L.held.length a.h]) rfl rfl B_5 rfl LnU_sz_S_int rfl rfl rfl fun w_18 m_19 B_5 => ?_
  have q_21 := m_19.size
  have z_18 := Ext.mod z_14 m_19 (by simp only [List.mem_singleton, forall_eq]; omega)
  have q_20 := m_19.size
  refine nl <| nT <| sq <| rg <| vl (as_ rfl) rfl <| nl <| nT <| sq <| bk <| ?_
  have HO0 : LOr w w_18 [b_2] w_18.heap.size ⟨a.S, none, none, a.G, a.H, a.s, 0, 0, a.g, a.h⟩ ({ L with way := [], acks := [] } : Lnk) := .inl ⟨⟨hL.S, Rep.SHas.nil _, Rep.SHas.nil _, hL.G, hL.H, hL.nums⟩, z_18⟩
  refine lp (fun mI EI wI => ∃ a1 : Lnk.At, ∃ L1 : Lnk, ∃ n : Nat, EI = [(1, .pointer (some ⟨b_2, 0, none⟩)), (3, .int .i64 (n : Int))] ∧ mI = (L.sent.length - L1.base.toNat) ∧ Ext w wI ∧ Blk wI b_2 [.int .i64 L1.window, .slice a1.S L1.sent.length a1.s, .int .i64 L1.base, .int .i64 L1.next, .slice a1.W L1.way.length a1.w, .slice a1.K L1.acks.length a1.k, .slice a1.G L1.got.length a1.g, .slice a1.H L1.held.length a1.h] 55 (0, 0) ∧ LOr w wI [b_2] wI.heap.size a1 L1 ∧ (GL L1) ∧ (L1.way = []) ∧ (L1.acks = []) ∧ (L1.sent = L.sent) ∧ ((n : Int) ≤ L1.base)) _ _ ⟨⟨a.S, none, none, a.G, a.H, a.s, 0, 0, a.g, a.h⟩, ({ L with way := [], acks := [] } : Lnk), 0, rfl, rfl, z_18, B_5, HO0, hg0, rfl, rfl, rfl, (by have := hg0.b0; dsimp only at this ⊢; omega)⟩ (.cons rfl (.cons (loI rfl (by first | omega | rfl | (simp <;> omega))) .nil)) ?_
  rintro m_23 E_24 w_22 ⟨a1, L1, n, rfl, rfl, z_22, HB1, HO1, gl, hw0, ha0, hs0, hnb⟩
  have q_25 := z_22.size
  have q_26 := HB1.lt
  have gb0 := gl.b0; have gbg := gl.bg; have ggs := gl.gs; have gs2 := gl.s; have gw1 := gl.w1; have gw2 := gl.w2; have hsl : L1.sent.length = L.sent.length := by rw [hs0]
  refine sq <| sq <| rg <| vl (fa LnU_fd_api_Link_2 rfl) rfl <| vl (ld rfl (HB1.one LnU_ag_int rfl)) rfl <| vl (fa LnU_fd_api_Link_1 rfl) rfl <| vl (ld rfl (HB1.one LnU_ag_S_string rfl)) rfl <| vl (ln Try.underlying53 rfl) rfl <| vl (blt rfl rfl) rfl <| nl <| nT <| ?_
  refine clt rfl (fun h_27 => ?_) (fun h_27 => ?_)
  · refine sk <| nT <| sq <| bk <| sq <| rg <| vl (ld rfl (HB1.all LnU_ag_api_Link LnU_sz_api_Link)) rfl <| vl (v := .agg #[.int .i64 2, .int .i64 0, .bool false, .string .empty]) (bd rfl (by kernel_rfl)) rfl <| ?_
    obtain ⟨M28, hMM28, hAM28, hSM28, hWM28, hpM28⟩ := send_do gl hw0 ha0
    have hpM28 := hpM28 h_27
    have hDM28 := lDo_any a1 L1 ⟨2, 0, false, .empty⟩ _ HO1.has okk2
    rw [hMM28] at hDM28
    dsimp only at hDM28
    refine ca LnU_en_link_Do rfl rfl ((hDM28).mono ?_)
    rintro e w_29 ⟨bM28, rfl, HTM28, x_30⟩
    refine ⟨_, rfl, ?_⟩
    have q_31 := x_30.size
    have z_29 := Ext.tr z_22 x_30
    have bdHTM28 := fun q hq => HTM28.lt (q := q) hq
    have loHTM28 := fun q hq => (HTM28.lt (q := q) hq).1
    refine vl (mv rfl) rfl <| vl (ex rfl rfl) rfl <| vl (ex rfl rfl) rfl <| al rfl LnU_zv_api_Link rfl rfl fun w_32 b_33 x_34 l_35 B_36 => ?_
    have q_37 := x_34.size
    have z_32 := Ext.tr z_29 x_34
    have q_38 := B_36.lt
    refine st (new := [.int .i64 M28.window, .slice bM28.S M28.sent.length bM28.s, .int .i64 M28.base, .int .i64 M28.next, .slice bM28.W M28.way.length bM28.w, .slice bM28.K M28.acks.length bM28.k, .slice bM28.G M28.got.length bM28.g, .slice bM28.H M28.held.length bM28.h]) rfl rfl B_36 rfl LnU_sz_api_Link rfl rfl rfl fun w_39 m_40 B_36 => ?_
    have q_42 := m_40.size
    have z_39 := Ext.mod z_32 m_40 (by simp only [List.mem_singleton, forall_eq]; omega)
    have q_41 := m_40.size
    refine vl (as_ rfl) rfl <| nl <| nT <| sq <| sq <| rg <| vl (mv rfl) rfl <| vl (bne rfl rfl) rfl <| vl (mv rfl) rfl <| ug rfl rfl rfl <| vl (mv rfl) rfl <| ug rfl rfl rfl <| vl (fa LnU_fd_api_Link_1 rfl) rfl <| ug rfl rfl rfl <| ?_
    have HB1 := HB1.later (Ext.tr x_30 x_34)
    have HB1 := HB1.mod m_40 (by simp only [List.mem_singleton]; omega)
    refine vl (ld rfl (HB1.one LnU_ag_S_string rfl)) rfl <| ug rfl rfl rfl <| vl (ln Try.underlying53 rfl) rfl <| ug rfl rfl rfl <| vl (bgt rfl rfl) rfl <| vl (pkF rfl rfl) rfl <| nl <| nT <| ?_
    refine clt rfl (fun h_43 => ?_) (fun h_43 => ?_)
    · exfalso; omega
    · refine sk <| nT <| sq <| rg <| vl (ld rfl (B_36.all LnU_ag_api_Link LnU_sz_api_Link)) rfl <| st (new := [.int .i64 M28.window, .slice bM28.S M28.sent.length bM28.s, .int .i64 M28.base, .int .i64 M28.next, .slice bM28.W M28.way.length bM28.w, .slice bM28.K M28.acks.length bM28.k, .slice bM28.G M28.got.length bM28.g, .slice bM28.H M28.held.length bM28.h]) rfl rfl HB1 rfl LnU_sz_api_Link rfl rfl rfl fun w_44 m_45 HB1 => ?_
      have q_47 := m_45.size
      have z_44 := Ext.mod z_39 m_45 (by simp only [List.mem_singleton, forall_eq]; omega)
      have q_46 := m_45.size
      refine nl <| nT <| sq <| rg <| vl (v := .agg #[.int .i64 3, .int .i64 4]) (bd rfl (by kernel_rfl)) rfl <| vl (mv rfl) rfl <| nl <| nT <| bk <| lu 3 <| lr <| sq <| rg <| vl (blt rfl rfl) rfl <| nl <| nT <| sq <| cT rfl <| sk <| nT <| sq <| bk <| sq <| rg <| ?_
      refine vl (v := .int .i64 3) (ixk rfl rfl (by kernel_rfl)) rfl <| vl (as_ rfl) rfl <| nl <| nT <| bk <| ?_
      have HTM28 := HTM28.later x_34
      have HTM28 := HTM28.mod m_40 (fun q hq h => by have e_ := List.mem_singleton.1 h; have := bdHTM28 q hq; omega)
      have HTM28 := HTM28.mod m_45 (fun q hq h => by have e_ := List.mem_singleton.1 h; have := bdHTM28 q hq; omega)
      refine lp (fun mI EI wI => ∃ a2 : Lnk.At, ∃ L2 : Lnk, EI = [(1, .pointer (some ⟨b_2, 0, none⟩)), (3, .int .i64 (n : Int)), (4, .pointer (some ⟨b_33, 0, none⟩)), (7, .int .i64 3), (18, .pointer (some ⟨b_2, 2, none⟩)), (19, .int .i64 L1.base), (20, .pointer (some ⟨b_2, 1, none⟩)), (21, .slice a1.S L1.sent.length a1.s), (22, .int .i64 (L1.sent.length : Int)), (23, .bool (decide (L1.base < (L1.sent.length : Int)))), (26, .tuple #[.agg #[.int .i64 M28.window, .slice bM28.S M28.sent.length bM28.s, .int .i64 M28.base, .int .i64 M28.next, .slice bM28.W M28.way.length bM28.w, .slice bM28.K M28.acks.length bM28.k, .slice bM28.G M28.got.length bM28.g, .slice bM28.H M28.held.length bM28.h], .int .i64 0]), (27, .agg #[.int .i64 L1.window, .slice a1.S L1.sent.length a1.s, .int .i64 L1.base, .int .i64 L1.next, .slice a1.W L1.way.length a1.w, .slice a1.K L1.acks.length a1.k, .slice a1.G L1.got.length a1.g, .slice a1.H L1.held.length a1.h]), (28, .agg #[.int .i64 2, .int .i64 0, .bool false, .string .empty]), (29, .tuple #[.agg #[.int .i64 M28.window, .slice bM28.S M28.sent.length bM28.s, .int .i64 M28.base, .int .i64 M28.next, .slice bM28.W M28.way.length bM28.w, .slice bM28.K M28.acks.length bM28.k, .slice bM28.G M28.got.length bM28.g, .slice bM28.H M28.held.length bM28.h], .int .i64 0]), (30, .agg #[.int .i64 M28.window, .slice bM28.S M28.sent.length bM28.s, .int .i64 M28.base, .int .i64 M28.next, .slice bM28.W M28.way.length bM28.w, .slice bM28.K M28.acks.length bM28.k, .slice bM28.G M28.got.length bM28.g, .slice bM28.H M28.held.length bM28.h]), (31, .int .i64 0), (32, .int .i64 0), (33, .bool false), (34, .bool false), (35, .int .i64 (n : Int)), (36, .pointer (some ⟨b_2, 1, none⟩)), (37, .slice a1.S L1.sent.length a1.s), (38, .int .i64 (L1.sent.length : Int)), (39, .bool (decide ((L1.sent.length : Int) < (n : Int)))), (40, .bool (decide ((L1.sent.length : Int) < (n : Int)))), (41, .agg #[.int .i64 M28.window, .slice bM28.S M28.sent.length bM28.s, .int .i64 M28.base, .int .i64 M28.next, .slice bM28.W M28.way.length bM28.w, .slice bM28.K M28.acks.length bM28.k, .slice bM28.G M28.got.length bM28.g, .slice bM28.H M28.held.length bM28.h]), (42, .agg #[.int .i64 3, .int .i64 4]), (43, .int .i64 0), (44, .bool true), (45, .int .i64 3)] ∧ mI = L2.way.length ∧ Ext w wI ∧ Blk wI b_2 [.int .i64 L2.window, .slice a2.S L2.sent.length a2.s, .int .i64 L2.base, .int .i64 L2.next, .slice a2.W L2.way.length a2.w, .slice a2.K L2.acks.length a2.k, .slice a2.G L2.got.length a2.g, .slice a2.H L2.held.length a2.h] 55 (0, 0) ∧ LOr w wI [b_2] wI.heap.size a2 L2 ∧ (Amid L2 L1.base (min (L1.base + L1.window) (L1.sent.length : Int))) ∧ (L2.sent = L1.sent) ∧ (0 < L2.way.length ∨ L2.acks.getLast? = some (L2.got.length : Int))) _ _ ⟨bM28, M28, rfl, rfl, z_44, HB1, (LOr.topz HTM28 (by omega) (fun q hq => by rw [List.mem_singleton.1 hq]; omega) (by omega)), hAM28, hSM28, .inl hpM28⟩ (.cons rfl (.cons rfl (.cons rfl (.cons rfl (.cons rfl (.cons rfl (.cons rfl (.cons rfl (.cons rfl (.cons rfl (.cons rfl (.cons rfl (.cons rfl (.cons rfl (.cons rfl (.cons rfl (.cons rfl (.cons rfl (.cons rfl (.cons rfl (.cons rfl (.cons rfl (.cons rfl (.cons rfl (.cons rfl (.cons rfl (.cons rfl (.cons rfl (.cons rfl (.cons rfl .nil)))))))))))))))))))))))))))))) ?_
      rintro m_49 E_50 w_48 ⟨a2, L2, rfl, rfl, z_48, HB2, HO2, ham, hs2, hl2⟩
      have q_51 := z_48.size
      have q_52 := HB2.lt
      refine sq <| sq <| ?_
      cases kW : decide (0 < (L2.way.length : Int))
      · have kz : ((decide (0 < (L2.acks.length : Int))) && false) = false := Bool.and_false _
        have hbe : L1.base < min (L1.base + L1.window) (L1.sent.length : Int) := by omega
        refine rg <| vl (fa LnU_fd_api_Link_4 rfl) rfl <| vl (ld rfl (HB2.one LnU_ag_S_int rfl)) rfl <| vl (ln Try.underlying38 rfl) rfl <| vl (bgt rfl rfl) rfl <| vl (mv (evb rfl kW)) rfl <| vQ (v := undef) rfl rfl rfl rfl (fun hc => nomatch hc) rfl <| vQ (v := undef) rfl rfl rfl rfl (fun hc => nomatch hc) rfl <| vl (pkF rfl rfl) rfl <| vl (mv rfl) rfl <| ug rfl rfl rfl <| vl (fa LnU_fd_api_Link_5 rfl) rfl <| ug rfl rfl rfl <| vl (ld rfl (HB2.one LnU_ag_S_int rfl)) rfl <| ug rfl rfl rfl <| vl (ln Try.underlying38 rfl) rfl <| ug rfl rfl rfl <| vl (bgt rfl rfl) rfl <| ug rfl rfl rfl <| vl (mv rfl) rfl <| vQ rfl rfl rfl rfl (fun hc => mv rfl) rfl <| vQ rfl rfl rfl rfl (fun hc => beq (gt hc rfl) rfl) rfl <| ug rfl rfl rfl <| vl (pA rfl rfl rfl rfl) rfl <| ?_
        refine vl (pkF rfl (evb rfl kz)) rfl <| nl <| nT <| cF rfl <| xt <| xT <| xK <| xB <| nB <| nT <| rg <| vl (badL (r := 1) rfl rfl (by decide) (by decide)) rfl <| vl (mv rfl) rfl <| nl <| nR <| lr <| sq <| rg <| vl (blt rfl rfl) rfl <| nl <| nT <| sq <| cT rfl <| sk <| ?_
        refine nT <| sq <| bk <| sq <| rg <| vl (v := .int .i64 4) (ixk rfl rfl (by kernel_rfl)) rfl <| vl (as_ rfl) rfl <| nl <| nT <| bk <| ?_
        refine lp (fun mI EI wI => ∃ a3 : Lnk.At, ∃ L3 : Lnk, EI = [(1, .pointer (some ⟨b_2, 0, none⟩)), (3, .int .i64 (n : Int)), (4, .pointer (some ⟨b_33, 0, none⟩)), (7, .int .i64 4), (18, .pointer (some ⟨b_2, 2, none⟩)), (19, .int .i64 L1.base), (20, .pointer (some ⟨b_2, 1, none⟩)), (21, .slice a1.S L1.sent.length a1.s), (22, .int .i64 (L1.sent.length : Int)), (23, .bool (decide (L1.base < (L1.sent.length : Int)))), (26, .tuple #[.agg #[.int .i64 M28.window, .slice bM28.S M28.sent.length bM28.s, .int .i64 M28.base, .int .i64 M28.next, .slice bM28.W M28.way.length bM28.w, .slice bM28.K M28.acks.length bM28.k, .slice bM28.G M28.got.length bM28.g, .slice bM28.H M28.held.length bM28.h], .int .i64 0]), (27, .agg #[.int .i64 L1.window, .slice a1.S L1.sent.length a1.s, .int .i64 L1.base, .int .i64 L1.next, .slice a1.W L1.way.length a1.w, .slice a1.K L1.acks.length a1.k, .slice a1.G L1.got.length a1.g, .slice a1.H L1.held.length a1.h]), (28, .agg #[.int .i64 2, .int .i64 0, .bool false, .string .empty]), (29, .tuple #[.agg #[.int .i64 M28.window, .slice bM28.S M28.sent.length bM28.s, .int .i64 M28.base, .int .i64 M28.next, .slice bM28.W M28.way.length bM28.w, .slice bM28.K M28.acks.length bM28.k, .slice bM28.G M28.got.length bM28.g, .slice bM28.H M28.held.length bM28.h], .int .i64 0]), (30, .agg #[.int .i64 M28.window, .slice bM28.S M28.sent.length bM28.s, .int .i64 M28.base, .int .i64 M28.next, .slice bM28.W M28.way.length bM28.w, .slice bM28.K M28.acks.length bM28.k, .slice bM28.G M28.got.length bM28.g, .slice bM28.H M28.held.length bM28.h]), (31, .int .i64 0), (32, .int .i64 0), (33, .bool false), (34, .bool false), (35, .int .i64 (n : Int)), (36, .pointer (some ⟨b_2, 1, none⟩)), (37, .slice a1.S L1.sent.length a1.s), (38, .int .i64 (L1.sent.length : Int)), (39, .bool (decide ((L1.sent.length : Int) < (n : Int)))), (40, .bool (decide ((L1.sent.length : Int) < (n : Int)))), (41, .agg #[.int .i64 M28.window, .slice bM28.S M28.sent.length bM28.s, .int .i64 M28.base, .int .i64 M28.next, .slice bM28.W M28.way.length bM28.w, .slice bM28.K M28.acks.length bM28.k, .slice bM28.G M28.got.length bM28.g, .slice bM28.H M28.held.length bM28.h]), (42, .agg #[.int .i64 3, .int .i64 4]), (43, .int .i64 1), (44, .bool true), (45, .int .i64 4), (73, .int .i64 1)] ∧ mI = L3.acks.length ∧ Ext w wI ∧ Blk wI b_2 [.int .i64 L3.window, .slice a3.S L3.sent.length a3.s, .int .i64 L3.base, .int .i64 L3.next, .slice a3.W L3.way.length a3.w, .slice a3.K L3.acks.length a3.k, .slice a3.G L3.got.length a3.g, .slice a3.H L3.held.length a3.h] 55 (0, 0) ∧ LOr w wI [b_2] wI.heap.size a3 L3 ∧ (Heard L3 L1.base) ∧ (L3.sent = L1.sent)) _ _ ⟨a2, L2, rfl, rfl, z_48, HB2, (LOr.up HO2 (by omega)), (amid_heard ham (by simpa using kW) hbe hl2), hs2⟩ (.cons rfl (.cons rfl (.cons rfl (.cons rfl (.cons rfl (.cons rfl (.cons rfl (.cons rfl (.cons rfl (.cons rfl (.cons rfl (.cons rfl (.cons rfl (.cons rfl (.cons rfl (.cons rfl (.cons rfl (.cons rfl (.cons rfl (.cons rfl (.cons rfl (.cons rfl (.cons rfl (.cons rfl (.cons rfl (.cons rfl (.cons rfl (.cons rfl (.cons rfl (.cons rfl (.cons rfl .nil))))))))))))))))))))))))))))))) ?_
        rintro m_54 E_55 w_53 ⟨a3, L3, rfl, rfl, z_53, HB3, HO3, hhe, hs3⟩
        have q_56 := z_53.size
        have q_57 := HB3.lt
        have kW3 : decide (0 < (L3.way.length : Int)) = false := by rw [hhe.way]; rfl
        refine sq <| sq <| ?_
        cases kK : decide (0 < (L3.acks.length : Int))
        · have hlen3 : L3.acks.length = 0 := by simpa using kK
          have hak3 : L3.acks = [] := List.eq_nil_of_length_eq_zero hlen3
          have hb3 : L3.base = (L3.got.length : Int) := hhe.last.elim (fun h => h.2) fun h => by rw [hak3] at h; cases h
          have hmo3 := hhe.more
          have hsl3 : L3.sent.length = L1.sent.length := by rw [hs3]
          refine rg <| vl (fa LnU_fd_api_Link_4 rfl) rfl <| vl (ld rfl (HB3.one LnU_ag_S_int rfl)) rfl <| vl (ln Try.underlying38 rfl) rfl <| vl (bgt rfl rfl) rfl <| vl (mv (evb rfl kW3)) rfl <| vQ (v := undef) rfl rfl rfl rfl (fun hc => nomatch hc) rfl <| vQ (v := undef) rfl rfl rfl rfl (fun hc => nomatch hc) rfl <| vl (pkF rfl rfl) rfl <| vl (mv rfl) rfl <| ug rfl rfl rfl <| vl (fa LnU_fd_api_Link_5 rfl) rfl <| ug rfl rfl rfl <| vl (ld rfl (HB3.one LnU_ag_S_int rfl)) rfl <| ug rfl rfl rfl <| vl (ln Try.underlying38 rfl) rfl <| ug rfl rfl rfl <| vl (bgt rfl rfl) rfl <| ug rfl rfl rfl <| vl (mv (evb rfl kK)) rfl <| vQ (v := undef) rfl rfl rfl rfl (fun hc => nomatch hc) rfl <| vQ (v := undef) rfl rfl rfl rfl (fun hc => nomatch hc) rfl <| ug rfl rfl rfl <| vl (pkF rfl rfl) rfl <| ?_
          refine vl (pkF rfl rfl) rfl <| nl <| nT <| cF rfl <| xt <| xT <| xK <| xB <| nB <| nT <| rg <| vl (badL (r := 2) rfl rfl (by decide) (by decide)) rfl <| vl (mv rfl) rfl <| nl <| nR <| lr <| sq <| rg <| vl (blt rfl rfl) rfl <| nl <| nT <| sq <| cF rfl <| xt <| ?_
          refine xT <| xK <| xB <| nB <| nT <| rg <| vl (mv rfl) rfl <| vl (bad rfl rfl (inI (by omega))) rfl <| vl (as_ rfl) rfl <| nl <| ?_
          exact nI _ _ ⟨a3, L3, n + 1, rfl, rfl, z_53, HB3, (LOr.up HO3 (by omega)), hhe.good, hhe.way, hak3, (hs3.trans (rfl.trans (rfl.trans hs0))), (by omega)⟩ (by omega) (.cons rfl (.cons (loI rfl (by first | omega | rfl | (simp <;> omega))) .nil))
        · refine rg <| vl (fa LnU_fd_api_Link_4 rfl) rfl <| vl (ld rfl (HB3.one LnU_ag_S_int rfl)) rfl <| vl (ln Try.underlying38 rfl) rfl <| vl (bgt rfl rfl) rfl <| vl (mv (evb rfl kW3)) rfl <| vQ (v := undef) rfl rfl rfl rfl (fun hc => nomatch hc) rfl <| vQ (v := undef) rfl rfl rfl rfl (fun hc => nomatch hc) rfl <| vl (pkF rfl rfl) rfl <| vl (mv rfl) rfl <| ug rfl rfl rfl <| vl (fa LnU_fd_api_Link_5 rfl) rfl <| ug rfl rfl rfl <| vl (ld rfl (HB3.one LnU_ag_S_int rfl)) rfl <| ug rfl rfl rfl <| vl (ln Try.underlying38 rfl) rfl <| ug rfl rfl rfl <| vl (bgt rfl rfl) rfl <| ug rfl rfl rfl <| vl (mv (evb rfl kK)) rfl <| ug rfl rfl rfl <| vl (mv rfl) rfl <| ug rfl rfl rfl <| vl (beq rfl rfl) rfl <| ?_
          refine ug rfl rfl rfl <| vl (pkT rfl rfl) rfl <| vl (pkF rfl rfl) rfl <| nl <| nT <| cT rfl <| sk <| nT <| bk <| sq <| rg <| vl (ld rfl (HB3.all LnU_ag_api_Link LnU_sz_api_Link)) rfl <| vl (mv rfl) rfl <| vl (v := .agg #[.int .i64 4, .int .i64 0, .bool false, .string .empty]) (bd rfl (by kernel_rfl)) rfl <| ?_
          obtain ⟨M58, hMM58, hAM58, hSM58, hWM58, hlM58⟩ := hear_do hhe (by simpa using kK)
          have hDM58 := lDo_any a3 L3 ⟨4, 0, false, .empty⟩ _ HO3.has okk4
          rw [hMM58] at hDM58
          dsimp only at hDM58
          refine ca LnU_en_link_Do rfl rfl ((hDM58).mono ?_)
          rintro e w_59 ⟨bM58, rfl, HTM58, x_60⟩
          refine ⟨_, rfl, ?_⟩
          have q_61 := x_60.size
          have z_59 := Ext.tr z_53 x_60
          have bdHTM58 := fun q hq => HTM58.lt (q := q) hq
          have loHTM58 := fun q hq => (HTM58.lt (q := q) hq).1
          refine vl (mv rfl) rfl <| vl (ex rfl rfl) rfl <| vl (ex rfl rfl) rfl <| ?_
          have HB3 := HB3.later x_60
          refine st (new := [.int .i64 M58.window, .slice bM58.S M58.sent.length bM58.s, .int .i64 M58.base, .int .i64 M58.next, .slice bM58.W M58.way.length bM58.w, .slice bM58.K M58.acks.length bM58.k, .slice bM58.G M58.got.length bM58.g, .slice bM58.H M58.held.length bM58.h]) rfl rfl HB3 rfl LnU_sz_api_Link rfl rfl rfl fun w_62 m_63 HB3 => ?_
          have q_65 := m_63.size
          have z_62 := Ext.mod z_59 m_63 (by simp only [List.mem_singleton, forall_eq]; omega)
          have q_64 := m_63.size
          refine vl (as_ rfl) rfl <| nl <| nT <| sq <| rg <| vl (mv rfl) rfl <| vl (bne rfl rfl) rfl <| nl <| nT <| cF rfl <| sk <| nB <| ?_
          have HTM58 := HTM58.mod m_63 (fun q hq h => by have e_ := List.mem_singleton.1 h; have := bdHTM58 q hq; omega)
          exact nI _ _ ⟨bM58, M58, rfl, rfl, z_62, HB3, (LOr.topz HTM58 (by omega) (fun q hq => by rw [List.mem_singleton.1 hq]; omega) (by omega)), hAM58, (hSM58.trans hs3)⟩ (by omega) (.cons rfl (.cons rfl (.cons rfl (.cons rfl (.cons rfl (.cons rfl (.cons rfl (.cons rfl (.cons rfl (.cons rfl (.cons rfl (.cons rfl (.cons rfl (.cons rfl (.cons rfl (.cons rfl (.cons rfl (.cons rfl (.cons rfl (.cons rfl (.cons rfl (.cons rfl (.cons rfl (.cons rfl (.cons rfl (.cons rfl (.cons rfl (.cons rfl (.cons rfl (.cons rfl (.cons rfl .nil)))))))))))))))))))))))))))))))
      · refine rg <| vl (fa LnU_fd_api_Link_4 rfl) rfl <| vl (ld rfl (HB2.one LnU_ag_S_int rfl)) rfl <| vl (ln Try.underlying38 rfl) rfl <| vl (bgt rfl rfl) rfl <| vl (mv (evb rfl kW)) rfl <| ug rfl rfl rfl <| vl (mv rfl) rfl <| ug rfl rfl rfl <| vl (beq rfl rfl) rfl <| vl (pkT rfl rfl) rfl <| vl (mv rfl) rfl <| vQ (v := undef) rfl rfl rfl rfl (fun hc => nomatch hc) rfl <| vQ (v := undef) rfl rfl rfl rfl (fun hc => nomatch hc) rfl <| vQ (v := undef) rfl rfl rfl rfl (fun hc => nomatch hc) rfl <| vQ (v := undef) rfl rfl rfl rfl (fun hc => nomatch hc) rfl <| vQ (v := undef) rfl rfl rfl rfl (fun hc => nomatch hc) rfl <| vU rfl rfl rfl rfl rfl <| vU rfl rfl rfl rfl rfl <| vQ (v := undef) rfl rfl rfl rfl (fun hc => nomatch hc) rfl <| vl (pkT rfl rfl) rfl <| nl <| nT <| cT rfl <| ?_
        refine sk <| nT <| bk <| sq <| rg <| vl (ld rfl (HB2.all LnU_ag_api_Link LnU_sz_api_Link)) rfl <| vl (mv rfl) rfl <| vl (v := .agg #[.int .i64 3, .int .i64 0, .bool false, .string .empty]) (bd rfl (by kernel_rfl)) rfl <| ?_
        obtain ⟨M66, hMM66, hAM66, hSM66, hWM66, hlM66, hgM66⟩ := take_do ham (by simpa using kW)
        have hDM66 := lDo_any a2 L2 ⟨3, 0, false, .empty⟩ _ HO2.has okk3
        rw [hMM66] at hDM66
        dsimp only at hDM66
        refine ca LnU_en_link_Do rfl rfl ((hDM66).mono ?_)
        rintro e w_67 ⟨bM66, rfl, HTM66, x_68⟩
        refine ⟨_, rfl, ?_⟩
        have q_69 := x_68.size
        have z_67 := Ext.tr z_48 x_68
        have bdHTM66 := fun q hq => HTM66.lt (q := q) hq
        have loHTM66 := fun q hq => (HTM66.lt (q := q) hq).1
        refine vl (mv rfl) rfl <| vl (ex rfl rfl) rfl <| vl (ex rfl rfl) rfl <| ?_
        have HB2 := HB2.later x_68
        refine st (new := [.int .i64 M66.window, .slice bM66.S M66.sent.length bM66.s, .int .i64 M66.base, .int .i64 M66.next, .slice bM66.W M66.way.length bM66.w, .slice bM66.K M66.acks.length bM66.k, .slice bM66.G M66.got.length bM66.g, .slice bM66.H M66.held.length bM66.h]) rfl rfl HB2 rfl LnU_sz_api_Link rfl rfl rfl fun w_70 m_71 HB2 => ?_
        have q_73 := m_71.size
        have z_70 := Ext.mod z_67 m_71 (by simp only [List.mem_singleton, forall_eq]; omega)
        have q_72 := m_71.size
        refine vl (as_ rfl) rfl <| nl <| nT <| sq <| rg <| vl (mv rfl) rfl <| vl (bne rfl rfl) rfl <| nl <| nT <| cF rfl <| sk <| nB <| ?_
        have HTM66 := HTM66.mod m_71 (fun q hq h => by have e_ := List.mem_singleton.1 h; have := bdHTM66 q hq; omega)
        exact nI _ _ ⟨bM66, M66, rfl, rfl, z_70, HB2, (LOr.topz HTM66 (by omega) (fun q hq => by rw [List.mem_singleton.1 hq]; omega) (by omega)), hAM66, (hSM66.trans hs2), .inr hgM66⟩ (by omega) (.cons rfl (.cons rfl (.cons rfl (.cons rfl (.cons rfl (.cons rfl (.cons rfl (.cons rfl (.cons rfl (.cons rfl (.cons rfl (.cons rfl (.cons rfl (.cons rfl (.cons rfl (.cons rfl (.cons rfl (.cons rfl (.cons rfl (.cons rfl (.cons rfl (.cons rfl (.cons rfl (.cons rfl (.cons rfl (.cons rfl (.cons rfl (.cons rfl (.cons rfl (.cons rfl .nil))))))))))))))))))))))))))))))
  · obtain ⟨hge, hhe0⟩ := all_come gl (by omega)
    have k1 : decide (L1.got = L1.sent) = true := decide_eq_true hge
    have k2 : ((L1.held.length : Int) == 0) = true := by rw [hhe0]; rfl
    refine xt <| xT <| xK <| xB <| nT <| sq <| rg <| vl (fa LnU_fd_api_Link_6 rfl) rfl <| vl (ld rfl (HB1.one LnU_ag_S_string rfl)) rfl <| vl (fa LnU_fd_api_Link_1 rfl) rfl <| vl (ld rfl (HB1.one LnU_ag_S_string rfl)) rfl <| ca LnU_en_slices_Equal_S_string_string_ rfl rfl ((equal_S _ _ _ _ _ _ L1.got L1.sent _ HO1.has.G HO1.has.S).mono ?_)
    rintro e w_74 ⟨rfl, x_75⟩
    refine ⟨_, rfl, ?_⟩
    have q_76 := x_75.size
    have z_74 := Ext.tr z_22 x_75
    refine vl (mv (evb rfl k1)) rfl <| ug rfl rfl rfl <| vl (fa LnU_fd_api_Link_7 rfl) rfl <| ug rfl rfl rfl <| ?_
    have HB1 := HB1.later x_75
    refine vl (ld rfl (HB1.one LnU_ag_S_int rfl)) rfl <| ug rfl rfl rfl <| vl (ln Try.underlying38 rfl) rfl <| ug rfl rfl rfl <| vl (beq rfl rfl) rfl <| vl (pkT rfl (evb rfl k2)) rfl <| vl (as_ rfl) rfl <| nl <| nT <| rt <| tR (.tmp rfl .nil) <| ?_
    exact ⟨rfl, z_74⟩
theorem linkEnds_any (c0 : Array Value) (w : World) (h0 : (.cons (.int .i64) (.cons (.slice .str 16) (.cons (.int .i64) (.cons (.int .i64) (.cons (.slice (.int .i64) 8) (.cons (.slice (.int .i64) 8) (.cons (.slice .str 16) (.cons (.slice (.int .i64) 8) .nil))))))) : Sh).Ok w c0.toList) :
    Calls Try.prog 9 #[.agg c0] w fun e w' => e = .returned (.bool true) ∧ Below w.heap.size w w' := by
  obtain ⟨a, L, e, hL⟩ := Lnk.opens w _ (show Lnk.sh.Ok w c0.toList from h0)
  have hc : c0 = (Lnk.cells a L).toArray := by rw [← e]
  subst hc
  by_cases hk : L.chk = 0
  · exact linkEnds_ok a L w hL (by rw [hk]; rfl) (GL.of hk).none
  · exact linkEnds_bad a L w hL (by simpa using hk)
end Go.Proofs.Ytfabhinehfhndaa
