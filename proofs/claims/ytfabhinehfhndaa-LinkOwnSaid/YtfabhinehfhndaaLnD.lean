/-
  link.do. (Printed by bin/linkdo.py.)
-/
import Derived.Test.YtfabhinehfhndaaLnM
import Derived.Test.YtfabhinehfhndaaEvt
set_option linter.unusedVariables false
set_option linter.unusedSimpArgs false
namespace Go.Proofs.Ytfabhinehfhndaa
open Go.RowKit

theorem LnD_fd_api_Event_0 : Fd Try.prog 60 0 0 := fun _ _ _ => by kernel_rfl
theorem LnD_ag_int : Ag Try.prog 3 false := fun _ => by kernel_rfl
theorem LnD_fd_api_Link_1 : Fd Try.prog 55 1 1 := fun _ _ _ => by kernel_rfl
theorem LnD_ag_S_string : Ag Try.prog 53 false := fun _ => by kernel_rfl
theorem LnD_fd_api_Event_3 : Fd Try.prog 60 3 3 := fun _ _ _ => by kernel_rfl
theorem LnD_ag_string : Ag Try.prog 9 false := fun _ => by kernel_rfl
theorem LnD_el_S_string : ElT Try.prog repS 53 9 16 := ElT.mk_ (z := .string .empty) (k := 1) Try.underlying53 info_str rfl rfl (by decide) (fun j u h => raw0S j u h)
theorem LnD_sz_S_string : Sz Try.prog 53 1 := fun _ => by kernel_rfl
theorem LnD_en_link_send : Enters Try.prog 72 := en Try.func72 (by kernel_rfl) (by kernel_rfl)
theorem LnD_fd_api_Link_4 : Fd Try.prog 55 4 4 := fun _ _ _ => by kernel_rfl
theorem LnD_fd_api_Event_1 : Fd Try.prog 60 1 1 := fun _ _ _ => by kernel_rfl
theorem LnD_en_link_taken : Enters Try.prog 73 := en Try.func73 (by kernel_rfl) (by kernel_rfl)
theorem LnD_fd_api_Link_5 : Fd Try.prog 55 5 5 := fun _ _ _ => by kernel_rfl
theorem LnD_ag_S_int : Ag Try.prog 38 false := fun _ => by kernel_rfl
theorem LnD_fd_api_Event_2 : Fd Try.prog 60 2 2 := fun _ _ _ => by kernel_rfl
theorem LnD_ag_bool : Ag Try.prog 4 false := fun _ => by kernel_rfl
theorem LnD_en_link_comes : Enters Try.prog 74 := en Try.func74 (by kernel_rfl) (by kernel_rfl)
theorem LnD_fd_api_Link_2 : Fd Try.prog 55 2 2 := fun _ _ _ => by kernel_rfl
theorem LnD_sz_int : Sz Try.prog 3 1 := fun _ => by kernel_rfl
theorem LnD_fd_api_Link_3 : Fd Try.prog 55 3 3 := fun _ _ _ => by kernel_rfl
/-- One event in a right link. -/
def Lnk.step (L : Lnk) (x : Evt) : Lnk × Int :=
  if x.kind = 1 then (if (L.sent.length : Int) = 200 then (L, 6) else ({ L with sent := L.sent ++ [x.text] }, 0))
  else if x.kind = 2 then L.send
  else if x.kind = 3 then (if tkOk L.way x.at_ = false then (L, 7) else if (L.acks.length : Int) = 1000 then (L, 6) else (({ L with way := tkL L.way x.at_ x.keep }).comes (tkN L.way x.at_), 0))
  else if x.kind = 4 then (if tkOk L.acks x.at_ = false then (L, 7) else ({ L with acks := tkL L.acks x.at_ x.keep, base := max L.base (tkN L.acks x.at_), next := max L.next (max L.base (tkN L.acks x.at_)) }, 0))
  else if x.kind = 5 then (if x.keep = true then (if tkOk L.acks x.at_ = false then (L, 7) else ({ L with acks := tkL L.acks x.at_ false }, 0)) else (if tkOk L.way x.at_ = false then (L, 7) else ({ L with way := tkL L.way x.at_ false }, 0)))
  else (L, 1)
theorem tkL_len (l : List Int) (i : Int) (keep : Bool) : (tkL l i keep).length ≤ l.length := by
  unfold tkL; split
  · rw [List.length_append, List.length_take, List.length_drop]; omega
  · exact Nat.le_refl _
theorem tkN_bd {l : List Int} {i lo hi : Int} (h : l.all (fun n => inB n lo hi) = true) (hk : tkOk l i = true) : lo ≤ tkN l i ∧ tkN l i ≤ hi := by
  unfold tkN; rw [if_pos hk]
  have hk : 0 ≤ i ∧ i < (l.length : Int) := by unfold tkOk at hk; simpa using hk
  exact inB_true (List.all_eq_true.1 h _ (mem_dd (by omega)))
theorem inc_pw : ∀ {l : List Int}, incB l = true → l.Pairwise (· ≤ ·) := by
  intro l h
  have h := of_decide_eq_true h
  rw [List.pairwise_iff_getElem]
  intro i j hi hj hij
  have mono : ∀ d, i + d < l.length → l.getD i 0 ≤ l.getD (i + d) 0 := by
    intro d
    induction d with
    | zero => intro _; exact Int.le_refl _
    | succ d ih => intro hd; have := h (i + d) (by omega); have := ih (by omega); rw [show i + (d + 1) = i + d + 1 by omega]; omega
  have := mono (j - i) (by omega)
  rw [show i + (j - i) = j by omega, getD_dd hi, getD_dd hj] at this
  exact this
theorem LAt.later {w w' : World} {Z b : Nat} {a : Lnk.At} {L : Lnk} (h : LAt w Z b a L) (x : Ext w w') : LAt w' Z b a L :=
  ⟨h.blk.later x, ⟨h.own.S.later x, h.own.W.later x, h.own.K.later x, h.own.G.later x, h.own.H.later x, h.own.dWS, h.own.dKS, h.own.dKW, h.own.dGS, h.own.dGW, h.own.dGK, h.own.dHS, h.own.dHW, h.own.dHK, h.own.dHG, h.own.nums⟩, h.le, h.bS, h.bW, h.bK, h.bG, h.bH⟩
theorem lcomes_int (w0 : World) (b : Nat) (a : Lnk.At) (L : Lnk) (n : Int) (w : World) (hx0 : Ext w0 w) (hl : LAt w w0.heap.size b a L) (hN : L.Num) (hs : L.held.Pairwise (· ≤ ·)) (hbd : ∀ y ∈ L.held, 0 ≤ y ∧ y < (L.sent.length : Int)) (h0 : 0 ≤ n) (hk : n < (L.sent.length : Int)) (hac : L.acks.length < 1000) (hhl : L.held.length ≤ 200) :
    Calls Try.prog 74 #[.pointer (some ⟨b, 0, none⟩), .int .i64 n] w (fun e w' => ∃ a', e = .returned (.tuple #[]) ∧ LRes w' w0.heap.size b a' (L.comes n) ∧ (∀ q ∈ lft a', q ∈ lF b a ∨ w.heap.size ≤ q) ∧ Mod (lF b a) w w') := by
  obtain ⟨k, rfl⟩ := Int.eq_ofNat_of_zero_le h0
  exact lcomes_any w0 b a L k w hx0 hl hN hs hbd (by omega) hac hhl
set_option maxRecDepth 100000 in
set_option maxHeartbeats 400000 in
theorem ldo_any (w0 : World) (b : Nat) (a : Lnk.At) (L : Lnk) (x : Evt) (w : World) (hx0 : Ext w0 w) (hl : LAt w w0.heap.size b a L) (hc : L.chk = 0) (hxo : x.ok) :
    Calls Try.prog 59 #[.pointer (some ⟨b, 0, none⟩), .agg #[.int .i64 x.kind, .int .i64 x.at_, .bool x.keep, .string x.text]] w (fun e w' => e = .returned (.int .i64 (L.step x).2) ∧ ((L.step x).2 = 0 → ∃ a', LRes w' w0.heap.size b a' (L.step x).1 ∧ (∀ q ∈ lft a', q ∈ lF b a ∨ w.heap.size ≤ q)) ∧ Mod (lF b a) w w') := by
  have hx0s := hx0.size
  have HB := hl.blk
  have hZb := hl.le
  have qB := HB.lt
  have OS := hl.own.S
  have OW := hl.own.W
  have OK := hl.own.K
  have OG := hl.own.G
  have OH := hl.own.H
  have uS := fun q hq => (OS.lt q hq).2
  have uW := fun q hq => (OW.lt q hq).2
  have uK := fun q hq => (OK.lt q hq).2
  have uG := fun q hq => (OG.lt q hq).2
  have uH := fun q hq => (OH.lt q hq).2
  have lS : ∀ q ∈ Rep.blkOf a.S, w0.heap.size ≤ q := fun q hq => (OS.lt q hq).1
  have lW : ∀ q ∈ Rep.blkOf a.W, w0.heap.size ≤ q := fun q hq => (OW.lt q hq).1
  have lK : ∀ q ∈ Rep.blkOf a.K, w0.heap.size ≤ q := fun q hq => (OK.lt q hq).1
  have lG : ∀ q ∈ Rep.blkOf a.G, w0.heap.size ≤ q := fun q hq => (OG.lt q hq).1
  have lH : ∀ q ∈ Rep.blkOf a.H, w0.heap.size ≤ q := fun q hq => (OH.lt q hq).1
  have eS := OS.has.len_le
  have eW := OW.has.len_le
  have eK := OK.has.len_le
  have eG := OG.has.len_le
  have eH := OH.has.len_le
  have cS := OS.1
  have cW := OW.1
  have cK := OK.1
  have cG := OG.1
  have cH := OH.1
  have hgF := lF_ge hl
  have hn0 := okI_iff.1 hl.own.nums.1
  have hn1 := okI_iff.1 hl.own.nums.2.1
  have hn2 := okI_iff.1 hl.own.nums.2.2
  have hN := Lnk.num hc
  have hN2 := hN
  obtain ⟨n1, n2, n3, n4, n5, n6, n7, n8, n9, n10, n11⟩ := hN
  obtain ⟨gA, gB, gC⟩ := Lnk.chk_zero hc
  obtain ⟨g1, g2, g3, g4, g5, g6, g7, g8, g9⟩ := Lnk.good_parts gC
  have hbd : ∀ y ∈ L.held, 0 ≤ y ∧ y < (L.sent.length : Int) := fun y hy => by have := inB_true (List.all_eq_true.1 g8 y hy); omega
  have hxk := okI_iff.1 hxo.1
  have hxa := okI_iff.1 hxo.2.1
  refine calls_W (n := 127) Try.func59 rfl rfl rfl ?_
  refine sq <| rg <| bx rfl rfl rfl rfl fun w_1 b_2 x_3 l_4 B_5 => ?_
  have q_6 := x_3.size
  have z_1 := (Mod.rf (lF b a) w).trans (Mod.of_ext x_3)
  have q_7 := B_5.lt
  refine vl (as_ rfl) rfl <| nl <| nT <| sq <| sq <| rg <| vl (fa LnD_fd_api_Event_0 rfl) rfl <| vl (ld rfl (B_5.one LnD_ag_int rfl)) rfl <| nl <| nT <| bk <| sq <| rg <| vl (beq rfl rfl) rfl <| vl (as_ rfl) rfl <| nl <| nT <| ?_
  refine ceq rfl (fun h_8 => ?_) (fun h_8 => ?_)
  · refine sq <| sq <| rg <| vl (mv rfl) rfl <| vl (nc rfl) rfl <| vl (fa LnD_fd_api_Link_1 rfl) rfl <| ?_
    have HB := HB.later x_3
    refine vl (ld rfl (HB.one LnD_ag_S_string rfl)) rfl <| vl (ln Try.underlying53 rfl) rfl <| vl (beq rfl rfl) rfl <| nl <| nT <| ?_
    refine ceq rfl (fun h_9 => ?_) (fun h_9 => ?_)
    · refine sq <| rg <| vl (as_ rfl) rfl <| nl <| nT <| rt <| tT <| tB <| tT <| tR (.tmp rfl .nil) <| ?_
      have hstep : L.step x = (L, 6) := by
        try simp only [Bool.or_eq_true, Bool.or_eq_false_iff, Bool.and_eq_true, Bool.and_eq_false_iff, decide_eq_true_eq, decide_eq_false_iff_not, beq_iff_eq, bne_iff_ne, beq_eq_false_iff_ne, bne_eq_false_iff_eq, Bool.not_eq_true', Bool.not_eq_false', Bool.not_eq_true, Bool.not_eq_false, Int.not_lt, Int.not_le, Nat.not_lt, Nat.not_le, ne_eq, Classical.not_not] at h_8
        try simp only [Bool.or_eq_true, Bool.or_eq_false_iff, Bool.and_eq_true, Bool.and_eq_false_iff, decide_eq_true_eq, decide_eq_false_iff_not, beq_iff_eq, bne_iff_ne, beq_eq_false_iff_ne, bne_eq_false_iff_eq, Bool.not_eq_true', Bool.not_eq_false', Bool.not_eq_true, Bool.not_eq_false, Int.not_lt, Int.not_le, Nat.not_lt, Nat.not_le, ne_eq, Classical.not_not] at h_9
        unfold Lnk.step; simp [h_8, h_9]
      exact ⟨by rw [hstep]; rfl, fun h0 => by rw [hstep] at h0; simp at h0, z_1⟩
    · refine sk <| nT <| ?_
      refine rd [(4, 0), (6, 0), (7, 2), (8, 3), (11, 3)] [0, 1, 2, 3, 4, 5, 6, 7, 8, 9, 10, 11] (by kernel_rfl) (by kernel_rfl) ?_
      refine fw rfl rfl (fun _ => mv rfl) rfl <| fw rfl rfl (fun _ => mv rfl) rfl <| fw rfl rfl (fun _ => nc rfl) rfl <| fw rfl rfl (fun _ => fa LnD_fd_api_Link_1 rfl) rfl <| fq rfl rfl (fun _ x => ld rfl ((HB.later x).one LnD_ag_S_string rfl)) rfl <| fw rfl rfl (fun _ => fa LnD_fd_api_Event_3 rfl) rfl <| fq rfl rfl (fun _ x => ld rfl ((B_5.later x).one LnD_ag_string rfl)) rfl <| fx rfl rfl rfl fun w_10 x_11 Q hK => bs (e := 9) (cs := [.string x.text]) rfl (fun _ => by kernel_rfl) rfl fun w_12 b_13 x_14 l_15 B_16 => hK _ _ ⟨Ext.tr x_11 x_14, ?_⟩
      have q_17 := x_11.size
      have z_10 := z_1.trans (Mod.of_ext x_11)
      have q_18 := x_14.size
      have z_12 := z_10.trans (Mod.of_ext x_14)
      have q_19 := B_16.lt
      have OS := OS.later (Ext.tr x_3 (Ext.tr x_11 x_14))
      refine fb rfl rfl rfl fun w_20 x_21 Q hK => ap LnD_el_S_string repS_bare (OS.later x_21) ((Blk.has1 (R := repS) (by_ := 16) (q := x.text) B_16 ⟨rfl, hxo.2.2⟩ (by decide)).keep x_21) rfl rfl (by simp only [List.length_append, List.length_cons, List.length_nil]; omega) (by simp only [List.length_append, List.length_cons, List.length_nil]; omega) (by have := x_21.size; omega) rfl fun w_22 A_23 c_24 m_25 O_26 g_27 n_28 => hK _ _ ?_
      have q_29 := x_21.size
      have z_20 := z_12.trans (Mod.of_ext x_21)
      have q_30 := m_25.size
      have z_22 := z_20.md m_25 (fun q hq => .inl (in_lF_S hq))
      have u_31 := fun q hq => (O_26.lt q hq).2
      have q_32 := m_25.size
      refine fw rfl rfl (fun _ => nc rfl) rfl <| fw rfl rfl (fun _ => fa LnD_fd_api_Link_1 rfl) rfl <| ?_
      have HB := HB.later (Ext.tr x_11 (Ext.tr x_14 x_21))
      have HB := HB.mod m_25 (fun hq => hl.bS _ hq rfl)
      refine fb rfl rfl rfl fun w_33 x_34 Q hK => st (new := [.int .i64 L.window, .slice A_23 ((L.sent ++ [x.text]).length) c_24, .int .i64 L.base, .int .i64 L.next, .slice a.W L.way.length a.w, .slice a.K L.acks.length a.k, .slice a.G L.got.length a.g, .slice a.H L.held.length a.h]) rfl rfl (HB.later x_34) rfl LnD_sz_S_string rfl rfl rfl fun w_35 m_36 HB => hK _ _ ?_
      have q_38 := x_34.size
      have z_33 := z_22.trans (Mod.of_ext x_34)
      have q_39 := m_36.size
      have z_35 := z_33.md m_36 (fun q hq => .inl (by rw [List.mem_singleton.1 hq]; exact List.mem_cons_self))
      have q_37 := m_36.size
      refine fn fun w_40 x_41 => ?_
      have q_42 := x_41.size
      have z_40 := z_35.trans (Mod.of_ext x_41)
      refine nB <| nT <| sq <| rg <| vl (as_ rfl) rfl <| nl <| nT <| rt <| tR (.tmp rfl .nil) <| ?_
      have hstep : L.step x = ((⟨L.window, L.sent ++ [x.text], L.base, L.next, L.way, L.acks, L.got, L.held⟩ : Lnk), 0) := by
        try simp only [Bool.or_eq_true, Bool.or_eq_false_iff, Bool.and_eq_true, Bool.and_eq_false_iff, decide_eq_true_eq, decide_eq_false_iff_not, beq_iff_eq, bne_iff_ne, beq_eq_false_iff_ne, bne_eq_false_iff_eq, Bool.not_eq_true', Bool.not_eq_false', Bool.not_eq_true, Bool.not_eq_false, Int.not_lt, Int.not_le, Nat.not_lt, Nat.not_le, ne_eq, Classical.not_not] at h_8
        try simp only [Bool.or_eq_true, Bool.or_eq_false_iff, Bool.and_eq_true, Bool.and_eq_false_iff, decide_eq_true_eq, decide_eq_false_iff_not, beq_iff_eq, bne_iff_ne, beq_eq_false_iff_ne, bne_eq_false_iff_eq, Bool.not_eq_true', Bool.not_eq_false', Bool.not_eq_true, Bool.not_eq_false, Int.not_lt, Int.not_le, Nat.not_lt, Nat.not_le, ne_eq, Classical.not_not] at h_9
        unfold Lnk.step; simp [h_8, h_9]
      have HB := HB.later x_41
      have O_26 := O_26.later x_34
      have O_26 := O_26.mod m_36 (fun q hq h => by have hb := List.mem_singleton.1 h; exfalso; (exact Or.elim (g_27 q hq) (fun k_43 => by (exact hl.bS q k_43 hb)) (fun k_43 => by omega)))
      have O_26 := O_26.later x_41
      have OW := OW.later (Ext.tr x_3 (Ext.tr x_11 (Ext.tr x_14 x_21)))
      have OW := OW.mod m_25 (fun q hq h => by exfalso; (exact hl.own.dWS q hq h))
      have OW := OW.later x_34
      have OW := OW.mod m_36 (fun q hq h => by have hb := List.mem_singleton.1 h; exfalso; (exact hl.bW q hq hb))
      have OW := OW.later x_41
      have OK := OK.later (Ext.tr x_3 (Ext.tr x_11 (Ext.tr x_14 x_21)))
      have OK := OK.mod m_25 (fun q hq h => by exfalso; (exact hl.own.dKS q hq h))
      have OK := OK.later x_34
      have OK := OK.mod m_36 (fun q hq h => by have hb := List.mem_singleton.1 h; exfalso; (exact hl.bK q hq hb))
      have OK := OK.later x_41
      have OG := OG.later (Ext.tr x_3 (Ext.tr x_11 (Ext.tr x_14 x_21)))
      have OG := OG.mod m_25 (fun q hq h => by exfalso; (exact hl.own.dGS q hq h))
      have OG := OG.later x_34
      have OG := OG.mod m_36 (fun q hq h => by have hb := List.mem_singleton.1 h; exfalso; (exact hl.bG q hq hb))
      have OG := OG.later x_41
      have OH := OH.later (Ext.tr x_3 (Ext.tr x_11 (Ext.tr x_14 x_21)))
      have OH := OH.mod m_25 (fun q hq h => by exfalso; (exact hl.own.dHS q hq h))
      have OH := OH.later x_34
      have OH := OH.mod m_36 (fun q hq h => by have hb := List.mem_singleton.1 h; exfalso; (exact hl.bH q hq hb))
      have OH := OH.later x_41
      have zp_49 : ∀ q ∈ Rep.blkOf a.S, q ∈ (lF b a) ∨ w.heap.size ≤ q := (fun q hq => .inl (in_lF_S hq))
      exact ⟨by rw [hstep]; rfl, fun _ => ⟨⟨A_23, a.W, a.K, a.G, a.H, c_24, a.w, a.k, a.g, a.h⟩, by rw [hstep]; exact ⟨HB, O_26, OW, OK, OG, (TOwn.of OH), (fun q h1 h2 => by (exact Or.elim (g_27 q h2) (fun k_44 => by (exact hl.own.dWS q h1 k_44)) (fun k_44 => by (have := uW q h1; omega)))), (fun q h1 h2 => by (exact Or.elim (g_27 q h2) (fun k_45 => by (exact hl.own.dKS q h1 k_45)) (fun k_45 => by (have := uK q h1; omega)))), (fun q h1 h2 => by (exact hl.own.dKW q h1 h2)), (fun q h1 h2 => by (exact Or.elim (g_27 q h2) (fun k_46 => by (exact hl.own.dGS q h1 k_46)) (fun k_46 => by (have := uG q h1; omega)))), (fun q h1 h2 => by (exact hl.own.dGW q h1 h2)), (fun q h1 h2 => by (exact hl.own.dGK q h1 h2)), (fun q h1 h2 => by (exact Or.elim (g_27 q h2) (fun k_47 => by (exact hl.own.dHS q h1 k_47)) (fun k_47 => by (have := uH q h1; omega)))), (fun q h1 h2 => by (exact hl.own.dHW q h1 h2)), (fun q h1 h2 => by (exact hl.own.dHK q h1 h2)), (fun q h1 h2 => by (exact hl.own.dHG q h1 h2)), ⟨okI_iff.2 (by (try dsimp only); omega), okI_iff.2 (by (try dsimp only); omega), okI_iff.2 (by (try dsimp only); omega)⟩, hl.le, (fun q h1 h2 => by (exact Or.elim (g_27 q h1) (fun k_48 => by (exact hl.bS q k_48 h2)) (fun k_48 => by omega))), (fun q h1 h2 => by (exact hl.bW q h1 h2)), (fun q h1 h2 => by (exact hl.bK q h1 h2)), (fun q h1 h2 => by (exact hl.bG q h1 h2)), (fun q h1 h2 => by (exact hl.bH q h1 h2))⟩, (lft_in (fun q hq => (g_27 q hq).elim (zp_49 q) (fun h => .inr (by omega))) (fun q hq => .inl (in_lF_W hq)) (fun q hq => .inl (in_lF_K hq)) (fun q hq => .inl (in_lF_G hq)) (fun q hq => .inl (in_lF_H hq)))⟩, z_40⟩
  · refine sq <| rg <| vl (beq rfl rfl) rfl <| vl (as_ rfl) rfl <| nl <| nT <| ?_
    refine ceq rfl (fun h_50 => ?_) (fun h_50 => ?_)
    · refine sq <| rg <| vl (mv rfl) rfl <| ?_
      have HB := HB.later x_3
      have OS := OS.later x_3
      have OW := OW.later x_3
      have OK := OK.later x_3
      have OG := OG.later x_3
      have OH := OH.later x_3
      refine ca LnD_en_link_send rfl rfl ((lsend_any w0 b a L _ (Ext.mod hx0 z_1 hgF) ⟨HB, ⟨OS, OW, OK, OG, OH, (fun q h1 h2 => by (exact hl.own.dWS q h1 h2)), (fun q h1 h2 => by (exact hl.own.dKS q h1 h2)), (fun q h1 h2 => by (exact hl.own.dKW q h1 h2)), (fun q h1 h2 => by (exact hl.own.dGS q h1 h2)), (fun q h1 h2 => by (exact hl.own.dGW q h1 h2)), (fun q h1 h2 => by (exact hl.own.dGK q h1 h2)), (fun q h1 h2 => by (exact hl.own.dHS q h1 h2)), (fun q h1 h2 => by (exact hl.own.dHW q h1 h2)), (fun q h1 h2 => by (exact hl.own.dHK q h1 h2)), (fun q h1 h2 => by (exact hl.own.dHG q h1 h2)), ⟨okI_iff.2 (by (try dsimp only); omega), okI_iff.2 (by (try dsimp only); omega), okI_iff.2 (by (try dsimp only); omega)⟩⟩, hl.le, (fun q h1 h2 => by (exact hl.bS q h1 h2)), (fun q h1 h2 => by (exact hl.bW q h1 h2)), (fun q h1 h2 => by (exact hl.bK q h1 h2)), (fun q h1 h2 => by (exact hl.bG q h1 h2)), (fun q h1 h2 => by (exact hl.bH q h1 h2))⟩ hN2).mono ?_)
      rintro e w_53 ⟨a_51, rfl, HR_51, HF_51, m_52⟩
      refine ⟨_, rfl, ?_⟩
      have q_54 := m_52.size
      have z_53 := z_1.md m_52 (fun q hq => .inl hq)
      refine vl (as_ rfl) rfl <| nl <| nT <| rt <| tB <| tT <| tR (.tmp rfl .nil) <| ?_
      have hstep : L.step x = L.send := by
        try simp only [Bool.or_eq_true, Bool.or_eq_false_iff, Bool.and_eq_true, Bool.and_eq_false_iff, decide_eq_true_eq, decide_eq_false_iff_not, beq_iff_eq, bne_iff_ne, beq_eq_false_iff_ne, bne_eq_false_iff_eq, Bool.not_eq_true', Bool.not_eq_false', Bool.not_eq_true, Bool.not_eq_false, Int.not_lt, Int.not_le, Nat.not_lt, Nat.not_le, ne_eq, Classical.not_not] at h_8
        try simp only [Bool.or_eq_true, Bool.or_eq_false_iff, Bool.and_eq_true, Bool.and_eq_false_iff, decide_eq_true_eq, decide_eq_false_iff_not, beq_iff_eq, bne_iff_ne, beq_eq_false_iff_ne, bne_eq_false_iff_eq, Bool.not_eq_true', Bool.not_eq_false', Bool.not_eq_true, Bool.not_eq_false, Int.not_lt, Int.not_le, Nat.not_lt, Nat.not_le, ne_eq, Classical.not_not] at h_50
        unfold Lnk.step; simp [h_8, h_50]
      exact ⟨by rw [hstep]; rfl, fun _ => ⟨a_51, by rw [hstep]; exact HR_51.res, (fun q hq => (HF_51 q hq).imp id fun h => by omega)⟩, z_53⟩
    · refine sq <| rg <| vl (beq rfl rfl) rfl <| vl (as_ rfl) rfl <| nl <| nT <| ?_
      refine ceq rfl (fun h_55 => ?_) (fun h_55 => ?_)
      · refine sq <| sq <| ?_
        refine rd [(4, 0), (5, 3)] [0, 1, 2, 3, 4, 5, 6, 7, 8, 9, 10] (by kernel_rfl) (by kernel_rfl) ?_
        refine fw rfl rfl (fun _ => mv rfl) rfl <| fw rfl rfl (fun _ => nc rfl) rfl <| fw rfl rfl (fun _ => fa LnD_fd_api_Link_4 rfl) rfl <| fw rfl rfl (fun _ => fa LnD_fd_api_Event_1 rfl) rfl <| fq rfl rfl (fun _ x => ld rfl ((B_5.later x).one LnD_ag_int rfl)) rfl <| ?_
        have HB := HB.later x_3
        have OS := OS.later x_3
        have OW := OW.later x_3
        have OK := OK.later x_3
        have OG := OG.later x_3
        have OH := OH.later x_3
        refine fb rfl rfl rfl fun w_56 x_57 Q hK => ca LnD_en_link_taken rfl rfl ((taken_W w0 b a (⟨L.window, L.sent, L.base, L.next, L.way, L.acks, L.got, L.held⟩ : Lnk) x.at_ true _ (Ext.tr (Ext.mod hx0 z_1 hgF) x_57) (LAt.later ⟨HB, ⟨OS, OW, OK, OG, OH, (fun q h1 h2 => by (exact hl.own.dWS q h1 h2)), (fun q h1 h2 => by (exact hl.own.dKS q h1 h2)), (fun q h1 h2 => by (exact hl.own.dKW q h1 h2)), (fun q h1 h2 => by (exact hl.own.dGS q h1 h2)), (fun q h1 h2 => by (exact hl.own.dGW q h1 h2)), (fun q h1 h2 => by (exact hl.own.dGK q h1 h2)), (fun q h1 h2 => by (exact hl.own.dHS q h1 h2)), (fun q h1 h2 => by (exact hl.own.dHW q h1 h2)), (fun q h1 h2 => by (exact hl.own.dHK q h1 h2)), (fun q h1 h2 => by (exact hl.own.dHG q h1 h2)), ⟨okI_iff.2 (by (try dsimp only); omega), okI_iff.2 (by (try dsimp only); omega), okI_iff.2 (by (try dsimp only); omega)⟩⟩, hl.le, (fun q h1 h2 => by (exact hl.bS q h1 h2)), (fun q h1 h2 => by (exact hl.bW q h1 h2)), (fun q h1 h2 => by (exact hl.bK q h1 h2)), (fun q h1 h2 => by (exact hl.bG q h1 h2)), (fun q h1 h2 => by (exact hl.bH q h1 h2))⟩ x_57)).mono ?_)
        rintro e w_60 ⟨rfl, HB_58, OT_58, m_59⟩
        refine ⟨_, rfl, hK _ _ ?_⟩
        have q_61 := x_57.size
        have z_56 := z_1.trans (Mod.of_ext x_57)
        have q_62 := m_59.size
        have z_60 := z_56.md m_59 (fun q hq => .inl ((List.mem_cons.1 hq).elim (fun e => by rw [e]; exact List.mem_cons_self) (fun h => in_lF_W h)))
        rw [tkL_keep] at HB_58 OT_58
        have HB_58 : Blk w_60 b [.int .i64 L.window, .slice a.S L.sent.length a.s, .int .i64 L.base, .int .i64 L.next, .slice a.W L.way.length a.w, .slice a.K L.acks.length a.k, .slice a.G L.got.length a.g, .slice a.H L.held.length a.h] 55 (0, 0) := HB_58
        refine fw rfl rfl (fun _ => mv rfl) rfl <| fw rfl rfl (fun _ => ex rfl rfl) rfl <| fw rfl rfl (fun _ => ex rfl rfl) rfl <| fw rfl rfl (fun _ => as_ rfl) rfl <| fw rfl rfl (fun _ => as_ rfl) rfl <| fn fun w_63 x_64 => ?_
        have q_65 := x_64.size
        have z_63 := z_60.trans (Mod.of_ext x_64)
        refine nT <| sq <| rg <| vl (mv rfl) rfl <| vl (nt rfl) rfl <| nl <| nT <| ?_
        refine cb rfl (fun h_66 => ?_) (fun h_66 => ?_)
        · refine sq <| rg <| vl (as_ rfl) rfl <| nl <| nT <| rt <| tT <| tB <| tT <| tR (.tmp rfl .nil) <| ?_
          have hstep : L.step x = (L, 7) := by
            try simp only [Bool.or_eq_true, Bool.or_eq_false_iff, Bool.and_eq_true, Bool.and_eq_false_iff, decide_eq_true_eq, decide_eq_false_iff_not, beq_iff_eq, bne_iff_ne, beq_eq_false_iff_ne, bne_eq_false_iff_eq, Bool.not_eq_true', Bool.not_eq_false', Bool.not_eq_true, Bool.not_eq_false, Int.not_lt, Int.not_le, Nat.not_lt, Nat.not_le, ne_eq, Classical.not_not] at h_8
            try simp only [Bool.or_eq_true, Bool.or_eq_false_iff, Bool.and_eq_true, Bool.and_eq_false_iff, decide_eq_true_eq, decide_eq_false_iff_not, beq_iff_eq, bne_iff_ne, beq_eq_false_iff_ne, bne_eq_false_iff_eq, Bool.not_eq_true', Bool.not_eq_false', Bool.not_eq_true, Bool.not_eq_false, Int.not_lt, Int.not_le, Nat.not_lt, Nat.not_le, ne_eq, Classical.not_not] at h_50
            try simp only [Bool.or_eq_true, Bool.or_eq_false_iff, Bool.and_eq_true, Bool.and_eq_false_iff, decide_eq_true_eq, decide_eq_false_iff_not, beq_iff_eq, bne_iff_ne, beq_eq_false_iff_ne, bne_eq_false_iff_eq, Bool.not_eq_true', Bool.not_eq_false', Bool.not_eq_true, Bool.not_eq_false, Int.not_lt, Int.not_le, Nat.not_lt, Nat.not_le, ne_eq, Classical.not_not] at h_55
            try simp only [Bool.or_eq_true, Bool.or_eq_false_iff, Bool.and_eq_true, Bool.and_eq_false_iff, decide_eq_true_eq, decide_eq_false_iff_not, beq_iff_eq, bne_iff_ne, beq_eq_false_iff_ne, bne_eq_false_iff_eq, Bool.not_eq_true', Bool.not_eq_false', Bool.not_eq_true, Bool.not_eq_false, Int.not_lt, Int.not_le, Nat.not_lt, Nat.not_le, ne_eq, Classical.not_not] at h_66
            unfold Lnk.step; simp [h_8, h_50, h_55, h_66]
          exact ⟨by rw [hstep]; rfl, fun h0 => by rw [hstep] at h0; simp at h0, z_63⟩
        · have htk : tkOk L.way x.at_ = true := by simpa using h_66
          refine sk <| nT <| sq <| sq <| rg <| vl (mv rfl) rfl <| vl (nc rfl) rfl <| vl (fa LnD_fd_api_Link_5 rfl) rfl <| ?_
          have HB_58 := HB_58.later x_64
          refine vl (ld rfl (HB_58.one LnD_ag_S_int rfl)) rfl <| vl (ln Try.underlying38 rfl) rfl <| vl (beq rfl rfl) rfl <| nl <| nT <| ?_
          refine ceq rfl (fun h_67 => ?_) (fun h_67 => ?_)
          · refine sq <| rg <| vl (as_ rfl) rfl <| nl <| nT <| rt <| tT <| tB <| tT <| tR (.tmp rfl .nil) <| ?_
            have hstep : L.step x = (L, 6) := by
              try simp only [Bool.or_eq_true, Bool.or_eq_false_iff, Bool.and_eq_true, Bool.and_eq_false_iff, decide_eq_true_eq, decide_eq_false_iff_not, beq_iff_eq, bne_iff_ne, beq_eq_false_iff_ne, bne_eq_false_iff_eq, Bool.not_eq_true', Bool.not_eq_false', Bool.not_eq_true, Bool.not_eq_false, Int.not_lt, Int.not_le, Nat.not_lt, Nat.not_le, ne_eq, Classical.not_not] at h_8
              try simp only [Bool.or_eq_true, Bool.or_eq_false_iff, Bool.and_eq_true, Bool.and_eq_false_iff, decide_eq_true_eq, decide_eq_false_iff_not, beq_iff_eq, bne_iff_ne, beq_eq_false_iff_ne, bne_eq_false_iff_eq, Bool.not_eq_true', Bool.not_eq_false', Bool.not_eq_true, Bool.not_eq_false, Int.not_lt, Int.not_le, Nat.not_lt, Nat.not_le, ne_eq, Classical.not_not] at h_50
              try simp only [Bool.or_eq_true, Bool.or_eq_false_iff, Bool.and_eq_true, Bool.and_eq_false_iff, decide_eq_true_eq, decide_eq_false_iff_not, beq_iff_eq, bne_iff_ne, beq_eq_false_iff_ne, bne_eq_false_iff_eq, Bool.not_eq_true', Bool.not_eq_false', Bool.not_eq_true, Bool.not_eq_false, Int.not_lt, Int.not_le, Nat.not_lt, Nat.not_le, ne_eq, Classical.not_not] at h_55
              try simp only [Bool.or_eq_true, Bool.or_eq_false_iff, Bool.and_eq_true, Bool.and_eq_false_iff, decide_eq_true_eq, decide_eq_false_iff_not, beq_iff_eq, bne_iff_ne, beq_eq_false_iff_ne, bne_eq_false_iff_eq, Bool.not_eq_true', Bool.not_eq_false', Bool.not_eq_true, Bool.not_eq_false, Int.not_lt, Int.not_le, Nat.not_lt, Nat.not_le, ne_eq, Classical.not_not] at h_66
              try simp only [Bool.or_eq_true, Bool.or_eq_false_iff, Bool.and_eq_true, Bool.and_eq_false_iff, decide_eq_true_eq, decide_eq_false_iff_not, beq_iff_eq, bne_iff_ne, beq_eq_false_iff_ne, bne_eq_false_iff_eq, Bool.not_eq_true', Bool.not_eq_false', Bool.not_eq_true, Bool.not_eq_false, Int.not_lt, Int.not_le, Nat.not_lt, Nat.not_le, ne_eq, Classical.not_not] at h_67
              unfold Lnk.step; simp [h_8, h_50, h_55, h_66, h_67, htk]
            exact ⟨by rw [hstep]; rfl, fun h0 => by rw [hstep] at h0; simp at h0, z_63⟩
          · refine sk <| nT <| sq <| ?_
            refine rd [(4, 0), (6, 0), (7, 3)] [0, 1, 2, 3, 4, 5, 6, 7, 8, 9, 10, 11, 12] (by kernel_rfl) (by kernel_rfl) ?_
            refine fw rfl rfl (fun _ => mv rfl) rfl <| fw rfl rfl (fun _ => nc rfl) rfl <| fw rfl rfl (fun _ => fa LnD_fd_api_Link_4 rfl) rfl <| fw rfl rfl (fun _ => fa LnD_fd_api_Event_1 rfl) rfl <| ?_
            have B_5 := B_5.later x_57
            have B_5 := B_5.mod m_59 (fun h => (List.mem_cons.1 h).elim (fun h => by omega) (fun h => (fun q (h1 : q ∈ Rep.blkOf a.W) (h2 : q = b_2) => show False by (have := uW q h1; omega)) _ h rfl))
            have B_5 := B_5.later x_64
            refine fq rfl rfl (fun _ x => ld rfl ((B_5.later x).one LnD_ag_int rfl)) rfl <| fw rfl rfl (fun _ => fa LnD_fd_api_Event_2 rfl) rfl <| fq rfl rfl (fun _ x => ld rfl ((B_5.later x).one LnD_ag_bool rfl)) rfl <| ?_
            have OS := OS.later x_57
            have OS := OS.mod m_59 (fun q hq h => (List.mem_cons.1 h).elim (fun h => by exfalso; (exact hl.bS q hq h)) (fun h => by exfalso; (exact hl.own.dWS q h hq)))
            have OS := OS.later x_64
            have OT_58 := OT_58.later x_64
            have OK := OK.later x_57
            have OK := OK.mod m_59 (fun q hq h => (List.mem_cons.1 h).elim (fun h => by exfalso; (exact hl.bK q hq h)) (fun h => by exfalso; (exact hl.own.dKW q hq h)))
            have OK := OK.later x_64
            have OG := OG.later x_57
            have OG := OG.mod m_59 (fun q hq h => (List.mem_cons.1 h).elim (fun h => by exfalso; (exact hl.bG q hq h)) (fun h => by exfalso; (exact hl.own.dGW q hq h)))
            have OG := OG.later x_64
            have OH := OH.later x_57
            have OH := OH.mod m_59 (fun q hq h => (List.mem_cons.1 h).elim (fun h => by exfalso; (exact hl.bH q hq h)) (fun h => by exfalso; (exact hl.own.dHW q hq h)))
            have OH := OH.later x_64
            refine fb rfl rfl rfl fun w_68 x_69 Q hK => ca LnD_en_link_taken rfl rfl ((taken_W w0 b a (⟨L.window, L.sent, L.base, L.next, L.way, L.acks, L.got, L.held⟩ : Lnk) x.at_ x.keep _ (Ext.tr (Ext.mod hx0 z_63 hgF) x_69) (LAt.later ⟨HB_58, ⟨OS, OT_58, OK, OG, OH, (fun q h1 h2 => by (exact hl.own.dWS q h1 h2)), (fun q h1 h2 => by (exact hl.own.dKS q h1 h2)), (fun q h1 h2 => by (exact hl.own.dKW q h1 h2)), (fun q h1 h2 => by (exact hl.own.dGS q h1 h2)), (fun q h1 h2 => by (exact hl.own.dGW q h1 h2)), (fun q h1 h2 => by (exact hl.own.dGK q h1 h2)), (fun q h1 h2 => by (exact hl.own.dHS q h1 h2)), (fun q h1 h2 => by (exact hl.own.dHW q h1 h2)), (fun q h1 h2 => by (exact hl.own.dHK q h1 h2)), (fun q h1 h2 => by (exact hl.own.dHG q h1 h2)), ⟨okI_iff.2 (by (try dsimp only); omega), okI_iff.2 (by (try dsimp only); omega), okI_iff.2 (by (try dsimp only); omega)⟩⟩, hl.le, (fun q h1 h2 => by (exact hl.bS q h1 h2)), (fun q h1 h2 => by (exact hl.bW q h1 h2)), (fun q h1 h2 => by (exact hl.bK q h1 h2)), (fun q h1 h2 => by (exact hl.bG q h1 h2)), (fun q h1 h2 => by (exact hl.bH q h1 h2))⟩ x_69)).mono ?_)
            rintro e w_72 ⟨rfl, HB_70, OT_70, m_71⟩
            refine ⟨_, rfl, hK _ _ ?_⟩
            have q_73 := x_69.size
            have z_68 := z_63.trans (Mod.of_ext x_69)
            have q_74 := m_71.size
            have z_72 := z_68.md m_71 (fun q hq => .inl ((List.mem_cons.1 hq).elim (fun e => by rw [e]; exact List.mem_cons_self) (fun h => in_lF_W h)))
            have HB_70 : Blk w_72 b [.int .i64 L.window, .slice a.S L.sent.length a.s, .int .i64 L.base, .int .i64 L.next, .slice a.W ((tkL L.way x.at_ x.keep).length) a.w, .slice a.K L.acks.length a.k, .slice a.G L.got.length a.g, .slice a.H L.held.length a.h] 55 (0, 0) := HB_70
            refine fw rfl rfl (fun _ => mv rfl) rfl <| fw rfl rfl (fun _ => ex rfl rfl) rfl <| fw rfl rfl (fun _ => ex rfl rfl) rfl <| fw rfl rfl (fun _ => as_ rfl) rfl <| fw rfl rfl (fun _ => as_ rfl) rfl <| fn fun w_75 x_76 => ?_
            have q_77 := x_76.size
            have z_75 := z_72.trans (Mod.of_ext x_76)
            refine nT <| rg <| vl (mv rfl) rfl <| vl (mv rfl) rfl <| ?_
            have HB_70 := HB_70.later x_76
            have OS := OS.later x_69
            have OS := OS.mod m_71 (fun q hq h => (List.mem_cons.1 h).elim (fun h => by exfalso; (exact hl.bS q hq h)) (fun h => by exfalso; (exact hl.own.dWS q h hq)))
            have OS := OS.later x_76
            have OT_70 := OT_70.later x_76
            have OK := OK.later x_69
            have OK := OK.mod m_71 (fun q hq h => (List.mem_cons.1 h).elim (fun h => by exfalso; (exact hl.bK q hq h)) (fun h => by exfalso; (exact hl.own.dKW q hq h)))
            have OK := OK.later x_76
            have OG := OG.later x_69
            have OG := OG.mod m_71 (fun q hq h => (List.mem_cons.1 h).elim (fun h => by exfalso; (exact hl.bG q hq h)) (fun h => by exfalso; (exact hl.own.dGW q hq h)))
            have OG := OG.later x_76
            have OH := OH.later x_69
            have OH := OH.mod m_71 (fun q hq h => (List.mem_cons.1 h).elim (fun h => by exfalso; (exact hl.bH q hq h)) (fun h => by exfalso; (exact hl.own.dHW q hq h)))
            have OH := OH.later x_76
            have hNx : ((⟨L.window, L.sent, L.base, L.next, (tkL L.way x.at_ x.keep), L.acks, L.got, L.held⟩ : Lnk) : Lnk).Num := ⟨n1, n2, n3, n4, n5, n6, Nat.le_trans (tkL_len _ _ _) n7, n8, n9, n10, n11⟩
            have hnb := tkN_bd g6 htk
            refine ca LnD_en_link_comes rfl rfl ((lcomes_int w0 b a (⟨L.window, L.sent, L.base, L.next, (tkL L.way x.at_ x.keep), L.acks, L.got, L.held⟩ : Lnk) (tkN L.way x.at_) _ (Ext.mod hx0 z_75 hgF) ⟨HB_70, ⟨OS, OT_70, OK, OG, OH, (fun q h1 h2 => by (exact hl.own.dWS q h1 h2)), (fun q h1 h2 => by (exact hl.own.dKS q h1 h2)), (fun q h1 h2 => by (exact hl.own.dKW q h1 h2)), (fun q h1 h2 => by (exact hl.own.dGS q h1 h2)), (fun q h1 h2 => by (exact hl.own.dGW q h1 h2)), (fun q h1 h2 => by (exact hl.own.dGK q h1 h2)), (fun q h1 h2 => by (exact hl.own.dHS q h1 h2)), (fun q h1 h2 => by (exact hl.own.dHW q h1 h2)), (fun q h1 h2 => by (exact hl.own.dHK q h1 h2)), (fun q h1 h2 => by (exact hl.own.dHG q h1 h2)), ⟨okI_iff.2 (by (try dsimp only); omega), okI_iff.2 (by (try dsimp only); omega), okI_iff.2 (by (try dsimp only); omega)⟩⟩, hl.le, (fun q h1 h2 => by (exact hl.bS q h1 h2)), (fun q h1 h2 => by (exact hl.bW q h1 h2)), (fun q h1 h2 => by (exact hl.bK q h1 h2)), (fun q h1 h2 => by (exact hl.bG q h1 h2)), (fun q h1 h2 => by (exact hl.bH q h1 h2))⟩ hNx (inc_pw g9) hbd (by omega) (show tkN L.way x.at_ < (L.sent.length : Int) by omega) (show L.acks.length < 1000 by omega) (show L.held.length ≤ 200 by omega)).mono ?_)
            rintro e w_80 ⟨a_78, rfl, HR_78, HF_78, m_79⟩
            refine ⟨_, rfl, ?_⟩
            have q_81 := m_79.size
            have z_80 := z_75.md m_79 (fun q hq => .inl hq)
            refine nl <| nB <| nT <| sq <| rg <| vl (as_ rfl) rfl <| nl <| nT <| rt <| tR (.tmp rfl .nil) <| ?_
            have hstep : L.step x = (({ L with way := tkL L.way x.at_ x.keep } : Lnk).comes (tkN L.way x.at_), 0) := by
              try simp only [Bool.or_eq_true, Bool.or_eq_false_iff, Bool.and_eq_true, Bool.and_eq_false_iff, decide_eq_true_eq, decide_eq_false_iff_not, beq_iff_eq, bne_iff_ne, beq_eq_false_iff_ne, bne_eq_false_iff_eq, Bool.not_eq_true', Bool.not_eq_false', Bool.not_eq_true, Bool.not_eq_false, Int.not_lt, Int.not_le, Nat.not_lt, Nat.not_le, ne_eq, Classical.not_not] at h_8
              try simp only [Bool.or_eq_true, Bool.or_eq_false_iff, Bool.and_eq_true, Bool.and_eq_false_iff, decide_eq_true_eq, decide_eq_false_iff_not, beq_iff_eq, bne_iff_ne, beq_eq_false_iff_ne, bne_eq_false_iff_eq, Bool.not_eq_true', Bool.not_eq_false', Bool.not_eq_true, Bool.not_eq_false, Int.not_lt, Int.not_le, Nat.not_lt, Nat.not_le, ne_eq, Classical.not_not] at h_50
              try simp only [Bool.or_eq_true, Bool.or_eq_false_iff, Bool.and_eq_true, Bool.and_eq_false_iff, decide_eq_true_eq, decide_eq_false_iff_not, beq_iff_eq, bne_iff_ne, beq_eq_false_iff_ne, bne_eq_false_iff_eq, Bool.not_eq_true', Bool.not_eq_false', Bool.not_eq_true, Bool.not_eq_false, Int.not_lt, Int.not_le, Nat.not_lt, Nat.not_le, ne_eq, Classical.not_not] at h_55
              try simp only [Bool.or_eq_true, Bool.or_eq_false_iff, Bool.and_eq_true, Bool.and_eq_false_iff, decide_eq_true_eq, decide_eq_false_iff_not, beq_iff_eq, bne_iff_ne, beq_eq_false_iff_ne, bne_eq_false_iff_eq, Bool.not_eq_true', Bool.not_eq_false', Bool.not_eq_true, Bool.not_eq_false, Int.not_lt, Int.not_le, Nat.not_lt, Nat.not_le, ne_eq, Classical.not_not] at h_66
              try simp only [Bool.or_eq_true, Bool.or_eq_false_iff, Bool.and_eq_true, Bool.and_eq_false_iff, decide_eq_true_eq, decide_eq_false_iff_not, beq_iff_eq, bne_iff_ne, beq_eq_false_iff_ne, bne_eq_false_iff_eq, Bool.not_eq_true', Bool.not_eq_false', Bool.not_eq_true, Bool.not_eq_false, Int.not_lt, Int.not_le, Nat.not_lt, Nat.not_le, ne_eq, Classical.not_not] at h_67
              unfold Lnk.step; simp [h_8, h_50, h_55, h_66, h_67, htk]
            exact ⟨by rw [hstep]; rfl, fun _ => ⟨a_78, by rw [hstep]; exact HR_78, (fun q hq => (HF_78 q hq).imp id fun h => by omega)⟩, z_80⟩
      · refine sq <| rg <| vl (beq rfl rfl) rfl <| vl (as_ rfl) rfl <| nl <| nT <| ?_
        refine ceq rfl (fun h_82 => ?_) (fun h_82 => ?_)
        · refine sq <| ?_
          refine rd [(4, 0), (6, 0), (7, 3)] [0, 1, 2, 3, 4, 5, 6, 7, 8, 9, 10, 11, 12] (by kernel_rfl) (by kernel_rfl) ?_
          refine fw rfl rfl (fun _ => mv rfl) rfl <| fw rfl rfl (fun _ => nc rfl) rfl <| fw rfl rfl (fun _ => fa LnD_fd_api_Link_5 rfl) rfl <| fw rfl rfl (fun _ => fa LnD_fd_api_Event_1 rfl) rfl <| fq rfl rfl (fun _ x => ld rfl ((B_5.later x).one LnD_ag_int rfl)) rfl <| fw rfl rfl (fun _ => fa LnD_fd_api_Event_2 rfl) rfl <| fq rfl rfl (fun _ x => ld rfl ((B_5.later x).one LnD_ag_bool rfl)) rfl <| ?_
          have HB := HB.later x_3
          have OS := OS.later x_3
          have OW := OW.later x_3
          have OK := OK.later x_3
          have OG := OG.later x_3
          have OH := OH.later x_3
          refine fb rfl rfl rfl fun w_83 x_84 Q hK => ca LnD_en_link_taken rfl rfl ((taken_K w0 b a (⟨L.window, L.sent, L.base, L.next, L.way, L.acks, L.got, L.held⟩ : Lnk) x.at_ x.keep _ (Ext.tr (Ext.mod hx0 z_1 hgF) x_84) (LAt.later ⟨HB, ⟨OS, OW, OK, OG, OH, (fun q h1 h2 => by (exact hl.own.dWS q h1 h2)), (fun q h1 h2 => by (exact hl.own.dKS q h1 h2)), (fun q h1 h2 => by (exact hl.own.dKW q h1 h2)), (fun q h1 h2 => by (exact hl.own.dGS q h1 h2)), (fun q h1 h2 => by (exact hl.own.dGW q h1 h2)), (fun q h1 h2 => by (exact hl.own.dGK q h1 h2)), (fun q h1 h2 => by (exact hl.own.dHS q h1 h2)), (fun q h1 h2 => by (exact hl.own.dHW q h1 h2)), (fun q h1 h2 => by (exact hl.own.dHK q h1 h2)), (fun q h1 h2 => by (exact hl.own.dHG q h1 h2)), ⟨okI_iff.2 (by (try dsimp only); omega), okI_iff.2 (by (try dsimp only); omega), okI_iff.2 (by (try dsimp only); omega)⟩⟩, hl.le, (fun q h1 h2 => by (exact hl.bS q h1 h2)), (fun q h1 h2 => by (exact hl.bW q h1 h2)), (fun q h1 h2 => by (exact hl.bK q h1 h2)), (fun q h1 h2 => by (exact hl.bG q h1 h2)), (fun q h1 h2 => by (exact hl.bH q h1 h2))⟩ x_84)).mono ?_)
          rintro e w_87 ⟨rfl, HB_85, OT_85, m_86⟩
          refine ⟨_, rfl, hK _ _ ?_⟩
          have q_88 := x_84.size
          have z_83 := z_1.trans (Mod.of_ext x_84)
          have q_89 := m_86.size
          have z_87 := z_83.md m_86 (fun q hq => .inl ((List.mem_cons.1 hq).elim (fun e => by rw [e]; exact List.mem_cons_self) (fun h => in_lF_K h)))
          have HB_85 : Blk w_87 b [.int .i64 L.window, .slice a.S L.sent.length a.s, .int .i64 L.base, .int .i64 L.next, .slice a.W L.way.length a.w, .slice a.K ((tkL L.acks x.at_ x.keep).length) a.k, .slice a.G L.got.length a.g, .slice a.H L.held.length a.h] 55 (0, 0) := HB_85
          refine fw rfl rfl (fun _ => mv rfl) rfl <| fw rfl rfl (fun _ => ex rfl rfl) rfl <| fw rfl rfl (fun _ => ex rfl rfl) rfl <| fw rfl rfl (fun _ => as_ rfl) rfl <| fw rfl rfl (fun _ => as_ rfl) rfl <| fn fun w_90 x_91 => ?_
          have q_92 := x_91.size
          have z_90 := z_87.trans (Mod.of_ext x_91)
          refine nT <| sq <| sq <| rg <| vl (mv rfl) rfl <| vl (nt rfl) rfl <| nl <| nT <| ?_
          refine cb rfl (fun h_93 => ?_) (fun h_93 => ?_)
          · refine sq <| rg <| vl (as_ rfl) rfl <| nl <| nT <| rt <| tT <| tB <| tT <| tR (.tmp rfl .nil) <| ?_
            have hstep : L.step x = (L, 7) := by
              try simp only [Bool.or_eq_true, Bool.or_eq_false_iff, Bool.and_eq_true, Bool.and_eq_false_iff, decide_eq_true_eq, decide_eq_false_iff_not, beq_iff_eq, bne_iff_ne, beq_eq_false_iff_ne, bne_eq_false_iff_eq, Bool.not_eq_true', Bool.not_eq_false', Bool.not_eq_true, Bool.not_eq_false, Int.not_lt, Int.not_le, Nat.not_lt, Nat.not_le, ne_eq, Classical.not_not] at h_8
              try simp only [Bool.or_eq_true, Bool.or_eq_false_iff, Bool.and_eq_true, Bool.and_eq_false_iff, decide_eq_true_eq, decide_eq_false_iff_not, beq_iff_eq, bne_iff_ne, beq_eq_false_iff_ne, bne_eq_false_iff_eq, Bool.not_eq_true', Bool.not_eq_false', Bool.not_eq_true, Bool.not_eq_false, Int.not_lt, Int.not_le, Nat.not_lt, Nat.not_le, ne_eq, Classical.not_not] at h_50
              try simp only [Bool.or_eq_true, Bool.or_eq_false_iff, Bool.and_eq_true, Bool.and_eq_false_iff, decide_eq_true_eq, decide_eq_false_iff_not, beq_iff_eq, bne_iff_ne, beq_eq_false_iff_ne, bne_eq_false_iff_eq, Bool.not_eq_true', Bool.not_eq_false', Bool.not_eq_true, Bool.not_eq_false, Int.not_lt, Int.not_le, Nat.not_lt, Nat.not_le, ne_eq, Classical.not_not] at h_55
              try simp only [Bool.or_eq_true, Bool.or_eq_false_iff, Bool.and_eq_true, Bool.and_eq_false_iff, decide_eq_true_eq, decide_eq_false_iff_not, beq_iff_eq, bne_iff_ne, beq_eq_false_iff_ne, bne_eq_false_iff_eq, Bool.not_eq_true', Bool.not_eq_false', Bool.not_eq_true, Bool.not_eq_false, Int.not_lt, Int.not_le, Nat.not_lt, Nat.not_le, ne_eq, Classical.not_not] at h_82
              try simp only [Bool.or_eq_true, Bool.or_eq_false_iff, Bool.and_eq_true, Bool.and_eq_false_iff, decide_eq_true_eq, decide_eq_false_iff_not, beq_iff_eq, bne_iff_ne, beq_eq_false_iff_ne, bne_eq_false_iff_eq, Bool.not_eq_true', Bool.not_eq_false', Bool.not_eq_true, Bool.not_eq_false, Int.not_lt, Int.not_le, Nat.not_lt, Nat.not_le, ne_eq, Classical.not_not] at h_93
              unfold Lnk.step; simp [h_8, h_50, h_55, h_82, h_93]
            exact ⟨by rw [hstep]; rfl, fun h0 => by rw [hstep] at h0; simp at h0, z_90⟩
          · have htk : tkOk L.acks x.at_ = true := by simpa using h_93
            have hna := tkN_bd g7 htk
            refine sk <| nT <| sq <| rg <| vl (mv rfl) rfl <| vl (mv rfl) rfl <| vl (nc rfl) rfl <| vl (fa LnD_fd_api_Link_2 rfl) rfl <| ?_
            have HB_85 := HB_85.later x_91
            refine vl (ld rfl (HB_85.one LnD_ag_int rfl)) rfl <| vl (mv rfl) rfl <| vl (mx rfl rfl) rfl <| vl (nc rfl) rfl <| vl (fa LnD_fd_api_Link_2 rfl) rfl <| st (new := [.int .i64 L.window, .slice a.S L.sent.length a.s, .int .i64 (max L.base (tkN L.acks x.at_)), .int .i64 L.next, .slice a.W L.way.length a.w, .slice a.K ((tkL L.acks x.at_ x.keep).length) a.k, .slice a.G L.got.length a.g, .slice a.H L.held.length a.h]) rfl rfl HB_85 rfl LnD_sz_int rfl rfl rfl fun w_94 m_95 HB_85 => ?_
            have q_97 := m_95.size
            have z_94 := z_90.md m_95 (fun q hq => .inl (by rw [List.mem_singleton.1 hq]; exact List.mem_cons_self))
            have q_96 := m_95.size
            refine nl <| nT <| ?_
            refine rd [(4, 0), (8, 0), (12, 3)] [0, 1, 2, 3, 4, 5, 6, 7, 8, 9, 10, 11, 12] (by kernel_rfl) (by kernel_rfl) ?_
            refine fw rfl rfl (fun _ => mv rfl) rfl <| fw rfl rfl (fun _ => mv rfl) rfl <| fw rfl rfl (fun _ => nc rfl) rfl <| fw rfl rfl (fun _ => fa LnD_fd_api_Link_3 rfl) rfl <| fq rfl rfl (fun _ x => ld rfl ((HB_85.later x).one LnD_ag_int rfl)) rfl <| fw rfl rfl (fun _ => mv rfl) rfl <| fw rfl rfl (fun _ => nc rfl) rfl <| fw rfl rfl (fun _ => fa LnD_fd_api_Link_2 rfl) rfl <| fq rfl rfl (fun _ x => ld rfl ((HB_85.later x).one LnD_ag_int rfl)) rfl <| fw rfl rfl (fun _ => mx rfl rfl) rfl <| fw rfl rfl (fun _ => nc rfl) rfl <| fw rfl rfl (fun _ => fa LnD_fd_api_Link_3 rfl) rfl <| fb rfl rfl rfl fun w_98 x_99 Q hK => st (new := [.int .i64 L.window, .slice a.S L.sent.length a.s, .int .i64 (max L.base (tkN L.acks x.at_)), .int .i64 (max L.next (max L.base (tkN L.acks x.at_))), .slice a.W L.way.length a.w, .slice a.K ((tkL L.acks x.at_ x.keep).length) a.k, .slice a.G L.got.length a.g, .slice a.H L.held.length a.h]) rfl rfl (HB_85.later x_99) rfl LnD_sz_int rfl rfl rfl fun w_100 m_101 HB_85 => hK _ _ ?_
            have q_103 := x_99.size
            have z_98 := z_94.trans (Mod.of_ext x_99)
            have q_104 := m_101.size
            have z_100 := z_98.md m_101 (fun q hq => .inl (by rw [List.mem_singleton.1 hq]; exact List.mem_cons_self))
            have q_102 := m_101.size
            refine fn fun w_105 x_106 => ?_
            have q_107 := x_106.size
            have z_105 := z_100.trans (Mod.of_ext x_106)
            refine nB <| nT <| sq <| rg <| vl (as_ rfl) rfl <| nl <| nT <| rt <| tR (.tmp rfl .nil) <| ?_
            have hstep : L.step x = ((⟨L.window, L.sent, max L.base (tkN L.acks x.at_), max L.next (max L.base (tkN L.acks x.at_)), L.way, (tkL L.acks x.at_ x.keep), L.got, L.held⟩ : Lnk), 0) := by
              try simp only [Bool.or_eq_true, Bool.or_eq_false_iff, Bool.and_eq_true, Bool.and_eq_false_iff, decide_eq_true_eq, decide_eq_false_iff_not, beq_iff_eq, bne_iff_ne, beq_eq_false_iff_ne, bne_eq_false_iff_eq, Bool.not_eq_true', Bool.not_eq_false', Bool.not_eq_true, Bool.not_eq_false, Int.not_lt, Int.not_le, Nat.not_lt, Nat.not_le, ne_eq, Classical.not_not] at h_8
              try simp only [Bool.or_eq_true, Bool.or_eq_false_iff, Bool.and_eq_true, Bool.and_eq_false_iff, decide_eq_true_eq, decide_eq_false_iff_not, beq_iff_eq, bne_iff_ne, beq_eq_false_iff_ne, bne_eq_false_iff_eq, Bool.not_eq_true', Bool.not_eq_false', Bool.not_eq_true, Bool.not_eq_false, Int.not_lt, Int.not_le, Nat.not_lt, Nat.not_le, ne_eq, Classical.not_not] at h_50
              try simp only [Bool.or_eq_true, Bool.or_eq_false_iff, Bool.and_eq_true, Bool.and_eq_false_iff, decide_eq_true_eq, decide_eq_false_iff_not, beq_iff_eq, bne_iff_ne, beq_eq_false_iff_ne, bne_eq_false_iff_eq, Bool.not_eq_true', Bool.not_eq_false', Bool.not_eq_true, Bool.not_eq_false, Int.not_lt, Int.not_le, Nat.not_lt, Nat.not_le, ne_eq, Classical.not_not] at h_55
              try simp only [Bool.or_eq_true, Bool.or_eq_false_iff, Bool.and_eq_true, Bool.and_eq_false_iff, decide_eq_true_eq, decide_eq_false_iff_not, beq_iff_eq, bne_iff_ne, beq_eq_false_iff_ne, bne_eq_false_iff_eq, Bool.not_eq_true', Bool.not_eq_false', Bool.not_eq_true, Bool.not_eq_false, Int.not_lt, Int.not_le, Nat.not_lt, Nat.not_le, ne_eq, Classical.not_not] at h_82
              try simp only [Bool.or_eq_true, Bool.or_eq_false_iff, Bool.and_eq_true, Bool.and_eq_false_iff, decide_eq_true_eq, decide_eq_false_iff_not, beq_iff_eq, bne_iff_ne, beq_eq_false_iff_ne, bne_eq_false_iff_eq, Bool.not_eq_true', Bool.not_eq_false', Bool.not_eq_true, Bool.not_eq_false, Int.not_lt, Int.not_le, Nat.not_lt, Nat.not_le, ne_eq, Classical.not_not] at h_93
              unfold Lnk.step; simp [h_8, h_50, h_55, h_82, h_93, htk]
            have HB_85 := HB_85.later x_106
            have OS := OS.later x_84
            have OS := OS.mod m_86 (fun q hq h => (List.mem_cons.1 h).elim (fun h => by exfalso; (exact hl.bS q hq h)) (fun h => by exfalso; (exact hl.own.dKS q h hq)))
            have OS := OS.later x_91
            have OS := OS.mod m_95 (fun q hq h => by have hb := List.mem_singleton.1 h; exfalso; (exact hl.bS q hq hb))
            have OS := OS.later x_99
            have OS := OS.mod m_101 (fun q hq h => by have hb := List.mem_singleton.1 h; exfalso; (exact hl.bS q hq hb))
            have OS := OS.later x_106
            have OW := OW.later x_84
            have OW := OW.mod m_86 (fun q hq h => (List.mem_cons.1 h).elim (fun h => by exfalso; (exact hl.bW q hq h)) (fun h => by exfalso; (exact hl.own.dKW q h hq)))
            have OW := OW.later x_91
            have OW := OW.mod m_95 (fun q hq h => by have hb := List.mem_singleton.1 h; exfalso; (exact hl.bW q hq hb))
            have OW := OW.later x_99
            have OW := OW.mod m_101 (fun q hq h => by have hb := List.mem_singleton.1 h; exfalso; (exact hl.bW q hq hb))
            have OW := OW.later x_106
            have OT_85 := OT_85.later x_91
            have OT_85 := OT_85.mod m_95 (fun q hq h => by have hb := List.mem_singleton.1 h; exfalso; (exact hl.bK q hq hb))
            have OT_85 := OT_85.later x_99
            have OT_85 := OT_85.mod m_101 (fun q hq h => by have hb := List.mem_singleton.1 h; exfalso; (exact hl.bK q hq hb))
            have OT_85 := OT_85.later x_106
            have OG := OG.later x_84
            have OG := OG.mod m_86 (fun q hq h => (List.mem_cons.1 h).elim (fun h => by exfalso; (exact hl.bG q hq h)) (fun h => by exfalso; (exact hl.own.dGK q hq h)))
            have OG := OG.later x_91
            have OG := OG.mod m_95 (fun q hq h => by have hb := List.mem_singleton.1 h; exfalso; (exact hl.bG q hq hb))
            have OG := OG.later x_99
            have OG := OG.mod m_101 (fun q hq h => by have hb := List.mem_singleton.1 h; exfalso; (exact hl.bG q hq hb))
            have OG := OG.later x_106
            have OH := OH.later x_84
            have OH := OH.mod m_86 (fun q hq h => (List.mem_cons.1 h).elim (fun h => by exfalso; (exact hl.bH q hq h)) (fun h => by exfalso; (exact hl.own.dHK q hq h)))
            have OH := OH.later x_91
            have OH := OH.mod m_95 (fun q hq h => by have hb := List.mem_singleton.1 h; exfalso; (exact hl.bH q hq hb))
            have OH := OH.later x_99
            have OH := OH.mod m_101 (fun q hq h => by have hb := List.mem_singleton.1 h; exfalso; (exact hl.bH q hq hb))
            have OH := OH.later x_106
            exact ⟨by rw [hstep]; rfl, fun _ => ⟨⟨a.S, a.W, a.K, a.G, a.H, a.s, a.w, a.k, a.g, a.h⟩, by rw [hstep]; exact ⟨HB_85, OS, OW, OT_85, OG, (TOwn.of OH), (fun q h1 h2 => by (exact hl.own.dWS q h1 h2)), (fun q h1 h2 => by (exact hl.own.dKS q h1 h2)), (fun q h1 h2 => by (exact hl.own.dKW q h1 h2)), (fun q h1 h2 => by (exact hl.own.dGS q h1 h2)), (fun q h1 h2 => by (exact hl.own.dGW q h1 h2)), (fun q h1 h2 => by (exact hl.own.dGK q h1 h2)), (fun q h1 h2 => by (exact hl.own.dHS q h1 h2)), (fun q h1 h2 => by (exact hl.own.dHW q h1 h2)), (fun q h1 h2 => by (exact hl.own.dHK q h1 h2)), (fun q h1 h2 => by (exact hl.own.dHG q h1 h2)), ⟨okI_iff.2 (by (try dsimp only); omega), okI_iff.2 (by (try dsimp only); omega), okI_iff.2 (by (try dsimp only); omega)⟩, hl.le, (fun q h1 h2 => by (exact hl.bS q h1 h2)), (fun q h1 h2 => by (exact hl.bW q h1 h2)), (fun q h1 h2 => by (exact hl.bK q h1 h2)), (fun q h1 h2 => by (exact hl.bG q h1 h2)), (fun q h1 h2 => by (exact hl.bH q h1 h2))⟩, (lft_in (fun q hq => .inl (in_lF_S hq)) (fun q hq => .inl (in_lF_W hq)) (fun q hq => .inl (in_lF_K hq)) (fun q hq => .inl (in_lF_G hq)) (fun q hq => .inl (in_lF_H hq)))⟩, z_105⟩
        · refine sq <| rg <| vl (beq rfl rfl) rfl <| vl (as_ rfl) rfl <| nl <| nT <| ?_
          refine ceq rfl (fun h_108 => ?_) (fun h_108 => ?_)
          · refine sq <| rg <| vl (mv rfl) rfl <| vl (nc rfl) rfl <| vl (fa LnD_fd_api_Link_4 rfl) rfl <| vl (as_ rfl) rfl <| nl <| nT <| sq <| sq <| rg <| vl (fa LnD_fd_api_Event_2 rfl) rfl <| vl (ld rfl (B_5.one LnD_ag_bool rfl)) rfl <| nl <| nT <| ?_
            refine cb rfl (fun h_109 => ?_) (fun h_109 => ?_)
            · have hkp : x.keep = true := by simpa using h_109
              refine rg <| vl (mv rfl) rfl <| vl (nc rfl) rfl <| vl (fa LnD_fd_api_Link_5 rfl) rfl <| vl (as_ rfl) rfl <| nl <| nT <| sq <| rg <| vl (mv rfl) rfl <| vl (fa LnD_fd_api_Event_1 rfl) rfl <| vl (ld rfl (B_5.one LnD_ag_int rfl)) rfl <| ?_
              have HB := HB.later x_3
              have OS := OS.later x_3
              have OW := OW.later x_3
              have OK := OK.later x_3
              have OG := OG.later x_3
              have OH := OH.later x_3
              refine ca LnD_en_link_taken rfl rfl ((taken_K w0 b a (⟨L.window, L.sent, L.base, L.next, L.way, L.acks, L.got, L.held⟩ : Lnk) x.at_ false _ (Ext.mod hx0 z_1 hgF) ⟨HB, ⟨OS, OW, OK, OG, OH, (fun q h1 h2 => by (exact hl.own.dWS q h1 h2)), (fun q h1 h2 => by (exact hl.own.dKS q h1 h2)), (fun q h1 h2 => by (exact hl.own.dKW q h1 h2)), (fun q h1 h2 => by (exact hl.own.dGS q h1 h2)), (fun q h1 h2 => by (exact hl.own.dGW q h1 h2)), (fun q h1 h2 => by (exact hl.own.dGK q h1 h2)), (fun q h1 h2 => by (exact hl.own.dHS q h1 h2)), (fun q h1 h2 => by (exact hl.own.dHW q h1 h2)), (fun q h1 h2 => by (exact hl.own.dHK q h1 h2)), (fun q h1 h2 => by (exact hl.own.dHG q h1 h2)), ⟨okI_iff.2 (by (try dsimp only); omega), okI_iff.2 (by (try dsimp only); omega), okI_iff.2 (by (try dsimp only); omega)⟩⟩, hl.le, (fun q h1 h2 => by (exact hl.bS q h1 h2)), (fun q h1 h2 => by (exact hl.bW q h1 h2)), (fun q h1 h2 => by (exact hl.bK q h1 h2)), (fun q h1 h2 => by (exact hl.bG q h1 h2)), (fun q h1 h2 => by (exact hl.bH q h1 h2))⟩).mono ?_)
              rintro e w_112 ⟨rfl, HB_110, OT_110, m_111⟩
              refine ⟨_, rfl, ?_⟩
              have q_113 := m_111.size
              have z_112 := z_1.md m_111 (fun q hq => .inl ((List.mem_cons.1 hq).elim (fun e => by rw [e]; exact List.mem_cons_self) (fun h => in_lF_K h)))
              have HB_110 : Blk w_112 b [.int .i64 L.window, .slice a.S L.sent.length a.s, .int .i64 L.base, .int .i64 L.next, .slice a.W L.way.length a.w, .slice a.K ((tkL L.acks x.at_ false).length) a.k, .slice a.G L.got.length a.g, .slice a.H L.held.length a.h] 55 (0, 0) := HB_110
              refine vl (mv rfl) rfl <| vl (ex rfl rfl) rfl <| vl (ex rfl rfl) rfl <| vl (as_ rfl) rfl <| vl (as_ rfl) rfl <| nl <| nT <| sq <| rg <| vl (mv rfl) rfl <| vl (nt rfl) rfl <| nl <| nT <| ?_
              refine cb rfl (fun h_114 => ?_) (fun h_114 => ?_)
              · refine sq <| rg <| vl (as_ rfl) rfl <| nl <| nT <| rt <| tB <| tT <| tR (.tmp rfl .nil) <| ?_
                have hstep : L.step x = (L, 7) := by
                  try simp only [Bool.or_eq_true, Bool.or_eq_false_iff, Bool.and_eq_true, Bool.and_eq_false_iff, decide_eq_true_eq, decide_eq_false_iff_not, beq_iff_eq, bne_iff_ne, beq_eq_false_iff_ne, bne_eq_false_iff_eq, Bool.not_eq_true', Bool.not_eq_false', Bool.not_eq_true, Bool.not_eq_false, Int.not_lt, Int.not_le, Nat.not_lt, Nat.not_le, ne_eq, Classical.not_not] at h_8
                  try simp only [Bool.or_eq_true, Bool.or_eq_false_iff, Bool.and_eq_true, Bool.and_eq_false_iff, decide_eq_true_eq, decide_eq_false_iff_not, beq_iff_eq, bne_iff_ne, beq_eq_false_iff_ne, bne_eq_false_iff_eq, Bool.not_eq_true', Bool.not_eq_false', Bool.not_eq_true, Bool.not_eq_false, Int.not_lt, Int.not_le, Nat.not_lt, Nat.not_le, ne_eq, Classical.not_not] at h_50
                  try simp only [Bool.or_eq_true, Bool.or_eq_false_iff, Bool.and_eq_true, Bool.and_eq_false_iff, decide_eq_true_eq, decide_eq_false_iff_not, beq_iff_eq, bne_iff_ne, beq_eq_false_iff_ne, bne_eq_false_iff_eq, Bool.not_eq_true', Bool.not_eq_false', Bool.not_eq_true, Bool.not_eq_false, Int.not_lt, Int.not_le, Nat.not_lt, Nat.not_le, ne_eq, Classical.not_not] at h_55
                  try simp only [Bool.or_eq_true, Bool.or_eq_false_iff, Bool.and_eq_true, Bool.and_eq_false_iff, decide_eq_true_eq, decide_eq_false_iff_not, beq_iff_eq, bne_iff_ne, beq_eq_false_iff_ne, bne_eq_false_iff_eq, Bool.not_eq_true', Bool.not_eq_false', Bool.not_eq_true, Bool.not_eq_false, Int.not_lt, Int.not_le, Nat.not_lt, Nat.not_le, ne_eq, Classical.not_not] at h_82
                  try simp only [Bool.or_eq_true, Bool.or_eq_false_iff, Bool.and_eq_true, Bool.and_eq_false_iff, decide_eq_true_eq, decide_eq_false_iff_not, beq_iff_eq, bne_iff_ne, beq_eq_false_iff_ne, bne_eq_false_iff_eq, Bool.not_eq_true', Bool.not_eq_false', Bool.not_eq_true, Bool.not_eq_false, Int.not_lt, Int.not_le, Nat.not_lt, Nat.not_le, ne_eq, Classical.not_not] at h_108
                  try simp only [Bool.or_eq_true, Bool.or_eq_false_iff, Bool.and_eq_true, Bool.and_eq_false_iff, decide_eq_true_eq, decide_eq_false_iff_not, beq_iff_eq, bne_iff_ne, beq_eq_false_iff_ne, bne_eq_false_iff_eq, Bool.not_eq_true', Bool.not_eq_false', Bool.not_eq_true, Bool.not_eq_false, Int.not_lt, Int.not_le, Nat.not_lt, Nat.not_le, ne_eq, Classical.not_not] at h_109
                  try simp only [Bool.or_eq_true, Bool.or_eq_false_iff, Bool.and_eq_true, Bool.and_eq_false_iff, decide_eq_true_eq, decide_eq_false_iff_not, beq_iff_eq, bne_iff_ne, beq_eq_false_iff_ne, bne_eq_false_iff_eq, Bool.not_eq_true', Bool.not_eq_false', Bool.not_eq_true, Bool.not_eq_false, Int.not_lt, Int.not_le, Nat.not_lt, Nat.not_le, ne_eq, Classical.not_not] at h_114
                  unfold Lnk.step; simp [h_8, h_50, h_55, h_82, h_108, h_109, h_114, hkp]
                exact ⟨by rw [hstep]; rfl, fun h0 => by rw [hstep] at h0; simp at h0, z_112⟩
              · have htk : tkOk L.acks x.at_ = true := by simpa using h_114
                have hna := tkN_bd g7 htk
                refine sk <| nB <| nT <| sq <| rg <| vl (as_ rfl) rfl <| nl <| nT <| rt <| tR (.tmp rfl .nil) <| ?_
                have hstep : L.step x = ((⟨L.window, L.sent, L.base, L.next, L.way, (tkL L.acks x.at_ false), L.got, L.held⟩ : Lnk), 0) := by
                  try simp only [Bool.or_eq_true, Bool.or_eq_false_iff, Bool.and_eq_true, Bool.and_eq_false_iff, decide_eq_true_eq, decide_eq_false_iff_not, beq_iff_eq, bne_iff_ne, beq_eq_false_iff_ne, bne_eq_false_iff_eq, Bool.not_eq_true', Bool.not_eq_false', Bool.not_eq_true, Bool.not_eq_false, Int.not_lt, Int.not_le, Nat.not_lt, Nat.not_le, ne_eq, Classical.not_not] at h_8
                  try simp only [Bool.or_eq_true, Bool.or_eq_false_iff, Bool.and_eq_true, Bool.and_eq_false_iff, decide_eq_true_eq, decide_eq_false_iff_not, beq_iff_eq, bne_iff_ne, beq_eq_false_iff_ne, bne_eq_false_iff_eq, Bool.not_eq_true', Bool.not_eq_false', Bool.not_eq_true, Bool.not_eq_false, Int.not_lt, Int.not_le, Nat.not_lt, Nat.not_le, ne_eq, Classical.not_not] at h_50
                  try simp only [Bool.or_eq_true, Bool.or_eq_false_iff, Bool.and_eq_true, Bool.and_eq_false_iff, decide_eq_true_eq, decide_eq_false_iff_not, beq_iff_eq, bne_iff_ne, beq_eq_false_iff_ne, bne_eq_false_iff_eq, Bool.not_eq_true', Bool.not_eq_false', Bool.not_eq_true, Bool.not_eq_false, Int.not_lt, Int.not_le, Nat.not_lt, Nat.not_le, ne_eq, Classical.not_not] at h_55
                  try simp only [Bool.or_eq_true, Bool.or_eq_false_iff, Bool.and_eq_true, Bool.and_eq_false_iff, decide_eq_true_eq, decide_eq_false_iff_not, beq_iff_eq, bne_iff_ne, beq_eq_false_iff_ne, bne_eq_false_iff_eq, Bool.not_eq_true', Bool.not_eq_false', Bool.not_eq_true, Bool.not_eq_false, Int.not_lt, Int.not_le, Nat.not_lt, Nat.not_le, ne_eq, Classical.not_not] at h_82
                  try simp only [Bool.or_eq_true, Bool.or_eq_false_iff, Bool.and_eq_true, Bool.and_eq_false_iff, decide_eq_true_eq, decide_eq_false_iff_not, beq_iff_eq, bne_iff_ne, beq_eq_false_iff_ne, bne_eq_false_iff_eq, Bool.not_eq_true', Bool.not_eq_false', Bool.not_eq_true, Bool.not_eq_false, Int.not_lt, Int.not_le, Nat.not_lt, Nat.not_le, ne_eq, Classical.not_not] at h_108
                  try simp only [Bool.or_eq_true, Bool.or_eq_false_iff, Bool.and_eq_true, Bool.and_eq_false_iff, decide_eq_true_eq, decide_eq_false_iff_not, beq_iff_eq, bne_iff_ne, beq_eq_false_iff_ne, bne_eq_false_iff_eq, Bool.not_eq_true', Bool.not_eq_false', Bool.not_eq_true, Bool.not_eq_false, Int.not_lt, Int.not_le, Nat.not_lt, Nat.not_le, ne_eq, Classical.not_not] at h_109
                  try simp only [Bool.or_eq_true, Bool.or_eq_false_iff, Bool.and_eq_true, Bool.and_eq_false_iff, decide_eq_true_eq, decide_eq_false_iff_not, beq_iff_eq, bne_iff_ne, beq_eq_false_iff_ne, bne_eq_false_iff_eq, Bool.not_eq_true', Bool.not_eq_false', Bool.not_eq_true, Bool.not_eq_false, Int.not_lt, Int.not_le, Nat.not_lt, Nat.not_le, ne_eq, Classical.not_not] at h_114
                  unfold Lnk.step; simp [h_8, h_50, h_55, h_82, h_108, h_109, h_114, htk, hkp]
                have OS := OS.mod m_111 (fun q hq h => (List.mem_cons.1 h).elim (fun h => by exfalso; (exact hl.bS q hq h)) (fun h => by exfalso; (exact hl.own.dKS q h hq)))
                have OW := OW.mod m_111 (fun q hq h => (List.mem_cons.1 h).elim (fun h => by exfalso; (exact hl.bW q hq h)) (fun h => by exfalso; (exact hl.own.dKW q h hq)))
                have OG := OG.mod m_111 (fun q hq h => (List.mem_cons.1 h).elim (fun h => by exfalso; (exact hl.bG q hq h)) (fun h => by exfalso; (exact hl.own.dGK q hq h)))
                have OH := OH.mod m_111 (fun q hq h => (List.mem_cons.1 h).elim (fun h => by exfalso; (exact hl.bH q hq h)) (fun h => by exfalso; (exact hl.own.dHK q hq h)))
                exact ⟨by rw [hstep]; rfl, fun _ => ⟨⟨a.S, a.W, a.K, a.G, a.H, a.s, a.w, a.k, a.g, a.h⟩, by rw [hstep]; exact ⟨HB_110, OS, OW, OT_110, OG, (TOwn.of OH), (fun q h1 h2 => by (exact hl.own.dWS q h1 h2)), (fun q h1 h2 => by (exact hl.own.dKS q h1 h2)), (fun q h1 h2 => by (exact hl.own.dKW q h1 h2)), (fun q h1 h2 => by (exact hl.own.dGS q h1 h2)), (fun q h1 h2 => by (exact hl.own.dGW q h1 h2)), (fun q h1 h2 => by (exact hl.own.dGK q h1 h2)), (fun q h1 h2 => by (exact hl.own.dHS q h1 h2)), (fun q h1 h2 => by (exact hl.own.dHW q h1 h2)), (fun q h1 h2 => by (exact hl.own.dHK q h1 h2)), (fun q h1 h2 => by (exact hl.own.dHG q h1 h2)), ⟨okI_iff.2 (by (try dsimp only); omega), okI_iff.2 (by (try dsimp only); omega), okI_iff.2 (by (try dsimp only); omega)⟩, hl.le, (fun q h1 h2 => by (exact hl.bS q h1 h2)), (fun q h1 h2 => by (exact hl.bW q h1 h2)), (fun q h1 h2 => by (exact hl.bK q h1 h2)), (fun q h1 h2 => by (exact hl.bG q h1 h2)), (fun q h1 h2 => by (exact hl.bH q h1 h2))⟩, (lft_in (fun q hq => .inl (in_lF_S hq)) (fun q hq => .inl (in_lF_W hq)) (fun q hq => .inl (in_lF_K hq)) (fun q hq => .inl (in_lF_G hq)) (fun q hq => .inl (in_lF_H hq)))⟩, z_112⟩
            · have hkp : x.keep = false := by simpa using h_109
              refine sk <| nT <| sq <| rg <| vl (mv rfl) rfl <| vl (fa LnD_fd_api_Event_1 rfl) rfl <| vl (ld rfl (B_5.one LnD_ag_int rfl)) rfl <| ?_
              have HB := HB.later x_3
              have OS := OS.later x_3
              have OW := OW.later x_3
              have OK := OK.later x_3
              have OG := OG.later x_3
              have OH := OH.later x_3
              refine ca LnD_en_link_taken rfl rfl ((taken_W w0 b a (⟨L.window, L.sent, L.base, L.next, L.way, L.acks, L.got, L.held⟩ : Lnk) x.at_ false _ (Ext.mod hx0 z_1 hgF) ⟨HB, ⟨OS, OW, OK, OG, OH, (fun q h1 h2 => by (exact hl.own.dWS q h1 h2)), (fun q h1 h2 => by (exact hl.own.dKS q h1 h2)), (fun q h1 h2 => by (exact hl.own.dKW q h1 h2)), (fun q h1 h2 => by (exact hl.own.dGS q h1 h2)), (fun q h1 h2 => by (exact hl.own.dGW q h1 h2)), (fun q h1 h2 => by (exact hl.own.dGK q h1 h2)), (fun q h1 h2 => by (exact hl.own.dHS q h1 h2)), (fun q h1 h2 => by (exact hl.own.dHW q h1 h2)), (fun q h1 h2 => by (exact hl.own.dHK q h1 h2)), (fun q h1 h2 => by (exact hl.own.dHG q h1 h2)), ⟨okI_iff.2 (by (try dsimp only); omega), okI_iff.2 (by (try dsimp only); omega), okI_iff.2 (by (try dsimp only); omega)⟩⟩, hl.le, (fun q h1 h2 => by (exact hl.bS q h1 h2)), (fun q h1 h2 => by (exact hl.bW q h1 h2)), (fun q h1 h2 => by (exact hl.bK q h1 h2)), (fun q h1 h2 => by (exact hl.bG q h1 h2)), (fun q h1 h2 => by (exact hl.bH q h1 h2))⟩).mono ?_)
              rintro e w_117 ⟨rfl, HB_115, OT_115, m_116⟩
              refine ⟨_, rfl, ?_⟩
              have q_118 := m_116.size
              have z_117 := z_1.md m_116 (fun q hq => .inl ((List.mem_cons.1 hq).elim (fun e => by rw [e]; exact List.mem_cons_self) (fun h => in_lF_W h)))
              have HB_115 : Blk w_117 b [.int .i64 L.window, .slice a.S L.sent.length a.s, .int .i64 L.base, .int .i64 L.next, .slice a.W ((tkL L.way x.at_ false).length) a.w, .slice a.K L.acks.length a.k, .slice a.G L.got.length a.g, .slice a.H L.held.length a.h] 55 (0, 0) := HB_115
              refine vl (mv rfl) rfl <| vl (ex rfl rfl) rfl <| vl (ex rfl rfl) rfl <| vl (as_ rfl) rfl <| vl (as_ rfl) rfl <| nl <| nT <| sq <| rg <| vl (mv rfl) rfl <| vl (nt rfl) rfl <| nl <| nT <| ?_
              refine cb rfl (fun h_119 => ?_) (fun h_119 => ?_)
              · refine sq <| rg <| vl (as_ rfl) rfl <| nl <| nT <| rt <| tB <| tT <| tR (.tmp rfl .nil) <| ?_
                have hstep : L.step x = (L, 7) := by
                  try simp only [Bool.or_eq_true, Bool.or_eq_false_iff, Bool.and_eq_true, Bool.and_eq_false_iff, decide_eq_true_eq, decide_eq_false_iff_not, beq_iff_eq, bne_iff_ne, beq_eq_false_iff_ne, bne_eq_false_iff_eq, Bool.not_eq_true', Bool.not_eq_false', Bool.not_eq_true, Bool.not_eq_false, Int.not_lt, Int.not_le, Nat.not_lt, Nat.not_le, ne_eq, Classical.not_not] at h_8
                  try simp only [Bool.or_eq_true, Bool.or_eq_false_iff, Bool.and_eq_true, Bool.and_eq_false_iff, decide_eq_true_eq, decide_eq_false_iff_not, beq_iff_eq, bne_iff_ne, beq_eq_false_iff_ne, bne_eq_false_iff_eq, Bool.not_eq_true', Bool.not_eq_false', Bool.not_eq_true, Bool.not_eq_false, Int.not_lt, Int.not_le, Nat.not_lt, Nat.not_le, ne_eq, Classical.not_not] at h_50
                  try simp only [Bool.or_eq_true, Bool.or_eq_false_iff, Bool.and_eq_true, Bool.and_eq_false_iff, decide_eq_true_eq, decide_eq_false_iff_not, beq_iff_eq, bne_iff_ne, beq_eq_false_iff_ne, bne_eq_false_iff_eq, Bool.not_eq_true', Bool.not_eq_false', Bool.not_eq_true, Bool.not_eq_false, Int.not_lt, Int.not_le, Nat.not_lt, Nat.not_le, ne_eq, Classical.not_not] at h_55
                  try simp only [Bool.or_eq_true, Bool.or_eq_false_iff, Bool.and_eq_true, Bool.and_eq_false_iff, decide_eq_true_eq, decide_eq_false_iff_not, beq_iff_eq, bne_iff_ne, beq_eq_false_iff_ne, bne_eq_false_iff_eq, Bool.not_eq_true', Bool.not_eq_false', Bool.not_eq_true, Bool.not_eq_false, Int.not_lt, Int.not_le, Nat.not_lt, Nat.not_le, ne_eq, Classical.not_not] at h_82
                  try simp only [Bool.or_eq_true, Bool.or_eq_false_iff, Bool.and_eq_true, Bool.and_eq_false_iff, decide_eq_true_eq, decide_eq_false_iff_not, beq_iff_eq, bne_iff_ne, beq_eq_false_iff_ne, bne_eq_false_iff_eq, Bool.not_eq_true', Bool.not_eq_false', Bool.not_eq_true, Bool.not_eq_false, Int.not_lt, Int.not_le, Nat.not_lt, Nat.not_le, ne_eq, Classical.not_not] at h_108
                  try simp only [Bool.or_eq_true, Bool.or_eq_false_iff, Bool.and_eq_true, Bool.and_eq_false_iff, decide_eq_true_eq, decide_eq_false_iff_not, beq_iff_eq, bne_iff_ne, beq_eq_false_iff_ne, bne_eq_false_iff_eq, Bool.not_eq_true', Bool.not_eq_false', Bool.not_eq_true, Bool.not_eq_false, Int.not_lt, Int.not_le, Nat.not_lt, Nat.not_le, ne_eq, Classical.not_not] at h_109
                  try simp only [Bool.or_eq_true, Bool.or_eq_false_iff, Bool.and_eq_true, Bool.and_eq_false_iff, decide_eq_true_eq, decide_eq_false_iff_not, beq_iff_eq, bne_iff_ne, beq_eq_false_iff_ne, bne_eq_false_iff_eq, Bool.not_eq_true', Bool.not_eq_false', Bool.not_eq_true, Bool.not_eq_false, Int.not_lt, Int.not_le, Nat.not_lt, Nat.not_le, ne_eq, Classical.not_not] at h_119
                  unfold Lnk.step; simp [h_8, h_50, h_55, h_82, h_108, h_109, h_119, hkp]
                exact ⟨by rw [hstep]; rfl, fun h0 => by rw [hstep] at h0; simp at h0, z_117⟩
              · have htk : tkOk L.way x.at_ = true := by simpa using h_119
                refine sk <| nB <| nT <| sq <| rg <| vl (as_ rfl) rfl <| nl <| nT <| rt <| tR (.tmp rfl .nil) <| ?_
                have hstep : L.step x = ((⟨L.window, L.sent, L.base, L.next, (tkL L.way x.at_ false), L.acks, L.got, L.held⟩ : Lnk), 0) := by
                  try simp only [Bool.or_eq_true, Bool.or_eq_false_iff, Bool.and_eq_true, Bool.and_eq_false_iff, decide_eq_true_eq, decide_eq_false_iff_not, beq_iff_eq, bne_iff_ne, beq_eq_false_iff_ne, bne_eq_false_iff_eq, Bool.not_eq_true', Bool.not_eq_false', Bool.not_eq_true, Bool.not_eq_false, Int.not_lt, Int.not_le, Nat.not_lt, Nat.not_le, ne_eq, Classical.not_not] at h_8
                  try simp only [Bool.or_eq_true, Bool.or_eq_false_iff, Bool.and_eq_true, Bool.and_eq_false_iff, decide_eq_true_eq, decide_eq_false_iff_not, beq_iff_eq, bne_iff_ne, beq_eq_false_iff_ne, bne_eq_false_iff_eq, Bool.not_eq_true', Bool.not_eq_false', Bool.not_eq_true, Bool.not_eq_false, Int.not_lt, Int.not_le, Nat.not_lt, Nat.not_le, ne_eq, Classical.not_not] at h_50
                  try simp only [Bool.or_eq_true, Bool.or_eq_false_iff, Bool.and_eq_true, Bool.and_eq_false_iff, decide_eq_true_eq, decide_eq_false_iff_not, beq_iff_eq, bne_iff_ne, beq_eq_false_iff_ne, bne_eq_false_iff_eq, Bool.not_eq_true', Bool.not_eq_false', Bool.not_eq_true, Bool.not_eq_false, Int.not_lt, Int.not_le, Nat.not_lt, Nat.not_le, ne_eq, Classical.not_not] at h_55
                  try simp only [Bool.or_eq_true, Bool.or_eq_false_iff, Bool.and_eq_true, Bool.and_eq_false_iff, decide_eq_true_eq, decide_eq_false_iff_not, beq_iff_eq, bne_iff_ne, beq_eq_false_iff_ne, bne_eq_false_iff_eq, Bool.not_eq_true', Bool.not_eq_false', Bool.not_eq_true, Bool.not_eq_false, Int.not_lt, Int.not_le, Nat.not_lt, Nat.not_le, ne_eq, Classical.not_not] at h_82
                  try simp only [Bool.or_eq_true, Bool.or_eq_false_iff, Bool.and_eq_true, Bool.and_eq_false_iff, decide_eq_true_eq, decide_eq_false_iff_not, beq_iff_eq, bne_iff_ne, beq_eq_false_iff_ne, bne_eq_false_iff_eq, Bool.not_eq_true', Bool.not_eq_false', Bool.not_eq_true, Bool.not_eq_false, Int.not_lt, Int.not_le, Nat.not_lt, Nat.not_le, ne_eq, Classical.not_not] at h_108
                  try simp only [Bool.or_eq_true, Bool.or_eq_false_iff, Bool.and_eq_true, Bool.and_eq_false_iff, decide_eq_true_eq, decide_eq_false_iff_not, beq_iff_eq, bne_iff_ne, beq_eq_false_iff_ne, bne_eq_false_iff_eq, Bool.not_eq_true', Bool.not_eq_false', Bool.not_eq_true, Bool.not_eq_false, Int.not_lt, Int.not_le, Nat.not_lt, Nat.not_le, ne_eq, Classical.not_not] at h_109
                  try simp only [Bool.or_eq_true, Bool.or_eq_false_iff, Bool.and_eq_true, Bool.and_eq_false_iff, decide_eq_true_eq, decide_eq_false_iff_not, beq_iff_eq, bne_iff_ne, beq_eq_false_iff_ne, bne_eq_false_iff_eq, Bool.not_eq_true', Bool.not_eq_false', Bool.not_eq_true, Bool.not_eq_false, Int.not_lt, Int.not_le, Nat.not_lt, Nat.not_le, ne_eq, Classical.not_not] at h_119
                  unfold Lnk.step; simp [h_8, h_50, h_55, h_82, h_108, h_109, h_119, htk, hkp]
                have OS := OS.mod m_116 (fun q hq h => (List.mem_cons.1 h).elim (fun h => by exfalso; (exact hl.bS q hq h)) (fun h => by exfalso; (exact hl.own.dWS q h hq)))
                have OK := OK.mod m_116 (fun q hq h => (List.mem_cons.1 h).elim (fun h => by exfalso; (exact hl.bK q hq h)) (fun h => by exfalso; (exact hl.own.dKW q hq h)))
                have OG := OG.mod m_116 (fun q hq h => (List.mem_cons.1 h).elim (fun h => by exfalso; (exact hl.bG q hq h)) (fun h => by exfalso; (exact hl.own.dGW q hq h)))
                have OH := OH.mod m_116 (fun q hq h => (List.mem_cons.1 h).elim (fun h => by exfalso; (exact hl.bH q hq h)) (fun h => by exfalso; (exact hl.own.dHW q hq h)))
                exact ⟨by rw [hstep]; rfl, fun _ => ⟨⟨a.S, a.W, a.K, a.G, a.H, a.s, a.w, a.k, a.g, a.h⟩, by rw [hstep]; exact ⟨HB_115, OS, OT_115, OK, OG, (TOwn.of OH), (fun q h1 h2 => by (exact hl.own.dWS q h1 h2)), (fun q h1 h2 => by (exact hl.own.dKS q h1 h2)), (fun q h1 h2 => by (exact hl.own.dKW q h1 h2)), (fun q h1 h2 => by (exact hl.own.dGS q h1 h2)), (fun q h1 h2 => by (exact hl.own.dGW q h1 h2)), (fun q h1 h2 => by (exact hl.own.dGK q h1 h2)), (fun q h1 h2 => by (exact hl.own.dHS q h1 h2)), (fun q h1 h2 => by (exact hl.own.dHW q h1 h2)), (fun q h1 h2 => by (exact hl.own.dHK q h1 h2)), (fun q h1 h2 => by (exact hl.own.dHG q h1 h2)), ⟨okI_iff.2 (by (try dsimp only); omega), okI_iff.2 (by (try dsimp only); omega), okI_iff.2 (by (try dsimp only); omega)⟩, hl.le, (fun q h1 h2 => by (exact hl.bS q h1 h2)), (fun q h1 h2 => by (exact hl.bW q h1 h2)), (fun q h1 h2 => by (exact hl.bK q h1 h2)), (fun q h1 h2 => by (exact hl.bG q h1 h2)), (fun q h1 h2 => by (exact hl.bH q h1 h2))⟩, (lft_in (fun q hq => .inl (in_lF_S hq)) (fun q hq => .inl (in_lF_W hq)) (fun q hq => .inl (in_lF_K hq)) (fun q hq => .inl (in_lF_G hq)) (fun q hq => .inl (in_lF_H hq)))⟩, z_117⟩
          · refine sq <| rg <| vl (as_ rfl) rfl <| nl <| nT <| rt <| tB <| tT <| tR (.tmp rfl .nil) <| ?_
            have hstep : L.step x = (L, 1) := by
              try simp only [Bool.or_eq_true, Bool.or_eq_false_iff, Bool.and_eq_true, Bool.and_eq_false_iff, decide_eq_true_eq, decide_eq_false_iff_not, beq_iff_eq, bne_iff_ne, beq_eq_false_iff_ne, bne_eq_false_iff_eq, Bool.not_eq_true', Bool.not_eq_false', Bool.not_eq_true, Bool.not_eq_false, Int.not_lt, Int.not_le, Nat.not_lt, Nat.not_le, ne_eq, Classical.not_not] at h_8
              try simp only [Bool.or_eq_true, Bool.or_eq_false_iff, Bool.and_eq_true, Bool.and_eq_false_iff, decide_eq_true_eq, decide_eq_false_iff_not, beq_iff_eq, bne_iff_ne, beq_eq_false_iff_ne, bne_eq_false_iff_eq, Bool.not_eq_true', Bool.not_eq_false', Bool.not_eq_true, Bool.not_eq_false, Int.not_lt, Int.not_le, Nat.not_lt, Nat.not_le, ne_eq, Classical.not_not] at h_50
              try simp only [Bool.or_eq_true, Bool.or_eq_false_iff, Bool.and_eq_true, Bool.and_eq_false_iff, decide_eq_true_eq, decide_eq_false_iff_not, beq_iff_eq, bne_iff_ne, beq_eq_false_iff_ne, bne_eq_false_iff_eq, Bool.not_eq_true', Bool.not_eq_false', Bool.not_eq_true, Bool.not_eq_false, Int.not_lt, Int.not_le, Nat.not_lt, Nat.not_le, ne_eq, Classical.not_not] at h_55
              try simp only [Bool.or_eq_true, Bool.or_eq_false_iff, Bool.and_eq_true, Bool.and_eq_false_iff, decide_eq_true_eq, decide_eq_false_iff_not, beq_iff_eq, bne_iff_ne, beq_eq_false_iff_ne, bne_eq_false_iff_eq, Bool.not_eq_true', Bool.not_eq_false', Bool.not_eq_true, Bool.not_eq_false, Int.not_lt, Int.not_le, Nat.not_lt, Nat.not_le, ne_eq, Classical.not_not] at h_82
              try simp only [Bool.or_eq_true, Bool.or_eq_false_iff, Bool.and_eq_true, Bool.and_eq_false_iff, decide_eq_true_eq, decide_eq_false_iff_not, beq_iff_eq, bne_iff_ne, beq_eq_false_iff_ne, bne_eq_false_iff_eq, Bool.not_eq_true', Bool.not_eq_false', Bool.not_eq_true, Bool.not_eq_false, Int.not_lt, Int.not_le, Nat.not_lt, Nat.not_le, ne_eq, Classical.not_not] at h_108
              unfold Lnk.step; simp [h_8, h_50, h_55, h_82, h_108]
            exact ⟨by rw [hstep]; rfl, fun h0 => by rw [hstep] at h0; simp at h0, z_1⟩
end Go.Proofs.Ytfabhinehfhndaa
