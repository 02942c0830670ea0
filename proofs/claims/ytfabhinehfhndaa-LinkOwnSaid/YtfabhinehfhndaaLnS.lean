/-
  link.send. (Printed by bin/linksend.py.)
-/
import Derived.Test.YtfabhinehfhndaaLnT
import Derived.Test.YtfabhinehfhndaaLnK
set_option linter.unusedVariables false
set_option linter.unusedSimpArgs false
namespace Go.Proofs.Ytfabhinehfhndaa
open Go.RowKit

theorem LnS_fd_api_Link_2 : Fd Try.prog 55 2 2 := fun _ _ _ => by kernel_rfl
theorem LnS_ag_int : Ag Try.prog 3 false := fun _ => by kernel_rfl
theorem LnS_fd_api_Link_0 : Fd Try.prog 55 0 0 := fun _ _ _ => by kernel_rfl
theorem LnS_fd_api_Link_1 : Fd Try.prog 55 1 1 := fun _ _ _ => by kernel_rfl
theorem LnS_ag_S_string : Ag Try.prog 53 false := fun _ => by kernel_rfl
theorem LnS_fd_api_Link_4 : Fd Try.prog 55 4 4 := fun _ _ _ => by kernel_rfl
theorem LnS_ag_S_int : Ag Try.prog 38 false := fun _ => by kernel_rfl
theorem LnS_fd_api_Link_3 : Fd Try.prog 55 3 3 := fun _ _ _ => by kernel_rfl
theorem LnS_sz_int : Sz Try.prog 3 1 := fun _ => by kernel_rfl
theorem LnS_el_S_int : ElT Try.prog repI 38 3 8 := ElT.mk_ (z := .int .i64 0) (k := 1) Try.underlying38 info_int rfl rfl (by decide) (fun j u h => raw0I j u h)
theorem LnS_sz_S_int : Sz Try.prog 38 1 := fun _ => by kernel_rfl
/-- What is known of a right link's numbers. -/
def Lnk.Num (L : Lnk) : Prop := 1 ≤ L.window ∧ L.window ≤ 16 ∧ 0 ≤ L.base ∧ L.base ≤ (L.got.length : Int) ∧ L.got.length ≤ L.sent.length ∧ L.sent.length ≤ 200 ∧ L.way.length ≤ 1000 ∧ L.acks.length ≤ 1000 ∧ (L.got.length : Int) + (L.held.length : Int) ≤ L.next ∧ L.next ≤ L.base + L.window ∧ L.next ≤ (L.sent.length : Int)
theorem Lnk.chk_zero {L : Lnk} (h : L.chk = 0) : inB L.window 1 16 = true ∧ L.large = false ∧ L.good = true := by
  unfold Lnk.chk at h
  split at h
  · omega
  · rename_i h1
    split at h
    · omega
    · rename_i h2
      split at h
      · rename_i h3; exact ⟨by simpa using h1, by simpa using h2, h3⟩
      · omega
theorem Lnk.good_parts {L : Lnk} (h : L.good = true) : (L.got.length : Int) ≤ (L.sent.length : Int) ∧ L.got = L.sent.take L.got.length ∧ inB L.base 0 (L.got.length : Int) = true ∧ (L.held.length : Int) ≤ (L.sent.length : Int) ∧ inB L.next ((L.got.length : Int) + (L.held.length : Int)) (min (L.base + L.window) (L.sent.length : Int)) = true ∧ L.way.all (fun n => inB n 0 (L.next - 1)) = true ∧ L.acks.all (fun n => inB n 0 (L.got.length : Int)) = true ∧ L.held.all (fun n => inB n ((L.got.length : Int) + 1) (L.next - 1)) = true ∧ incB L.held = true := by
  unfold Lnk.good at h
  simp only [Bool.and_eq_true] at h
  obtain ⟨⟨⟨⟨⟨⟨⟨⟨h1, h2⟩, h3⟩, h4⟩, h5⟩, h6⟩, h7⟩, h8⟩, h9⟩ := h
  exact ⟨of_decide_eq_true h1, of_decide_eq_true h2, h3, of_decide_eq_true h4, h5, h6, h7, h8, h9⟩
theorem Lnk.num {L : Lnk} (h : L.chk = 0) : L.Num := by
  obtain ⟨h1, h2, h3⟩ := Lnk.chk_zero h
  obtain ⟨g1, g2, g3, g4, g5, _⟩ := Lnk.good_parts h3
  have h1 := inB_true h1
  have h2 := large_false h2
  have g3 := inB_true g3
  have g5 := inB_true g5
  exact ⟨by omega, by omega, by omega, by omega, by omega, by omega, by omega, by omega, by omega, by omega, by omega⟩
def sendN (b : Int) : Nat → List Int
  | 0 => []
  | j + 1 => sendN b j ++ [b + (j : Int)]
theorem sendN_len (b : Int) (j : Nat) : (sendN b j).length = j := by
  induction j with
  | zero => rfl
  | succ j ih => rw [sendN, List.length_append, ih]; rfl
def Lnk.send (L : Lnk) : Lnk × Int := if 1000 < (L.way.length : Int) + min (L.base + L.window) (L.sent.length : Int) - L.base then (L, 6) else ({ L with next := min (L.base + L.window) (L.sent.length : Int), way := L.way ++ sendN L.base (min (L.base + L.window) (L.sent.length : Int) - L.base).toNat }, 0)
theorem Lnk.send_full {L : Lnk} (h : 1000 < (L.way.length : Int) + min (L.base + L.window) (L.sent.length : Int) - L.base) : L.send = (L, 6) := by unfold Lnk.send; rw [if_pos h]
theorem Lnk.send_ok {L : Lnk} {j : Nat} (h : ¬ 1000 < (L.way.length : Int) + min (L.base + L.window) (L.sent.length : Int) - L.base) (ej : (min (L.base + L.window) (L.sent.length : Int) - L.base).toNat = j) : L.send = ({ L with next := min (L.base + L.window) (L.sent.length : Int), way := L.way ++ sendN L.base j }, 0) := by unfold Lnk.send; rw [if_neg h, ej]
set_option maxRecDepth 100000 in
set_option maxHeartbeats 400000 in
theorem lsend_any (w0 : World) (b : Nat) (a : Lnk.At) (L : Lnk) (w : World) (hx0 : Ext w0 w) (hl : LAt w w0.heap.size b a L) (hN : L.Num) :
    Calls Try.prog 72 #[.pointer (some ⟨b, 0, none⟩)] w (fun e w' => ∃ a', e = .returned (.int .i64 L.send.2) ∧ LAt w' w0.heap.size b a' L.send.1 ∧ (∀ q ∈ lft a', q ∈ lF b a ∨ w.heap.size ≤ q) ∧ Mod (lF b a) w w') := by
  have hx0s := hx0.size
  have HB := hl.blk
  have hZb := hl.le
  have qB := HB.lt
  have OS := hl.own.S
  have OW := hl.own.W
  have OK := hl.own.K
  have OG := hl.own.G
  have OH := hl.own.H
  have uS := fun q hq => (OS.lt q hq).2
  have uW := fun q hq => (OW.lt q hq).2
  have uK := fun q hq => (OK.lt q hq).2
  have uG := fun q hq => (OG.lt q hq).2
  have uH := fun q hq => (OH.lt q hq).2
  have lS : ∀ q ∈ Rep.blkOf a.S, w0.heap.size ≤ q := fun q hq => (OS.lt q hq).1
  have lW : ∀ q ∈ Rep.blkOf a.W, w0.heap.size ≤ q := fun q hq => (OW.lt q hq).1
  have lK : ∀ q ∈ Rep.blkOf a.K, w0.heap.size ≤ q := fun q hq => (OK.lt q hq).1
  have lG : ∀ q ∈ Rep.blkOf a.G, w0.heap.size ≤ q := fun q hq => (OG.lt q hq).1
  have lH : ∀ q ∈ Rep.blkOf a.H, w0.heap.size ≤ q := fun q hq => (OH.lt q hq).1
  have eS := OS.has.len_le
  have eW := OW.has.len_le
  have eK := OK.has.len_le
  have eG := OG.has.len_le
  have eH := OH.has.len_le
  have cS := OS.1
  have cW := OW.1
  have cK := OK.1
  have cG := OG.1
  have cH := OH.1
  have hgF := lF_ge hl
  have hn0 := okI_iff.1 hl.own.nums.1
  have hn1 := okI_iff.1 hl.own.nums.2.1
  have hn2 := okI_iff.1 hl.own.nums.2.2
  obtain ⟨n1, n2, n3, n4, n5, n6, n7, n8, n9, n10, n11⟩ := hN
  refine calls_W (n := 56) Try.func72 rfl rfl rfl ?_
  refine sq <| rg <| vl (as_ rfl) rfl <| nl <| nT <| sq <| ?_
  refine rd [(3, 0), (7, 0), (12, 0)] [0, 1, 2, 3, 4, 5, 6, 7, 8, 9, 10, 11, 12, 13, 14, 15] (by kernel_rfl) (by kernel_rfl) ?_
  refine fw rfl rfl (fun _ => mv rfl) rfl <| fw rfl rfl (fun _ => nc rfl) rfl <| fw rfl rfl (fun _ => fa LnS_fd_api_Link_2 rfl) rfl <| fq rfl rfl (fun _ x => ld rfl ((HB.later x).one LnS_ag_int rfl)) rfl <| fw rfl rfl (fun _ => mv rfl) rfl <| fw rfl rfl (fun _ => nc rfl) rfl <| fw rfl rfl (fun _ => fa LnS_fd_api_Link_0 rfl) rfl <| fq rfl rfl (fun _ x => ld rfl ((HB.later x).one LnS_ag_int rfl)) rfl <| fw rfl rfl (fun _ => bad rfl rfl (inI (by omega))) rfl <| fw rfl rfl (fun _ => mv rfl) rfl <| fw rfl rfl (fun _ => nc rfl) rfl <| fw rfl rfl (fun _ => fa LnS_fd_api_Link_1 rfl) rfl <| fq rfl rfl (fun _ x => ld rfl ((HB.later x).one LnS_ag_S_string rfl)) rfl <| fw rfl rfl (fun _ => ln Try.underlying53 rfl) rfl <| fw rfl rfl (fun _ => mn rfl rfl) rfl <| fw rfl rfl (fun _ => as_ rfl) rfl <| fn fun w_1 x_2 => ?_
  have q_3 := x_2.size
  have z_1 := (Mod.rf (lF b a) w).trans (Mod.of_ext x_2)
  refine nT <| sq <| sq <| ?_
  refine rd [(3, 0), (10, 0)] [0, 1, 2, 3, 4, 5, 6, 7, 8, 9, 10, 11, 12] (by kernel_rfl) (by kernel_rfl) ?_
  refine fw rfl rfl (fun _ => mv rfl) rfl <| fw rfl rfl (fun _ => nc rfl) rfl <| fw rfl rfl (fun _ => fa LnS_fd_api_Link_4 rfl) rfl <| ?_
  have HB := HB.later x_2
  refine fq rfl rfl (fun _ x => ld rfl ((HB.later x).one LnS_ag_S_int rfl)) rfl <| fw rfl rfl (fun _ => ln Try.underlying38 rfl) rfl <| fw rfl rfl (fun _ => mv rfl) rfl <| fw rfl rfl (fun _ => bad rfl rfl (inI (by omega))) rfl <| fw rfl rfl (fun _ => mv rfl) rfl <| fw rfl rfl (fun _ => nc rfl) rfl <| fw rfl rfl (fun _ => fa LnS_fd_api_Link_2 rfl) rfl <| fq rfl rfl (fun _ x => ld rfl ((HB.later x).one LnS_ag_int rfl)) rfl <| fw rfl rfl (fun _ => bsu rfl rfl (inI (by omega))) rfl <| fw rfl rfl (fun _ => bgt rfl rfl) rfl <| fn fun w_4 x_5 => ?_
  have q_6 := x_5.size
  have z_4 := z_1.trans (Mod.of_ext x_5)
  refine nT <| ?_
  refine clt rfl (fun h_7 => ?_) (fun h_7 => ?_)
  · refine sq <| rg <| vl (as_ rfl) rfl <| nl <| nT <| rt <| tT <| tR (.tmp rfl .nil) <| ?_
    have HB := HB.later x_5
    have OS := OS.later (Ext.tr x_2 x_5)
    have OW := OW.later (Ext.tr x_2 x_5)
    have OK := OK.later (Ext.tr x_2 x_5)
    have OG := OG.later (Ext.tr x_2 x_5)
    have OH := OH.later (Ext.tr x_2 x_5)
    exact ⟨⟨a.S, a.W, a.K, a.G, a.H, a.s, a.w, a.k, a.g, a.h⟩, by rw [Lnk.send_full (by omega)]; rfl, by rw [Lnk.send_full (by omega)]; exact ⟨HB, ⟨OS, OW, OK, OG, OH, (fun q h1 h2 => by (exact hl.own.dWS q h1 h2)), (fun q h1 h2 => by (exact hl.own.dKS q h1 h2)), (fun q h1 h2 => by (exact hl.own.dKW q h1 h2)), (fun q h1 h2 => by (exact hl.own.dGS q h1 h2)), (fun q h1 h2 => by (exact hl.own.dGW q h1 h2)), (fun q h1 h2 => by (exact hl.own.dGK q h1 h2)), (fun q h1 h2 => by (exact hl.own.dHS q h1 h2)), (fun q h1 h2 => by (exact hl.own.dHW q h1 h2)), (fun q h1 h2 => by (exact hl.own.dHK q h1 h2)), (fun q h1 h2 => by (exact hl.own.dHG q h1 h2)), ⟨okI_iff.2 (by (try dsimp only); omega), okI_iff.2 (by (try dsimp only); omega), okI_iff.2 (by (try dsimp only); omega)⟩⟩, hl.le, (fun q h1 h2 => by (exact hl.bS q h1 h2)), (fun q h1 h2 => by (exact hl.bW q h1 h2)), (fun q h1 h2 => by (exact hl.bK q h1 h2)), (fun q h1 h2 => by (exact hl.bG q h1 h2)), (fun q h1 h2 => by (exact hl.bH q h1 h2))⟩, (lft_in (fun q hq => .inl (in_lF_S hq)) (fun q hq => .inl (in_lF_W hq)) (fun q hq => .inl (in_lF_K hq)) (fun q hq => .inl (in_lF_G hq)) (fun q hq => .inl (in_lF_H hq))), z_4⟩
  · refine sk <| nT <| sq <| rg <| vl (mv rfl) rfl <| vl (mv rfl) rfl <| vl (nc rfl) rfl <| vl (fa LnS_fd_api_Link_3 rfl) rfl <| ?_
    have HB := HB.later x_5
    refine st (new := [.int .i64 L.window, .slice a.S L.sent.length a.s, .int .i64 L.base, .int .i64 (min (L.base + L.window) (L.sent.length : Int)), .slice a.W L.way.length a.w, .slice a.K L.acks.length a.k, .slice a.G L.got.length a.g, .slice a.H L.held.length a.h]) rfl rfl HB rfl LnS_sz_int rfl rfl rfl fun w_8 m_9 HB => ?_
    have q_11 := m_9.size
    have z_8 := z_4.md m_9 (fun q hq => .inl (by rw [List.mem_singleton.1 hq]; exact List.mem_cons_self))
    have q_10 := m_9.size
    refine nl <| nT <| sq <| sq <| rg <| vl (mv rfl) rfl <| vl (nc rfl) rfl <| vl (fa LnS_fd_api_Link_2 rfl) rfl <| vl (ld rfl (HB.one LnS_ag_int rfl)) rfl <| vl (as_ rfl) rfl <| nl <| nT <| bk <| ?_
    have OW := OW.later (Ext.tr x_2 x_5)
    have OW := OW.mod m_9 (fun q hq h => by have hb := List.mem_singleton.1 h; exfalso; (exact hl.bW q hq hb))
    have OS := OS.later (Ext.tr x_2 x_5)
    have OS := OS.mod m_9 (fun q hq h => by have hb := List.mem_singleton.1 h; exfalso; (exact hl.bS q hq hb))
    have OK := OK.later (Ext.tr x_2 x_5)
    have OK := OK.mod m_9 (fun q hq h => by have hb := List.mem_singleton.1 h; exfalso; (exact hl.bK q hq hb))
    have OG := OG.later (Ext.tr x_2 x_5)
    have OG := OG.mod m_9 (fun q hq h => by have hb := List.mem_singleton.1 h; exfalso; (exact hl.bG q hq hb))
    have OH := OH.later (Ext.tr x_2 x_5)
    have OH := OH.mod m_9 (fun q hq h => by have hb := List.mem_singleton.1 h; exfalso; (exact hl.bH q hq hb))
    refine lp (fun mI EI wI => ∃ j : Nat, ∃ A1 : Option Addr, ∃ c1 : Nat, EI = [(0, .pointer (some ⟨b, 0, none⟩)), (2, .int .i64 0), (3, .int .i64 (min (L.base + L.window) (L.sent.length : Int))), (4, .int .i64 (L.base + (j : Int)))] ∧ mI = (min (L.base + L.window) (L.sent.length : Int) - L.base).toNat - j ∧ Mod (lF b a) w wI ∧ repS.SOwn 9 16 wI w0.heap.size (Rep.blkOf (a.S)) (a.S) a.s (L.sent) ∧ repI.SOwn 3 8 wI w0.heap.size (Rep.blkOf (a.K)) (a.K) a.k (L.acks) ∧ repS.SOwn 9 16 wI w0.heap.size (Rep.blkOf (a.G)) (a.G) a.g (L.got) ∧ repI.SOwn 3 8 wI w0.heap.size (Rep.blkOf (a.H)) (a.H) a.h (L.held) ∧ Blk wI b [.int .i64 L.window, .slice a.S L.sent.length a.s, .int .i64 L.base, .int .i64 (min (L.base + L.window) (L.sent.length : Int)), .slice A1 ((L.way ++ sendN L.base j).length) c1, .slice a.K L.acks.length a.k, .slice a.G L.got.length a.g, .slice a.H L.held.length a.h] 55 (0, 0) ∧ repI.SOwn 3 8 wI w0.heap.size (Rep.blkOf (A1)) (A1) c1 (L.way ++ sendN L.base j) ∧ ((j : Int) ≤ min (L.base + L.window) (L.sent.length : Int) - L.base) ∧ (∀ q ∈ Rep.blkOf A1, q ∈ lF b a ∨ w.heap.size ≤ q) ∧ (∀ q ∈ Rep.blkOf A1, q = b → False) ∧ (∀ q ∈ Rep.blkOf A1, q ∈ Rep.blkOf a.S → False) ∧ (∀ q ∈ Rep.blkOf A1, q ∈ Rep.blkOf a.K → False) ∧ (∀ q ∈ Rep.blkOf A1, q ∈ Rep.blkOf a.G → False) ∧ (∀ q ∈ Rep.blkOf A1, q ∈ Rep.blkOf a.H → False)) _ _ ⟨0, a.W, a.w, rfl, rfl, z_8, OS, OK, OG, OH, (by simpa [sendN] using HB), (by simpa [sendN] using OW), by omega, (fun q hq => .inl (in_lF_W hq)), (fun q hq hb => by (exact hl.bW q hq hb)), (fun q hq hb => by (exact hl.own.dWS q hq hb)), (fun q hq hb => by (exact hl.own.dKW q hb hq)), (fun q hq hb => by (exact hl.own.dGW q hb hq)), (fun q hq hb => by (exact hl.own.dHW q hb hq))⟩ (.cons rfl (.cons rfl (.cons rfl (.cons (loI rfl (by first | omega | rfl | (simp <;> omega))) .nil)))) ?_
    rintro m_18 E_19 w_17 ⟨j, A1, c1, rfl, rfl, z_17, OS, OK, OG, OH, HB1, OW1, hj, zA1, d_12, d_13, d_14, d_15, d_16⟩
    have q_20 := z_17.size
    have u_21 := fun q hq => (OS.lt q hq).2
    have u_22 := fun q hq => (OK.lt q hq).2
    have u_23 := fun q hq => (OG.lt q hq).2
    have u_24 := fun q hq => (OH.lt q hq).2
    have q_25 := HB1.lt
    have u_26 := fun q hq => (OW1.lt q hq).2
    have hlj := sendN_len L.base j
    have gA1 : ∀ q ∈ Rep.blkOf A1, w0.heap.size ≤ q := fun q hq => (OW1.lt q hq).1
    refine sq <| sq <| rg <| vl (mv rfl) rfl <| vl (mv rfl) rfl <| vl (blt rfl rfl) rfl <| nl <| nT <| ?_
    refine clt rfl (fun h_27 => ?_) (fun h_27 => ?_)
    · refine sk <| nT <| sq <| bk <| rg <| vl (mv rfl) rfl <| vl (mv rfl) rfl <| vl (nc rfl) rfl <| vl (fa LnS_fd_api_Link_4 rfl) rfl <| vl (ld rfl (HB1.one LnS_ag_S_int rfl)) rfl <| vl (mv rfl) rfl <| bs (e := 3) (cs := [.int .i64 (L.base + (j : Int))]) rfl (fun _ => by kernel_rfl) rfl fun w_28 b_29 x_30 l_31 B_32 => ?_
      have q_33 := x_30.size
      have z_28 := z_17.trans (Mod.of_ext x_30)
      have q_34 := B_32.lt
      have OW1 := OW1.later x_30
      refine ap LnS_el_S_int Rep.flat_bare OW1 (Blk.has1 (R := repI) (by_ := 8) (q := L.base + (j : Int)) B_32 ⟨rfl, okI_iff.2 (by (try dsimp only); omega)⟩ (by decide)) rfl rfl (by rw [List.length_append, sendN_len]; simp only [List.length_cons, List.length_nil]; omega) (by rw [List.length_append, sendN_len]; simp only [List.length_cons, List.length_nil]; omega) (by omega) rfl fun w_35 A_36 c_37 m_38 O_39 g_40 n_41 => ?_
      have q_42 := m_38.size
      have z_35 := z_28.md m_38 zA1
      have u_43 := fun q hq => (O_39.lt q hq).2
      have q_44 := m_38.size
      refine vl (nc rfl) rfl <| vl (fa LnS_fd_api_Link_4 rfl) rfl <| ?_
      have HB1 := HB1.later x_30
      have HB1 := HB1.mod m_38 (fun hq => d_12 _ hq rfl)
      refine st (new := [.int .i64 L.window, .slice a.S L.sent.length a.s, .int .i64 L.base, .int .i64 (min (L.base + L.window) (L.sent.length : Int)), .slice A_36 ((L.way ++ sendN L.base j ++ [L.base + (j : Int)]).length) c_37, .slice a.K L.acks.length a.k, .slice a.G L.got.length a.g, .slice a.H L.held.length a.h]) rfl rfl HB1 rfl LnS_sz_S_int rfl rfl rfl fun w_45 m_46 HB1 => ?_
      have q_48 := m_46.size
      have z_45 := z_35.md m_46 (fun q hq => .inl (by rw [List.mem_singleton.1 hq]; exact List.mem_cons_self))
      have q_47 := m_46.size
      refine nl <| nB <| nT <| rg <| vl (mv rfl) rfl <| vl (bad rfl rfl (inI (by omega))) rfl <| vl (as_ rfl) rfl <| nl <| ?_
      have e1 : L.way ++ sendN L.base (j + 1) = L.way ++ sendN L.base j ++ [L.base + (j : Int)] := by rw [sendN, List.append_assoc]
      have zp_49 : ∀ q ∈ Rep.blkOf A1, q ∈ (lF b a) ∨ w.heap.size ≤ q := zA1
      have OS := OS.later x_30
      have OS := OS.mod m_38 (fun q hq h => by exfalso; (exact d_13 q h hq))
      have OS := OS.mod m_46 (fun q hq h => by have hb := List.mem_singleton.1 h; exfalso; (exact hl.bS q hq hb))
      have OK := OK.later x_30
      have OK := OK.mod m_38 (fun q hq h => by exfalso; (exact d_14 q h hq))
      have OK := OK.mod m_46 (fun q hq h => by have hb := List.mem_singleton.1 h; exfalso; (exact hl.bK q hq hb))
      have OG := OG.later x_30
      have OG := OG.mod m_38 (fun q hq h => by exfalso; (exact d_15 q h hq))
      have OG := OG.mod m_46 (fun q hq h => by have hb := List.mem_singleton.1 h; exfalso; (exact hl.bG q hq hb))
      have OH := OH.later x_30
      have OH := OH.mod m_38 (fun q hq h => by exfalso; (exact d_16 q h hq))
      have OH := OH.mod m_46 (fun q hq h => by have hb := List.mem_singleton.1 h; exfalso; (exact hl.bH q hq hb))
      have O_39 := O_39.mod m_46 (fun q hq h => by have hb := List.mem_singleton.1 h; exfalso; (exact Or.elim (g_40 q hq) (fun k_50 => by (exact d_12 q k_50 hb)) (fun k_50 => by omega)))
      exact nI _ _ ⟨j + 1, A_36, c_37, rfl, rfl, z_45, OS, OK, OG, OH, (by rw [e1]; exact HB1), (by rw [e1]; exact O_39), by omega, (fun q hq => (g_40 q hq).elim (zp_49 q) (fun h => .inr (by omega))), (fun q hq hb => by (exact Or.elim (g_40 q hq) (fun k_51 => by (exact d_12 q k_51 hb)) (fun k_51 => by omega))), (fun q hq hb => by (exact Or.elim (g_40 q hq) (fun k_52 => by (exact d_13 q k_52 hb)) (fun k_52 => by (have := u_21 q hb; have := uS q hb; omega)))), (fun q hq hb => by (exact Or.elim (g_40 q hq) (fun k_53 => by (exact d_14 q k_53 hb)) (fun k_53 => by (have := u_22 q hb; have := uK q hb; omega)))), (fun q hq hb => by (exact Or.elim (g_40 q hq) (fun k_54 => by (exact d_15 q k_54 hb)) (fun k_54 => by (have := u_23 q hb; have := uG q hb; omega)))), (fun q hq hb => by (exact Or.elim (g_40 q hq) (fun k_55 => by (exact d_16 q k_55 hb)) (fun k_55 => by (have := u_24 q hb; have := uH q hb; omega))))⟩ (by omega) (.cons rfl (.cons rfl (.cons rfl (.cons (loI rfl (by first | omega | rfl | (simp <;> omega))) .nil))))
    · refine xt <| xT <| xK <| xB <| nT <| sq <| rg <| vl (as_ rfl) rfl <| nl <| nT <| rt <| tR (.tmp rfl .nil) <| ?_
      have ej : (min (L.base + L.window) (L.sent.length : Int) - L.base).toNat = j := by omega
      exact ⟨⟨a.S, A1, a.K, a.G, a.H, a.s, c1, a.k, a.g, a.h⟩, by rw [Lnk.send_ok (by omega) ej]; rfl, by rw [Lnk.send_ok (by omega) ej]; exact ⟨HB1, ⟨OS, OW1, OK, OG, OH, (fun q h1 h2 => by (exact d_13 q h1 h2)), (fun q h1 h2 => by (exact hl.own.dKS q h1 h2)), (fun q h1 h2 => by (exact d_14 q h2 h1)), (fun q h1 h2 => by (exact hl.own.dGS q h1 h2)), (fun q h1 h2 => by (exact d_15 q h2 h1)), (fun q h1 h2 => by (exact hl.own.dGK q h1 h2)), (fun q h1 h2 => by (exact hl.own.dHS q h1 h2)), (fun q h1 h2 => by (exact d_16 q h2 h1)), (fun q h1 h2 => by (exact hl.own.dHK q h1 h2)), (fun q h1 h2 => by (exact hl.own.dHG q h1 h2)), ⟨okI_iff.2 (by (try dsimp only); omega), okI_iff.2 (by (try dsimp only); omega), okI_iff.2 (by (try dsimp only); omega)⟩⟩, hl.le, (fun q h1 h2 => by (exact hl.bS q h1 h2)), (fun q h1 h2 => by (exact d_12 q h1 h2)), (fun q h1 h2 => by (exact hl.bK q h1 h2)), (fun q h1 h2 => by (exact hl.bG q h1 h2)), (fun q h1 h2 => by (exact hl.bH q h1 h2))⟩, (lft_in (fun q hq => .inl (in_lF_S hq)) zA1 (fun q hq => .inl (in_lF_K hq)) (fun q hq => .inl (in_lF_G hq)) (fun q hq => .inl (in_lF_H hq))), z_17⟩
end Go.Proofs.Ytfabhinehfhndaa
