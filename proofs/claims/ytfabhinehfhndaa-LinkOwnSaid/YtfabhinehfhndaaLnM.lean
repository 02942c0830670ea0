/-
  link.comes. (Printed by bin/linkcome.py.)
-/
import Derived.Test.YtfabhinehfhndaaLnS
import Derived.Test.YtfabhinehfhndaaIns
import Derived.Test.YtfabhinehfhndaaFlW
set_option linter.unusedVariables false
set_option linter.unusedSimpArgs false
namespace Go.Proofs.Ytfabhinehfhndaa
open Go.RowKit

theorem LnM_fd_api_Link_7 : Fd Try.prog 55 7 7 := fun _ _ _ => by kernel_rfl
theorem LnM_ag_S_int : Ag Try.prog 38 false := fun _ => by kernel_rfl
theorem LnM_en_slices_BinarySearch_S_int_int_ : Enters Try.prog 90 := en Try.func90 (by kernel_rfl) (by kernel_rfl)
theorem LnM_fd_api_Link_6 : Fd Try.prog 55 6 6 := fun _ _ _ => by kernel_rfl
theorem LnM_ag_S_string : Ag Try.prog 53 false := fun _ => by kernel_rfl
theorem LnM_en_slices_Insert_S_int_int_ : Enters Try.prog 91 := en Try.func91 (by kernel_rfl) (by kernel_rfl)
theorem LnM_sz_S_int : Sz Try.prog 38 1 := fun _ => by kernel_rfl
theorem LnM_fd_api_Link_5 : Fd Try.prog 55 5 5 := fun _ _ _ => by kernel_rfl
theorem LnM_el_S_int : ElT Try.prog repI 38 3 8 := ElT.mk_ (z := .int .i64 0) (k := 1) Try.underlying38 info_int rfl rfl (by decide) (fun j u h => raw0I j u h)
theorem LnM_fd_api_Link_1 : Fd Try.prog 55 1 1 := fun _ _ _ => by kernel_rfl
theorem LnM_sz_string : Sz Try.prog 9 1 := fun _ => by kernel_rfl
theorem LnM_ag_string : Ag Try.prog 9 false := fun _ => by kernel_rfl
theorem LnM_el_S_string : ElT Try.prog repS 53 9 16 := ElT.mk_ (z := .string .empty) (k := 1) Try.underlying53 info_str rfl rfl (by decide) (fun j u h => raw0S j u h)
theorem LnM_sz_S_string : Sz Try.prog 53 1 := fun _ => by kernel_rfl
theorem LnM_sz_int : Sz Try.prog 3 1 := fun _ => by kernel_rfl
theorem LnM_ag_int : Ag Try.prog 3 false := fun _ => by kernel_rfl
/-- The tail of a slice of numbers of one's own. -/
structure TOwn (w : World) (Z : Nat) (A : Option Addr) (c : Nat) (l : List Int) : Prop where
  has : repI.SHas 8 w A c l
  lt : ∀ q ∈ Rep.blkOf A, Z ≤ q ∧ q < w.heap.size
  row : ∀ a, A = some a → ∃ cur, a = ⟨a.block, a.off, none⟩ ∧ Blk w a.block cur 3 (0, 0) ∧ a.off + c ≤ cur.length ∧ ∀ u ∈ cur, ∃ n : Int, u = .int .i64 n
theorem SHas.modI {A : Option Addr} {c : Nat} {l : List Int} {S : List Nat} {w w' : World} (h : repI.SHas 8 w A c l) (m : Mod S w w') (hlt : ∀ q ∈ Rep.blkOf A, q < w.heap.size) (hd : ∀ x ∈ Rep.blkOf A, x ∉ S) : repI.SHas 8 w' A c l := by
  obtain ⟨h1, h2, h3, h4, ess, h5, h6, h7⟩ := h
  refine ⟨h1, h2, h3, h4, ess, h5, h6, fun h0 => ?_⟩
  obtain ⟨b, o, rfl, hc⟩ := h7 h0
  refine ⟨b, o, rfl, fun j u hu => ?_⟩
  rw [← hc j u hu]
  have := m.block b (hlt b (List.mem_singleton.2 rfl)) (hd b (List.mem_singleton.2 rfl))
  simp only [World.cell?, this]
theorem TOwn.mod {A : Option Addr} {c Z : Nat} {l : List Int} {S : List Nat} {w w' : World} (h : TOwn w Z A c l) (m : Mod S w w') (hd : ∀ x ∈ Rep.blkOf A, x ∉ S) : TOwn w' Z A c l :=
  ⟨SHas.modI h.has m (fun q hq => (h.lt q hq).2) hd, fun q hq => ⟨(h.lt q hq).1, Nat.lt_of_lt_of_le (h.lt q hq).2 m.size⟩, fun a ha => by
    obtain ⟨cur, h0, h1, h2⟩ := h.row a ha
    exact ⟨cur, h0, h1.mod m (hd _ (by subst ha; exact List.mem_singleton.2 rfl)), h2⟩⟩
theorem TOwn.later {A : Option Addr} {c Z : Nat} {l : List Int} {w w' : World} (h : TOwn w Z A c l) (x : Ext w w') : TOwn w' Z A c l := h.mod (S := []) (Mod.of_ext x) fun _ _ h => by simp at h
theorem TOwn.of {A : Option Addr} {c Z : Nat} {l : List Int} {w : World} (h : repI.SOwn 3 8 w Z (Rep.blkOf A) A c l) : TOwn w Z A c l := by
  refine ⟨h.has, fun q hq => h.lt q hq, fun a ha => ?_⟩
  subst ha
  obtain ⟨_, ps, _, _, ho, _⟩ := id h
  obtain ⟨_, h2⟩ := ho
  rcases h2 with ⟨h2, _⟩ | ⟨g, cap, cur, hv, _⟩
  · cases h2
  · injection hv with hv
    injection hv with hv
    subst hv
    obtain ⟨cur, h1, _, _, h4, _, _, h7, _⟩ := ints_open h
    exact ⟨cur, rfl, h1, by rw [h4]; show 0 + c ≤ c; omega, h7⟩
theorem sA_in {A : Option Addr} {c lo s q : Nat} (h : q ∈ Rep.blkOf (sA A c lo s)) : q ∈ Rep.blkOf A := by
  unfold sA at h
  split at h
  · exact h
  · cases A with
    | none => exact h
    | some a =>
      have e : (a.add (lo * s)).block = a.block := by unfold Addr.add; split <;> rfl
      have h : q ∈ [(a.add (lo * s)).block] := h
      rw [e] at h; exact h
theorem TOwn.cut {A : Option Addr} {c Z : Nat} {l : List Int} {w : World} (h : TOwn w Z A c l) (h0 : 0 < l.length) : TOwn w Z (sA A c 1 1) (c - 1) (l.drop 1) := by
  have hc := h.has.1
  have hs := h.has.sub 1 l.length (by omega) (by omega)
  rw [List.take_of_length_le (by rw [List.length_drop]; exact Nat.le_refl _)] at hs
  refine ⟨hs, fun q hq => h.lt q (sA_in hq), fun a ha => ?_⟩
  unfold sA at ha
  split at ha
  · rename_i h1
    obtain ⟨cur, h9, h2, h3, h4⟩ := h.row a ha
    exact ⟨cur, h9, h2, by omega, h4⟩
  · cases A with
    | none => cases ha
    | some a0 =>
      obtain rfl := Option.some.inj ha
      obtain ⟨cur, h9, h2, h3, h4⟩ := h.row a0 rfl
      exact ⟨cur, rfl, h2, by show a0.off + 1 * 1 + (c - 1) ≤ cur.length; omega, h4⟩
/-- A link in a block of its own, as it is left: what is held may be a tail. -/
structure LRes (w : World) (Z b : Nat) (a : Lnk.At) (L : Lnk) : Prop where
  blk : Blk w b (Lnk.cells a L) 55 (0, 0)
  S : repS.SOwn 9 16 w Z (Rep.blkOf a.S) a.S a.s L.sent
  W : repI.SOwn 3 8 w Z (Rep.blkOf a.W) a.W a.w L.way
  K : repI.SOwn 3 8 w Z (Rep.blkOf a.K) a.K a.k L.acks
  G : repS.SOwn 9 16 w Z (Rep.blkOf a.G) a.G a.g L.got
  H : TOwn w Z a.H a.h L.held
  dWS : ∀ q ∈ Rep.blkOf a.W, q ∈ Rep.blkOf a.S → False
  dKS : ∀ q ∈ Rep.blkOf a.K, q ∈ Rep.blkOf a.S → False
  dKW : ∀ q ∈ Rep.blkOf a.K, q ∈ Rep.blkOf a.W → False
  dGS : ∀ q ∈ Rep.blkOf a.G, q ∈ Rep.blkOf a.S → False
  dGW : ∀ q ∈ Rep.blkOf a.G, q ∈ Rep.blkOf a.W → False
  dGK : ∀ q ∈ Rep.blkOf a.G, q ∈ Rep.blkOf a.K → False
  dHS : ∀ q ∈ Rep.blkOf a.H, q ∈ Rep.blkOf a.S → False
  dHW : ∀ q ∈ Rep.blkOf a.H, q ∈ Rep.blkOf a.W → False
  dHK : ∀ q ∈ Rep.blkOf a.H, q ∈ Rep.blkOf a.K → False
  dHG : ∀ q ∈ Rep.blkOf a.H, q ∈ Rep.blkOf a.G → False
  nums : okI L.window ∧ okI L.base ∧ okI L.next
  le : Z ≤ b
  bS : ∀ q ∈ Rep.blkOf a.S, q = b → False
  bW : ∀ q ∈ Rep.blkOf a.W, q = b → False
  bK : ∀ q ∈ Rep.blkOf a.K, q = b → False
  bG : ∀ q ∈ Rep.blkOf a.G, q = b → False
  bH : ∀ q ∈ Rep.blkOf a.H, q = b → False
theorem LRes.has {w : World} {Z b : Nat} {a : Lnk.At} {L : Lnk} (h : LRes w Z b a L) : Lnk.Has w a L := ⟨h.S.has, h.W.has, h.K.has, h.G.has, h.H.has, h.nums⟩
theorem LAt.res {w : World} {Z b : Nat} {a : Lnk.At} {L : Lnk} (h : LAt w Z b a L) : LRes w Z b a L := ⟨h.blk, h.own.S, h.own.W, h.own.K, h.own.G, TOwn.of h.own.H, h.own.dWS, h.own.dKS, h.own.dKW, h.own.dGS, h.own.dGW, h.own.dGK, h.own.dHS, h.own.dHW, h.own.dHK, h.own.dHG, h.own.nums, h.le, h.bS, h.bW, h.bK, h.bG, h.bH⟩
theorem okS_get {A : Option Addr} {c i : Nat} {l : List ByteArray} {w : World} (h : repS.SHas 16 w A c l) (hi : i < l.length) : (l.getD i ByteArray.empty).size ≤ 140737488351232 := by
  obtain ⟨_, _, _, _, ess, h5, _⟩ := h
  obtain ⟨es, _, h6⟩ := h5.at_ (get_d (u := ByteArray.empty) hi)
  exact h6.2
/-- What was held, as far as it goes on where the other ends. -/
def fillL (S : List ByteArray) : List ByteArray → List Int → List ByteArray × List Int
  | g, [] => (g, [])
  | g, h :: r => if h = (g.length : Int) then fillL S (g ++ [S.getD h.toNat ByteArray.empty]) r else (g, h :: r)
def insL (l : List Int) (x : Int) : List Int := l.take (binI l x) ++ x :: l.drop (binI l x)
def Lnk.comes (L : Lnk) (n : Int) : Lnk :=
  if (L.got.length : Int) < n ∧ ¬ n ∈ L.held then { L with held := insL L.held n, acks := L.acks ++ [(L.got.length : Int)] }
  else if n = (L.got.length : Int) then { L with got := (fillL L.sent (L.got ++ [L.sent.getD n.toNat ByteArray.empty]) L.held).1, held := (fillL L.sent (L.got ++ [L.sent.getD n.toNat ByteArray.empty]) L.held).2, acks := L.acks ++ [((fillL L.sent (L.got ++ [L.sent.getD n.toNat ByteArray.empty]) L.held).1.length : Int)] }
  else { L with acks := L.acks ++ [(L.got.length : Int)] }
section
variable {L : Lnk} {n : Int} {S G : List ByteArray} {r : List Int} {k : Nat}
theorem comes_ins (h : (decide ((L.got.length : Int) < n) && !(L.held.contains n)) = true) : L.comes n = { L with held := insL L.held n, acks := L.acks ++ [(L.got.length : Int)] } := by
  unfold Lnk.comes; rw [if_pos (by simpa using h)]
theorem comes_fill (h : (decide ((L.got.length : Int) < n) && !(L.held.contains n)) = false) (h2 : n = (L.got.length : Int)) (hf : fillL L.sent (L.got ++ [L.sent.getD n.toNat ByteArray.empty]) L.held = (G, r)) : L.comes n = { L with got := G, held := r, acks := L.acks ++ [(G.length : Int)] } := by
  unfold Lnk.comes; rw [if_neg (by intro hh; rw [Bool.and_eq_false_iff] at h; rcases h with h | h <;> simp_all), if_pos h2, hf]
theorem comes_none (h : (decide ((L.got.length : Int) < n) && !(L.held.contains n)) = false) (h2 : ¬ n = (L.got.length : Int)) : L.comes n = { L with acks := L.acks ++ [(L.got.length : Int)] } := by
  unfold Lnk.comes; rw [if_neg (by intro hh; rw [Bool.and_eq_false_iff] at h; rcases h with h | h <;> simp_all), if_neg h2]
theorem fill_step (h0 : 0 < r.length) (h : r.getD 0 0 = (G.length : Int)) : fillL S (G ++ [S.getD (r.getD 0 0).toNat ByteArray.empty]) (r.drop 1) = fillL S G r := by
  cases r with
  | nil => simp at h0
  | cons y r => simp only [List.getD_cons_zero] at h; simp only [List.drop_succ_cons, List.drop_zero, List.getD_cons_zero, fillL, if_pos h]
theorem fill_end (h : r.length = 0 ∨ ¬ r.getD 0 0 = (G.length : Int)) : fillL S G r = (G, r) := by
  cases r with
  | nil => rfl
  | cons y r => rcases h with h | h
                · simp at h
                · simp only [List.getD_cons_zero] at h; simp only [fillL, if_neg h]
end
set_option maxRecDepth 100000 in
set_option maxHeartbeats 400000 in
theorem lcomes_any (w0 : World) (b : Nat) (a : Lnk.At) (L : Lnk) (k : Nat) (w : World) (hx0 : Ext w0 w) (hl : LAt w w0.heap.size b a L) (hN : L.Num) (hs : L.held.Pairwise (· ≤ ·)) (hbd : ∀ y ∈ L.held, 0 ≤ y ∧ y < (L.sent.length : Int)) (hk : k < L.sent.length) (hac : L.acks.length < 1000) (hhl : L.held.length ≤ 200) :
    Calls Try.prog 74 #[.pointer (some ⟨b, 0, none⟩), .int .i64 (k : Int)] w (fun e w' => ∃ a', e = .returned (.tuple #[]) ∧ LRes w' w0.heap.size b a' (L.comes (k : Int)) ∧ (∀ q ∈ lft a', q ∈ lF b a ∨ w.heap.size ≤ q) ∧ Mod (lF b a) w w') := by
  have hx0s := hx0.size
  have HB := hl.blk
  have hZb := hl.le
  have qB := HB.lt
  have OS := hl.own.S
  have OW := hl.own.W
  have OK := hl.own.K
  have OG := hl.own.G
  have OH := hl.own.H
  have uS := fun q hq => (OS.lt q hq).2
  have uW := fun q hq => (OW.lt q hq).2
  have uK := fun q hq => (OK.lt q hq).2
  have uG := fun q hq => (OG.lt q hq).2
  have uH := fun q hq => (OH.lt q hq).2
  have lS : ∀ q ∈ Rep.blkOf a.S, w0.heap.size ≤ q := fun q hq => (OS.lt q hq).1
  have lW : ∀ q ∈ Rep.blkOf a.W, w0.heap.size ≤ q := fun q hq => (OW.lt q hq).1
  have lK : ∀ q ∈ Rep.blkOf a.K, w0.heap.size ≤ q := fun q hq => (OK.lt q hq).1
  have lG : ∀ q ∈ Rep.blkOf a.G, w0.heap.size ≤ q := fun q hq => (OG.lt q hq).1
  have lH : ∀ q ∈ Rep.blkOf a.H, w0.heap.size ≤ q := fun q hq => (OH.lt q hq).1
  have eS := OS.has.len_le
  have eW := OW.has.len_le
  have eK := OK.has.len_le
  have eG := OG.has.len_le
  have eH := OH.has.len_le
  have cS := OS.1
  have cW := OW.1
  have cK := OK.1
  have cG := OG.1
  have cH := OH.1
  have hgF := lF_ge hl
  have hn0 := okI_iff.1 hl.own.nums.1
  have hn1 := okI_iff.1 hl.own.nums.2.1
  have hn2 := okI_iff.1 hl.own.nums.2.2
  obtain ⟨n1, n2, n3, n4, n5, n6, n7, n8, n9, n10, n11⟩ := hN
  refine calls_W (n := 125) Try.func74 rfl rfl rfl ?_
  refine sq <| sq <| rg <| vl (mv rfl) rfl <| vl (nc rfl) rfl <| vl (fa LnM_fd_api_Link_7 rfl) rfl <| vl (ld rfl (HB.one LnM_ag_S_int rfl)) rfl <| vl (mv rfl) rfl <| ca LnM_en_slices_BinarySearch_S_int_int_ rfl rfl ((binsearch_any _ _ L.held (k : Int) _ OH.has hs).mono ?_)
  rintro e w_1 ⟨rfl, x_2⟩
  refine ⟨_, rfl, ?_⟩
  have q_3 := x_2.size
  have z_1 := (Mod.rf (lF b a) w).trans (Mod.of_ext x_2)
  refine vl (mv rfl) rfl <| vl (ex rfl rfl) rfl <| vl (ex rfl rfl) rfl <| vl (as_ rfl) rfl <| vl (as_ rfl) rfl <| nl <| nT <| bk <| sq <| rg <| vl (mv rfl) rfl <| vl (mv rfl) rfl <| vl (nc rfl) rfl <| vl (fa LnM_fd_api_Link_6 rfl) rfl <| ?_
  have HB := HB.later x_2
  refine vl (ld rfl (HB.one LnM_ag_S_string rfl)) rfl <| vl (ln Try.underlying53 rfl) rfl <| vl (bgt rfl rfl) rfl <| vl (mv rfl) rfl <| vQ rfl rfl rfl rfl (fun hc => mv rfl) rfl <| vQ rfl rfl rfl rfl (fun hc => nt (gt hc rfl)) rfl <| vl (pA rfl rfl rfl rfl) rfl <| vl (as_ rfl) rfl <| nl <| nT <| ?_
  refine cb rfl (fun h_4 => ?_) (fun h_4 => ?_)
  · refine rg <| vl (mv rfl) rfl <| vl (mv rfl) rfl <| vl (nc rfl) rfl <| vl (fa LnM_fd_api_Link_7 rfl) rfl <| vl (ld rfl (HB.one LnM_ag_S_int rfl)) rfl <| vl (mv rfl) rfl <| vl (mv rfl) rfl <| bs (e := 3) (cs := [.int .i64 (k : Int)]) rfl (fun _ => by kernel_rfl) rfl fun w_5 b_6 x_7 l_8 B_9 => ?_
    have q_10 := x_7.size
    have z_5 := z_1.trans (Mod.of_ext x_7)
    have q_11 := B_9.lt
    have OH := OH.later (Ext.tr x_2 x_7)
    have d_14 : ∀ q ∈ Rep.blkOf a.H, q = b_6 → False := fun q hq hb => by (have := uH q hq; omega)
    refine ca LnM_en_slices_Insert_S_int_int_ rfl rfl ((ins_any w0 _ _ (binI L.held (k : Int)) _ L.held (k : Int) _ (Ext.mod hx0 z_5 hgF) OH (binI_le _ _) (by omega) (okI_iff.2 (by omega)) B_9 d_14).mono ?_)
    rintro e w_15 ⟨A_12, c_12, rfl, O_12, g_12, m_13⟩
    refine ⟨_, rfl, ?_⟩
    have q_16 := m_13.size
    have z_15 := z_5.md m_13 (fun q hq => .inl (in_lF_H hq))
    have u_12 := fun q hq => (O_12.lt q hq).2
    have l_12 : ∀ q ∈ Rep.blkOf A_12, w0.heap.size ≤ q := fun q hq => (O_12.lt q hq).1
    refine vl (nc rfl) rfl <| vl (fa LnM_fd_api_Link_7 rfl) rfl <| ?_
    have HB := HB.later x_7
    have HB := HB.mod m_13 (fun hq => hl.bH _ hq rfl)
    refine st (new := [.int .i64 L.window, .slice a.S L.sent.length a.s, .int .i64 L.base, .int .i64 L.next, .slice a.W L.way.length a.w, .slice a.K L.acks.length a.k, .slice a.G L.got.length a.g, .slice A_12 ((insL L.held (k : Int)).length) c_12]) rfl rfl HB rfl LnM_sz_S_int rfl rfl rfl fun w_17 m_18 HB => ?_
    have q_20 := m_18.size
    have z_17 := z_15.md m_18 (fun q hq => .inl (by rw [List.mem_singleton.1 hq]; exact List.mem_cons_self))
    have q_19 := m_18.size
    refine nl <| nB <| nT <| ?_
    refine rd [(4, 0), (8, 0), (10, 2), (11, 3), (14, 3)] [0, 1, 2, 3, 4, 5, 6, 7, 8, 9, 10, 11, 12, 13, 14] (by kernel_rfl) (by kernel_rfl) ?_
    refine fw rfl rfl (fun _ => mv rfl) rfl <| fw rfl rfl (fun _ => mv rfl) rfl <| fw rfl rfl (fun _ => nc rfl) rfl <| fw rfl rfl (fun _ => fa LnM_fd_api_Link_5 rfl) rfl <| fq rfl rfl (fun _ x => ld rfl ((HB.later x).one LnM_ag_S_int rfl)) rfl <| fw rfl rfl (fun _ => mv rfl) rfl <| fw rfl rfl (fun _ => nc rfl) rfl <| fw rfl rfl (fun _ => fa LnM_fd_api_Link_6 rfl) rfl <| fq rfl rfl (fun _ x => ld rfl ((HB.later x).one LnM_ag_S_string rfl)) rfl <| fw rfl rfl (fun _ => ln Try.underlying53 rfl) rfl <| fx rfl rfl rfl fun w_21 x_22 Q hK => bs (e := 3) (cs := [.int .i64 (L.got.length : Int)]) rfl (fun _ => by kernel_rfl) rfl fun w_23 b_24 x_25 l_26 B_27 => hK _ _ ⟨Ext.tr x_22 x_25, ?_⟩
    have q_28 := x_22.size
    have z_21 := z_17.trans (Mod.of_ext x_22)
    have q_29 := x_25.size
    have z_23 := z_21.trans (Mod.of_ext x_25)
    have q_30 := B_27.lt
    have OK := OK.later (Ext.tr x_2 x_7)
    have OK := OK.mod m_13 (fun q hq h => by exfalso; (exact hl.own.dHK q h hq))
    have OK := OK.mod m_18 (fun q hq h => by have hb := List.mem_singleton.1 h; exfalso; (exact hl.bK q hq hb))
    have OK := OK.later (Ext.tr x_22 x_25)
    refine fb rfl rfl rfl fun w_31 x_32 Q hK => ap LnM_el_S_int Rep.flat_bare (OK.later x_32) ((Blk.has1 (R := repI) (by_ := 8) (q := (L.got.length : Int)) B_27 ⟨rfl, okI_iff.2 (by (try dsimp only); omega)⟩ (by decide)).keep x_32) rfl rfl (by simp only [List.length_append, List.length_cons, List.length_nil]; omega) (by simp only [List.length_append, List.length_cons, List.length_nil]; omega) (by have := x_32.size; omega) rfl fun w_33 A_34 c_35 m_36 O_37 g_38 n_39 => hK _ _ ?_
    have q_40 := x_32.size
    have z_31 := z_23.trans (Mod.of_ext x_32)
    have q_41 := m_36.size
    have z_33 := z_31.md m_36 (fun q hq => .inl (in_lF_K hq))
    have u_42 := fun q hq => (O_37.lt q hq).2
    have q_43 := m_36.size
    refine fw rfl rfl (fun _ => nc rfl) rfl <| fw rfl rfl (fun _ => fa LnM_fd_api_Link_5 rfl) rfl <| ?_
    have HB := HB.later (Ext.tr x_22 (Ext.tr x_25 x_32))
    have HB := HB.mod m_36 (fun hq => hl.bK _ hq rfl)
    refine fb rfl rfl rfl fun w_44 x_45 Q hK => st (new := [.int .i64 L.window, .slice a.S L.sent.length a.s, .int .i64 L.base, .int .i64 L.next, .slice a.W L.way.length a.w, .slice A_34 ((L.acks ++ [(L.got.length : Int)]).length) c_35, .slice a.G L.got.length a.g, .slice A_12 ((insL L.held (k : Int)).length) c_12]) rfl rfl (HB.later x_45) rfl LnM_sz_S_int rfl rfl rfl fun w_46 m_47 HB => hK _ _ ?_
    have q_49 := x_45.size
    have z_44 := z_33.trans (Mod.of_ext x_45)
    have q_50 := m_47.size
    have z_46 := z_44.md m_47 (fun q hq => .inl (by rw [List.mem_singleton.1 hq]; exact List.mem_cons_self))
    have q_48 := m_47.size
    refine fn fun w_51 x_52 => ?_
    have q_53 := x_52.size
    have z_51 := z_46.trans (Mod.of_ext x_52)
    refine ne <| tR .nil <| ?_
    have HB := HB.later x_52
    have OS := OS.later (Ext.tr x_2 x_7)
    have OS := OS.mod m_13 (fun q hq h => by exfalso; (exact hl.own.dHS q h hq))
    have OS := OS.mod m_18 (fun q hq h => by have hb := List.mem_singleton.1 h; exfalso; (exact hl.bS q hq hb))
    have OS := OS.later (Ext.tr x_22 (Ext.tr x_25 x_32))
    have OS := OS.mod m_36 (fun q hq h => by exfalso; (exact hl.own.dKS q h hq))
    have OS := OS.later x_45
    have OS := OS.mod m_47 (fun q hq h => by have hb := List.mem_singleton.1 h; exfalso; (exact hl.bS q hq hb))
    have OS := OS.later x_52
    have OW := OW.later (Ext.tr x_2 x_7)
    have OW := OW.mod m_13 (fun q hq h => by exfalso; (exact hl.own.dHW q h hq))
    have OW := OW.mod m_18 (fun q hq h => by have hb := List.mem_singleton.1 h; exfalso; (exact hl.bW q hq hb))
    have OW := OW.later (Ext.tr x_22 (Ext.tr x_25 x_32))
    have OW := OW.mod m_36 (fun q hq h => by exfalso; (exact hl.own.dKW q h hq))
    have OW := OW.later x_45
    have OW := OW.mod m_47 (fun q hq h => by have hb := List.mem_singleton.1 h; exfalso; (exact hl.bW q hq hb))
    have OW := OW.later x_52
    have O_37 := O_37.later x_45
    have O_37 := O_37.mod m_47 (fun q hq h => by have hb := List.mem_singleton.1 h; exfalso; (exact Or.elim (g_38 q hq) (fun k_54 => by (exact hl.bK q k_54 hb)) (fun k_54 => by omega)))
    have O_37 := O_37.later x_52
    have OG := OG.later (Ext.tr x_2 x_7)
    have OG := OG.mod m_13 (fun q hq h => by exfalso; (exact hl.own.dHG q h hq))
    have OG := OG.mod m_18 (fun q hq h => by have hb := List.mem_singleton.1 h; exfalso; (exact hl.bG q hq hb))
    have OG := OG.later (Ext.tr x_22 (Ext.tr x_25 x_32))
    have OG := OG.mod m_36 (fun q hq h => by exfalso; (exact hl.own.dGK q hq h))
    have OG := OG.later x_45
    have OG := OG.mod m_47 (fun q hq h => by have hb := List.mem_singleton.1 h; exfalso; (exact hl.bG q hq hb))
    have OG := OG.later x_52
    have O_12 := O_12.mod m_18 (fun q hq h => by have hb := List.mem_singleton.1 h; exfalso; (exact Or.elim (g_12 q hq) (fun k_55 => by (exact hl.bH q k_55 hb)) (fun k_55 => by omega)))
    have O_12 := O_12.later (Ext.tr x_22 (Ext.tr x_25 x_32))
    have O_12 := O_12.mod m_36 (fun q hq h => by exfalso; (exact Or.elim (g_12 q hq) (fun k_56 => by (exact hl.own.dHK q k_56 h)) (fun k_56 => by (have := uK q h; omega))))
    have O_12 := O_12.later x_45
    have O_12 := O_12.mod m_47 (fun q hq h => by have hb := List.mem_singleton.1 h; exfalso; (exact Or.elim (g_12 q hq) (fun k_57 => by (exact hl.bH q k_57 hb)) (fun k_57 => by omega)))
    have O_12 := O_12.later x_52
    have zp_68 : ∀ q ∈ Rep.blkOf a.K, q ∈ (lF b a) ∨ w.heap.size ≤ q := (fun q hq => .inl (in_lF_K hq))
    have zp_69 : ∀ q ∈ Rep.blkOf a.H, q ∈ (lF b a) ∨ w.heap.size ≤ q := (fun q hq => .inl (in_lF_H hq))
    exact ⟨⟨a.S, a.W, A_34, a.G, A_12, a.s, a.w, c_35, a.g, c_12⟩, rfl, by rw [comes_ins h_4]; exact ⟨HB, OS, OW, O_37, OG, (TOwn.of O_12), (fun q h1 h2 => by (exact hl.own.dWS q h1 h2)), (fun q h1 h2 => by (exact Or.elim (g_38 q h1) (fun k_58 => by (exact hl.own.dKS q k_58 h2)) (fun k_58 => by (have := uS q h2; omega)))), (fun q h1 h2 => by (exact Or.elim (g_38 q h1) (fun k_59 => by (exact hl.own.dKW q k_59 h2)) (fun k_59 => by (have := uW q h2; omega)))), (fun q h1 h2 => by (exact hl.own.dGS q h1 h2)), (fun q h1 h2 => by (exact hl.own.dGW q h1 h2)), (fun q h1 h2 => by (exact Or.elim (g_38 q h2) (fun k_60 => by (exact hl.own.dGK q h1 k_60)) (fun k_60 => by (have := uG q h1; omega)))), (fun q h1 h2 => by (exact Or.elim (g_12 q h1) (fun k_61 => by (exact hl.own.dHS q k_61 h2)) (fun k_61 => by (have := uS q h2; omega)))), (fun q h1 h2 => by (exact Or.elim (g_12 q h1) (fun k_62 => by (exact hl.own.dHW q k_62 h2)) (fun k_62 => by (have := uW q h2; omega)))), (fun q h1 h2 => by (exact Or.elim (g_38 q h2) (fun k_63 => by (exact Or.elim (g_12 q h1) (fun k_64 => by (exact hl.own.dHK q k_64 k_63)) (fun k_64 => by (have := uK q k_63; omega)))) (fun k_63 => by (have := u_12 q h1; omega)))), (fun q h1 h2 => by (exact Or.elim (g_12 q h1) (fun k_65 => by (exact hl.own.dHG q k_65 h2)) (fun k_65 => by (have := uG q h2; omega)))), ⟨okI_iff.2 (by (try dsimp only); omega), okI_iff.2 (by (try dsimp only); omega), okI_iff.2 (by (try dsimp only); omega)⟩, hl.le, (fun q h1 h2 => by (exact hl.bS q h1 h2)), (fun q h1 h2 => by (exact hl.bW q h1 h2)), (fun q h1 h2 => by (exact Or.elim (g_38 q h1) (fun k_66 => by (exact hl.bK q k_66 h2)) (fun k_66 => by omega))), (fun q h1 h2 => by (exact hl.bG q h1 h2)), (fun q h1 h2 => by (exact Or.elim (g_12 q h1) (fun k_67 => by (exact hl.bH q k_67 h2)) (fun k_67 => by omega)))⟩, (lft_in (fun q hq => .inl (in_lF_S hq)) (fun q hq => .inl (in_lF_W hq)) (fun q hq => (g_38 q hq).elim (zp_68 q) (fun h => .inr (by omega))) (fun q hq => .inl (in_lF_G hq)) (fun q hq => (g_12 q hq).elim (zp_69 q) (fun h => .inr (by omega)))), z_51⟩
  · refine sq <| rg <| vl (mv rfl) rfl <| vl (mv rfl) rfl <| vl (nc rfl) rfl <| vl (fa LnM_fd_api_Link_6 rfl) rfl <| vl (ld rfl (HB.one LnM_ag_S_string rfl)) rfl <| vl (ln Try.underlying53 rfl) rfl <| vl (beq rfl rfl) rfl <| vl (as_ rfl) rfl <| nl <| nT <| ?_
    refine ceq rfl (fun h_70 => ?_) (fun h_70 => ?_)
    · refine sq <| ?_
      refine rd [(4, 0), (8, 0), (11, 0), (12, 2), (13, 3), (16, 3)] [0, 1, 2, 3, 4, 5, 6, 7, 8, 9, 10, 11, 12, 13, 14, 15, 16] (by kernel_rfl) (by kernel_rfl) ?_
      refine fw rfl rfl (fun _ => mv rfl) rfl <| fw rfl rfl (fun _ => mv rfl) rfl <| fw rfl rfl (fun _ => nc rfl) rfl <| fw rfl rfl (fun _ => fa LnM_fd_api_Link_6 rfl) rfl <| fq rfl rfl (fun _ x => ld rfl ((HB.later x).one LnM_ag_S_string rfl)) rfl <| fw rfl rfl (fun _ => mv rfl) rfl <| fw rfl rfl (fun _ => nc rfl) rfl <| fw rfl rfl (fun _ => fa LnM_fd_api_Link_1 rfl) rfl <| fq rfl rfl (fun _ x => ld rfl ((HB.later x).one LnM_ag_S_string rfl)) rfl <| fw rfl rfl (fun _ => mv rfl) rfl <| ?_
      have OS := OS.later x_2
      refine fw rfl rfl (fun _ => iA k Try.underlying53 LnM_sz_string rfl rfl (OS.has.adr (Nat.zero_lt_of_lt (show k < _ from (by omega)))) rfl (by omega)) rfl <| fq rfl rfl (fun _ x => ld rfl (Rep.SHas.one' hcS ((OS.later x).has.adh (Nat.zero_lt_of_lt (show k < _ from (by omega)))) (get_d (l := L.sent) (u := ByteArray.empty) (by omega)) rfl LnM_ag_string)) rfl <| fx rfl rfl rfl fun w_71 x_72 Q hK => bs (e := 9) (cs := [.string (L.sent.getD k ByteArray.empty)]) rfl (fun _ => by kernel_rfl) rfl fun w_73 b_74 x_75 l_76 B_77 => hK _ _ ⟨Ext.tr x_72 x_75, ?_⟩
      have q_78 := x_72.size
      have z_71 := z_1.trans (Mod.of_ext x_72)
      have q_79 := x_75.size
      have z_73 := z_71.trans (Mod.of_ext x_75)
      have q_80 := B_77.lt
      have OG := OG.later (Ext.tr x_2 (Ext.tr x_72 x_75))
      refine fb rfl rfl rfl fun w_81 x_82 Q hK => ap LnM_el_S_string repS_bare (OG.later x_82) ((Blk.has1 (R := repS) (by_ := 16) (q := L.sent.getD k ByteArray.empty) B_77 ⟨rfl, (okS_get OS.has (by omega))⟩ (by decide)).keep x_82) rfl rfl (by simp only [List.length_append, List.length_cons, List.length_nil]; omega) (by simp only [List.length_append, List.length_cons, List.length_nil]; omega) (by have := x_82.size; omega) rfl fun w_83 A_84 c_85 m_86 O_87 g_88 n_89 => hK _ _ ?_
      have q_90 := x_82.size
      have z_81 := z_73.trans (Mod.of_ext x_82)
      have q_91 := m_86.size
      have z_83 := z_81.md m_86 (fun q hq => .inl (in_lF_G hq))
      have u_92 := fun q hq => (O_87.lt q hq).2
      have q_93 := m_86.size
      refine fw rfl rfl (fun _ => nc rfl) rfl <| fw rfl rfl (fun _ => fa LnM_fd_api_Link_6 rfl) rfl <| ?_
      have HB := HB.later (Ext.tr x_72 (Ext.tr x_75 x_82))
      have HB := HB.mod m_86 (fun hq => hl.bG _ hq rfl)
      refine fb rfl rfl rfl fun w_94 x_95 Q hK => st (new := [.int .i64 L.window, .slice a.S L.sent.length a.s, .int .i64 L.base, .int .i64 L.next, .slice a.W L.way.length a.w, .slice a.K L.acks.length a.k, .slice A_84 ((L.got ++ [L.sent.getD k ByteArray.empty]).length) c_85, .slice a.H L.held.length a.h]) rfl rfl (HB.later x_95) rfl LnM_sz_S_string rfl rfl rfl fun w_96 m_97 HB => hK _ _ ?_
      have q_99 := x_95.size
      have z_94 := z_83.trans (Mod.of_ext x_95)
      have q_100 := m_97.size
      have z_96 := z_94.md m_97 (fun q hq => .inl (by rw [List.mem_singleton.1 hq]; exact List.mem_cons_self))
      have q_98 := m_97.size
      refine fn fun w_101 x_102 => ?_
      have q_103 := x_102.size
      have z_101 := z_96.trans (Mod.of_ext x_102)
      refine nT <| bk <| ?_
      have HB := HB.later x_102
      have O_87 := O_87.later x_95
      have O_87 := O_87.mod m_97 (fun q hq h => by have hb := List.mem_singleton.1 h; exfalso; (exact Or.elim (g_88 q hq) (fun k_104 => by (exact hl.bG q k_104 hb)) (fun k_104 => by omega)))
      have O_87 := O_87.later x_102
      have OH := OH.later (Ext.tr x_2 (Ext.tr x_72 (Ext.tr x_75 x_82)))
      have OH := OH.mod m_86 (fun q hq h => by exfalso; (exact hl.own.dHG q hq h))
      have OH := OH.later x_95
      have OH := OH.mod m_97 (fun q hq h => by have hb := List.mem_singleton.1 h; exfalso; (exact hl.bH q hq hb))
      have OH := OH.later x_102
      have zp_105 : ∀ q ∈ Rep.blkOf a.G, q ∈ (lF b a) ∨ w.heap.size ≤ q := (fun q hq => .inl (in_lF_G hq))
      have OS := OS.later (Ext.tr x_72 (Ext.tr x_75 x_82))
      have OS := OS.mod m_86 (fun q hq h => by exfalso; (exact hl.own.dGS q h hq))
      have OS := OS.later x_95
      have OS := OS.mod m_97 (fun q hq h => by have hb := List.mem_singleton.1 h; exfalso; (exact hl.bS q hq hb))
      have OS := OS.later x_102
      have OW := OW.later (Ext.tr x_2 (Ext.tr x_72 (Ext.tr x_75 x_82)))
      have OW := OW.mod m_86 (fun q hq h => by exfalso; (exact hl.own.dGW q h hq))
      have OW := OW.later x_95
      have OW := OW.mod m_97 (fun q hq h => by have hb := List.mem_singleton.1 h; exfalso; (exact hl.bW q hq hb))
      have OW := OW.later x_102
      have OK := OK.later (Ext.tr x_2 (Ext.tr x_72 (Ext.tr x_75 x_82)))
      have OK := OK.mod m_86 (fun q hq h => by exfalso; (exact hl.own.dGK q h hq))
      have OK := OK.later x_95
      have OK := OK.mod m_97 (fun q hq h => by have hb := List.mem_singleton.1 h; exfalso; (exact hl.bK q hq hb))
      have OK := OK.later x_102
      refine lp (fun mI EI wI => ∃ G : List ByteArray, ∃ r : List Int, ∃ A1 : Option Addr, ∃ c1 : Nat, ∃ Hp : Option Addr, ∃ hc : Nat, EI = [(0, .pointer (some ⟨b, 0, none⟩))] ∧ mI = r.length ∧ Mod (lF b a) w wI ∧ repS.SOwn 9 16 wI w0.heap.size (Rep.blkOf (a.S)) (a.S) a.s (L.sent) ∧ repI.SOwn 3 8 wI w0.heap.size (Rep.blkOf (a.W)) (a.W) a.w (L.way) ∧ repI.SOwn 3 8 wI w0.heap.size (Rep.blkOf (a.K)) (a.K) a.k (L.acks) ∧ Blk wI b [.int .i64 L.window, .slice a.S L.sent.length a.s, .int .i64 L.base, .int .i64 L.next, .slice a.W L.way.length a.w, .slice a.K L.acks.length a.k, .slice A1 G.length c1, .slice Hp r.length hc] 55 (0, 0) ∧ repS.SOwn 9 16 wI w0.heap.size (Rep.blkOf (A1)) (A1) c1 (G) ∧ TOwn wI w0.heap.size (Hp) hc (r) ∧ (fillL L.sent G r = fillL L.sent (L.got ++ [L.sent.getD k ByteArray.empty]) L.held) ∧ (∀ y ∈ r, 0 ≤ y ∧ y < (L.sent.length : Int)) ∧ (G.length ≤ L.sent.length) ∧ (∀ q ∈ Rep.blkOf A1, q ∈ lF b a ∨ w.heap.size ≤ q) ∧ (∀ q ∈ Rep.blkOf Hp, q ∈ lF b a ∨ w.heap.size ≤ q) ∧ (∀ q ∈ Rep.blkOf A1, q = b → False) ∧ (∀ q ∈ Rep.blkOf A1, q ∈ Rep.blkOf a.S → False) ∧ (∀ q ∈ Rep.blkOf A1, q ∈ Rep.blkOf a.W → False) ∧ (∀ q ∈ Rep.blkOf A1, q ∈ Rep.blkOf a.K → False) ∧ (∀ q ∈ Rep.blkOf Hp, q = b → False) ∧ (∀ q ∈ Rep.blkOf Hp, q ∈ Rep.blkOf a.S → False) ∧ (∀ q ∈ Rep.blkOf Hp, q ∈ Rep.blkOf a.W → False) ∧ (∀ q ∈ Rep.blkOf Hp, q ∈ Rep.blkOf a.K → False) ∧ (∀ q ∈ Rep.blkOf Hp, q ∈ Rep.blkOf A1 → False)) _ _ ⟨(L.got ++ [L.sent.getD k ByteArray.empty]), L.held, A_84, c_85, a.H, a.h, rfl, rfl, z_101, OS, OW, OK, HB, O_87, (TOwn.of OH), rfl, hbd, (by rw [List.length_append, List.length_singleton]; omega), (fun q hq => (g_88 q hq).elim (zp_105 q) (fun h => .inr (by omega))), (fun q hq => .inl (in_lF_H hq)), (fun q hq hb => by (exact Or.elim (g_88 q hq) (fun k_115 => by (exact hl.bG q k_115 hb)) (fun k_115 => by omega))), (fun q hq hb => by (exact Or.elim (g_88 q hq) (fun k_116 => by (exact hl.own.dGS q k_116 hb)) (fun k_116 => by (have := uS q hb; omega)))), (fun q hq hb => by (exact Or.elim (g_88 q hq) (fun k_117 => by (exact hl.own.dGW q k_117 hb)) (fun k_117 => by (have := uW q hb; omega)))), (fun q hq hb => by (exact Or.elim (g_88 q hq) (fun k_118 => by (exact hl.own.dGK q k_118 hb)) (fun k_118 => by (have := uK q hb; omega)))), (fun q hq hb => by (exact hl.bH q hq hb)), (fun q hq hb => by (exact hl.own.dHS q hq hb)), (fun q hq hb => by (exact hl.own.dHW q hq hb)), (fun q hq hb => by (exact hl.own.dHK q hq hb)), (fun q hq hb => by (exact Or.elim (g_88 q hb) (fun k_119 => by (exact hl.own.dHG q hq k_119)) (fun k_119 => by (have := uH q hq; omega))))⟩ (.cons rfl .nil) ?_
      rintro m_121 E_122 w_120 ⟨G, r, A1, c1, Hp, hc, rfl, rfl, z_120, OS, OW, OK, HB1, OG1, TH, hf, hrb, hG, zA1, zHp, d_106, d_107, d_108, d_109, d_110, d_111, d_112, d_113, d_114⟩
      have q_123 := z_120.size
      have u_124 := fun q hq => (OS.lt q hq).2
      have u_125 := fun q hq => (OW.lt q hq).2
      have u_126 := fun q hq => (OK.lt q hq).2
      have q_127 := HB1.lt
      have u_128 := fun q hq => (OG1.lt q hq).2
      have u_129 := fun q hq => (TH.lt q hq).2
      have gA1 : ∀ q ∈ Rep.blkOf A1, w0.heap.size ≤ q := fun q hq => (OG1.lt q hq).1
      have gHp : ∀ q ∈ Rep.blkOf Hp, w0.heap.size ≤ q := fun q hq => (TH.lt q hq).1
      have hcr := TH.has.1
      refine sq <| sq <| ?_
      refine rd [(3, 0), (10, 0), (12, 0), (16, 0)] [0, 1, 2, 3, 4, 5, 6, 7, 8, 9, 10, 11, 12, 13, 14, 15, 16, 17, 18, 19] (by kernel_rfl) (by kernel_rfl) ?_
      refine fw rfl rfl (fun _ => mv rfl) rfl <| fw rfl rfl (fun _ => nc rfl) rfl <| fw rfl rfl (fun _ => fa LnM_fd_api_Link_7 rfl) rfl <| fq rfl rfl (fun _ x => ld rfl ((HB1.later x).one LnM_ag_S_int rfl)) rfl <| fw rfl rfl (fun _ => ln Try.underlying38 rfl) rfl <| fw rfl rfl (fun _ => bgt rfl rfl) rfl <| fw rfl rfl (fun _ => mv rfl) rfl <| fW rfl rfl rfl rfl rfl rfl (fun hc _ => mv rfl) rfl <| fW rfl rfl rfl rfl rfl rfl (fun hc _ => nc (gt hc rfl)) rfl <| fW rfl rfl rfl rfl rfl rfl (fun hc _ => fa LnM_fd_api_Link_7 (gt hc rfl)) rfl <| fQ rfl rfl rfl rfl rfl rfl (fun hc _ x => ld (gt hc rfl) ((HB1.later x).one LnM_ag_S_int rfl)) rfl <| fW rfl rfl rfl rfl rfl rfl (fun hc _ => iA 0 Try.underlying38 LnM_sz_int (gt hc rfl) rfl (TH.has.adr (Nat.zero_lt_of_lt (show 0 < _ from (by (try simp only [Bool.or_eq_true, Bool.or_eq_false_iff, Bool.and_eq_true, Bool.and_eq_false_iff, decide_eq_true_eq, decide_eq_false_iff_not, beq_iff_eq, bne_iff_ne, beq_eq_false_iff_ne, bne_eq_false_iff_eq, Bool.not_eq_true', Bool.not_eq_false', Bool.not_eq_true, Bool.not_eq_false, Int.not_lt, Int.not_le, Nat.not_lt, Nat.not_le, ne_eq, Classical.not_not] at hc); omega)))) rfl (by (try simp only [Bool.or_eq_true, Bool.or_eq_false_iff, Bool.and_eq_true, Bool.and_eq_false_iff, decide_eq_true_eq, decide_eq_false_iff_not, beq_iff_eq, bne_iff_ne, beq_eq_false_iff_ne, bne_eq_false_iff_eq, Bool.not_eq_true', Bool.not_eq_false', Bool.not_eq_true, Bool.not_eq_false, Int.not_lt, Int.not_le, Nat.not_lt, Nat.not_le, ne_eq, Classical.not_not] at hc); omega)) rfl <| fQ rfl rfl rfl rfl rfl rfl (fun hc _ x => ld (gt hc rfl) (Rep.SHas.one' hcI ((TH.later x).has.adh (Nat.zero_lt_of_lt (show 0 < _ from (by (try simp only [Bool.or_eq_true, Bool.or_eq_false_iff, Bool.and_eq_true, Bool.and_eq_false_iff, decide_eq_true_eq, decide_eq_false_iff_not, beq_iff_eq, bne_iff_ne, beq_eq_false_iff_ne, bne_eq_false_iff_eq, Bool.not_eq_true', Bool.not_eq_false', Bool.not_eq_true, Bool.not_eq_false, Int.not_lt, Int.not_le, Nat.not_lt, Nat.not_le, ne_eq, Classical.not_not] at hc); omega)))) (get_d (l := r) (u := 0) (by (try simp only [Bool.or_eq_true, Bool.or_eq_false_iff, Bool.and_eq_true, Bool.and_eq_false_iff, decide_eq_true_eq, decide_eq_false_iff_not, beq_iff_eq, bne_iff_ne, beq_eq_false_iff_ne, bne_eq_false_iff_eq, Bool.not_eq_true', Bool.not_eq_false', Bool.not_eq_true, Bool.not_eq_false, Int.not_lt, Int.not_le, Nat.not_lt, Nat.not_le, ne_eq, Classical.not_not] at hc); omega)) rfl LnM_ag_int)) rfl <| fW rfl rfl rfl rfl rfl rfl (fun hc _ => mv rfl) rfl <| fW rfl rfl rfl rfl rfl rfl (fun hc _ => nc (gt hc rfl)) rfl <| fW rfl rfl rfl rfl rfl rfl (fun hc _ => fa LnM_fd_api_Link_6 (gt hc rfl)) rfl <| fQ rfl rfl rfl rfl rfl rfl (fun hc _ x => ld (gt hc rfl) ((HB1.later x).one LnM_ag_S_string rfl)) rfl <| fW rfl rfl rfl rfl rfl rfl (fun hc _ => ln Try.underlying53 (gt hc rfl)) rfl <| fW rfl rfl rfl rfl rfl rfl (fun hc _ => beq (gt hc rfl) (gt hc rfl)) rfl <| fw rfl rfl (fun _ => pA rfl rfl rfl rfl) rfl <| fn fun w_130 x_131 => ?_
      have q_132 := x_131.size
      have z_130 := z_120.trans (Mod.of_ext x_131)
      refine nT <| ?_
      refine cb rfl (fun h_133 => ?_) (fun h_133 => ?_)
      · have h0 : 0 < r.length := by have := (Bool.and_eq_true_iff.1 h_133).1; simpa using this
        have hh : r.getD 0 0 = (G.length : Int) := by have := (Bool.and_eq_true_iff.1 h_133).2; simpa using this
        have hhb := hrb _ (mem_dd (d := 0) h0)
        refine sk <| nT <| bk <| ?_
        refine rdW (Rep.blkOf A1) [(5, 0), (9, 0), (13, 0), (15, 0), (17, 0), (18, 2), (19, 2), (23, 0), (27, 3), (30, 3)] [0, 1, 2, 3, 4, 5, 6, 7, 8, 9, 10, 11, 12, 13, 14, 15, 16, 17, 20, 21, 22, 23, 24, 18, 19, 25, 26, 27, 28, 29, 30] (by kernel_rfl) (by kernel_rfl) ?_
        refine fwW rfl rfl (fun _ => mv rfl) rfl <| fwW rfl rfl (fun _ => mv rfl) rfl <| fwW rfl rfl (fun _ => mv rfl) rfl <| fwW rfl rfl (fun _ => nc rfl) rfl <| fwW rfl rfl (fun _ => fa LnM_fd_api_Link_6 rfl) rfl <| ?_
        have HB1 := HB1.later x_131
        refine fqW rfl rfl (fun _ x => ld rfl ((HB1.mod x (fun hq => d_106 _ hq rfl)).one LnM_ag_S_string rfl)) rfl <| fwW rfl rfl (fun _ => mv rfl) rfl <| fwW rfl rfl (fun _ => nc rfl) rfl <| fwW rfl rfl (fun _ => fa LnM_fd_api_Link_1 rfl) rfl <| fqW rfl rfl (fun _ x => ld rfl ((HB1.mod x (fun hq => d_106 _ hq rfl)).one LnM_ag_S_string rfl)) rfl <| fwW rfl rfl (fun _ => mv rfl) rfl <| fwW rfl rfl (fun _ => nc rfl) rfl <| fwW rfl rfl (fun _ => fa LnM_fd_api_Link_7 rfl) rfl <| fqW rfl rfl (fun _ x => ld rfl ((HB1.mod x (fun hq => d_106 _ hq rfl)).one LnM_ag_S_int rfl)) rfl <| ?_
        have TH := TH.later x_131
        refine fwW rfl rfl (fun _ => iA 0 Try.underlying38 LnM_sz_int rfl rfl (TH.has.adr (Nat.zero_lt_of_lt (show 0 < _ from (by omega)))) rfl (by omega)) rfl <| fqW rfl rfl (fun _ x => ld rfl (Rep.SHas.one' hcI ((TH.mod x (fun q hq h => by exfalso; (exact d_114 q hq h))).has.adh (Nat.zero_lt_of_lt (show 0 < _ from (by omega)))) (get_d (l := r) (u := 0) (by omega)) rfl LnM_ag_int)) rfl <| ?_
        have OS := OS.later x_131
        refine fwW rfl rfl (fun _ => iA ((r.getD 0 0).toNat) Try.underlying53 LnM_sz_string rfl rfl (OS.has.adr (Nat.zero_lt_of_lt (show (r.getD 0 0).toNat < _ from (by omega)))) (by omega) (by omega)) rfl <| fqW rfl rfl (fun _ x => ld rfl (Rep.SHas.one' hcS ((OS.mod x (fun q hq h => by exfalso; (exact d_107 q h hq))).has.adh (Nat.zero_lt_of_lt (show (r.getD 0 0).toNat < _ from (by omega)))) (get_d (l := L.sent) (u := ByteArray.empty) (by omega)) rfl LnM_ag_string)) rfl <| fwW rfl rfl (fun _ => mv rfl) rfl <| fwW rfl rfl (fun _ => nc rfl) rfl <| fwW rfl rfl (fun _ => fa LnM_fd_api_Link_7 rfl) rfl <| fqW rfl rfl (fun _ x => ld rfl ((HB1.mod x (fun hq => d_106 _ hq rfl)).one LnM_ag_S_int rfl)) rfl <| fwW rfl rfl (fun _ => sT 1 Try.underlying38 LnM_sz_int rfl rfl rfl (by omega)) rfl <| fxW rfl rfl rfl fun w_134 x_135 Q hK => bs (e := 9) (cs := [.string (L.sent.getD ((r.getD 0 0).toNat) ByteArray.empty)]) rfl (fun _ => by kernel_rfl) rfl fun w_136 b_137 x_138 l_139 B_140 => hK _ _ ⟨Mod.of_ext (Ext.tr x_135 x_138), ?_⟩
        have q_141 := x_135.size
        have z_134 := z_130.trans (Mod.of_ext x_135)
        have q_142 := x_138.size
        have z_136 := z_134.trans (Mod.of_ext x_138)
        have q_143 := B_140.lt
        have OG1 := OG1.later (Ext.tr x_131 (Ext.tr x_135 x_138))
        refine fxW rfl rfl rfl fun w_144 x_145 Q hK => ap LnM_el_S_string repS_bare (OG1.later x_145) ((Blk.has1 (R := repS) (by_ := 16) (q := L.sent.getD ((r.getD 0 0).toNat) ByteArray.empty) B_140 ⟨rfl, (okS_get OS.has (by omega))⟩ (by decide)).keep x_145) rfl rfl (by simp only [List.length_append, List.length_cons, List.length_nil]; omega) (by simp only [List.length_append, List.length_cons, List.length_nil]; omega) (by have := x_145.size; omega) rfl fun w_146 A_147 c_148 m_149 O_150 g_151 n_152 => hK _ _ ⟨(Mod.of_ext x_145).trans m_149, ?_⟩
        have q_153 := x_145.size
        have z_144 := z_136.trans (Mod.of_ext x_145)
        have q_154 := m_149.size
        have z_146 := z_144.md m_149 zA1
        have u_155 := fun q hq => (O_150.lt q hq).2
        have q_156 := m_149.size
        refine fwW rfl rfl (fun _ => nc rfl) rfl <| fwW rfl rfl (fun _ => fa LnM_fd_api_Link_6 rfl) rfl <| ?_
        have HB1 := HB1.later (Ext.tr x_135 (Ext.tr x_138 x_145))
        have HB1 := HB1.mod m_149 (fun hq => d_106 _ hq rfl)
        refine fbW rfl rfl rfl fun w_157 x_158 Q hK => st (new := [.int .i64 L.window, .slice a.S L.sent.length a.s, .int .i64 L.base, .int .i64 L.next, .slice a.W L.way.length a.w, .slice a.K L.acks.length a.k, .slice A_147 ((G ++ [L.sent.getD ((r.getD 0 0).toNat) ByteArray.empty]).length) c_148, .slice Hp r.length hc]) rfl rfl (HB1.later x_158) rfl LnM_sz_S_string rfl rfl rfl fun w_159 m_160 HB1 => hK _ _ ?_
        have q_162 := x_158.size
        have z_157 := z_146.trans (Mod.of_ext x_158)
        have q_163 := m_160.size
        have z_159 := z_157.md m_160 (fun q hq => .inl (by rw [List.mem_singleton.1 hq]; exact List.mem_cons_self))
        have q_161 := m_160.size
        refine fwW rfl rfl (fun _ => nc rfl) rfl <| fwW rfl rfl (fun _ => fa LnM_fd_api_Link_7 rfl) rfl <| fbW rfl rfl rfl fun w_164 x_165 Q hK => st (new := [.int .i64 L.window, .slice a.S L.sent.length a.s, .int .i64 L.base, .int .i64 L.next, .slice a.W L.way.length a.w, .slice a.K L.acks.length a.k, .slice A_147 ((G ++ [L.sent.getD ((r.getD 0 0).toNat) ByteArray.empty]).length) c_148, .slice (sA Hp hc 1 1) (r.length - 1) (hc - 1)]) rfl rfl (HB1.later x_165) rfl LnM_sz_S_int rfl rfl rfl fun w_166 m_167 HB1 => hK _ _ ?_
        have q_169 := x_165.size
        have z_164 := z_159.trans (Mod.of_ext x_165)
        have q_170 := m_167.size
        have z_166 := z_164.md m_167 (fun q hq => .inl (by rw [List.mem_singleton.1 hq]; exact List.mem_cons_self))
        have q_168 := m_167.size
        refine fnW fun w_171 x_172 => ?_
        have q_173 := x_172.size
        have z_171 := z_166.trans (Mod.of_ext x_172)
        refine nB <| ?_
        have TH := TH.later (Ext.tr x_135 (Ext.tr x_138 x_145))
        have TH := TH.mod m_149 (fun q hq h => by exfalso; (exact d_114 q hq h))
        have TH := TH.later x_158
        have TH := TH.mod m_160 (fun q hq h => by have hb := List.mem_singleton.1 h; exfalso; (exact d_110 q hq hb))
        have TH := TH.later x_165
        have TH := TH.mod m_167 (fun q hq h => by have hb := List.mem_singleton.1 h; exfalso; (exact d_110 q hq hb))
        have TH := TH.later x_172
        have TH2 := TH.cut h0
        have zp_174 : ∀ q ∈ Rep.blkOf A1, q ∈ (lF b a) ∨ w.heap.size ≤ q := zA1
        have OS := OS.later (Ext.tr x_135 (Ext.tr x_138 x_145))
        have OS := OS.mod m_149 (fun q hq h => by exfalso; (exact d_107 q h hq))
        have OS := OS.later x_158
        have OS := OS.mod m_160 (fun q hq h => by have hb := List.mem_singleton.1 h; exfalso; (exact hl.bS q hq hb))
        have OS := OS.later x_165
        have OS := OS.mod m_167 (fun q hq h => by have hb := List.mem_singleton.1 h; exfalso; (exact hl.bS q hq hb))
        have OS := OS.later x_172
        have OW := OW.later (Ext.tr x_131 (Ext.tr x_135 (Ext.tr x_138 x_145)))
        have OW := OW.mod m_149 (fun q hq h => by exfalso; (exact d_108 q h hq))
        have OW := OW.later x_158
        have OW := OW.mod m_160 (fun q hq h => by have hb := List.mem_singleton.1 h; exfalso; (exact hl.bW q hq hb))
        have OW := OW.later x_165
        have OW := OW.mod m_167 (fun q hq h => by have hb := List.mem_singleton.1 h; exfalso; (exact hl.bW q hq hb))
        have OW := OW.later x_172
        have OK := OK.later (Ext.tr x_131 (Ext.tr x_135 (Ext.tr x_138 x_145)))
        have OK := OK.mod m_149 (fun q hq h => by exfalso; (exact d_109 q h hq))
        have OK := OK.later x_158
        have OK := OK.mod m_160 (fun q hq h => by have hb := List.mem_singleton.1 h; exfalso; (exact hl.bK q hq hb))
        have OK := OK.later x_165
        have OK := OK.mod m_167 (fun q hq h => by have hb := List.mem_singleton.1 h; exfalso; (exact hl.bK q hq hb))
        have OK := OK.later x_172
        have HB1 := HB1.later x_172
        have O_150 := O_150.later x_158
        have O_150 := O_150.mod m_160 (fun q hq h => by have hb := List.mem_singleton.1 h; exfalso; (exact Or.elim (g_151 q hq) (fun k_175 => by (exact d_106 q k_175 hb)) (fun k_175 => by omega)))
        have O_150 := O_150.later x_165
        have O_150 := O_150.mod m_167 (fun q hq h => by have hb := List.mem_singleton.1 h; exfalso; (exact Or.elim (g_151 q hq) (fun k_176 => by (exact d_106 q k_176 hb)) (fun k_176 => by omega)))
        have O_150 := O_150.later x_172
        exact nI _ _ ⟨G ++ [L.sent.getD ((r.getD 0 0).toNat) ByteArray.empty], r.drop 1, A_147, c_148, sA Hp hc 1 1, hc - 1, rfl, rfl, z_171, OS, OW, OK, (by rw [List.length_drop]; exact HB1), O_150, TH2, (fill_step h0 hh).trans hf, fun y hy => hrb y (List.mem_of_mem_drop hy), (by rw [List.length_append, List.length_singleton]; omega), (fun q hq => (g_151 q hq).elim (zp_174 q) (fun h => .inr (by omega))), (fun q hq => zHp q (sA_in hq)), (fun q hq hb => by (exact Or.elim (g_151 q hq) (fun k_177 => by (exact d_106 q k_177 hb)) (fun k_177 => by omega))), (fun q hq hb => by (exact Or.elim (g_151 q hq) (fun k_178 => by (exact d_107 q k_178 hb)) (fun k_178 => by (have := u_124 q hb; have := uS q hb; omega)))), (fun q hq hb => by (exact Or.elim (g_151 q hq) (fun k_179 => by (exact d_108 q k_179 hb)) (fun k_179 => by (have := u_125 q hb; have := uW q hb; omega)))), (fun q hq hb => by (exact Or.elim (g_151 q hq) (fun k_180 => by (exact d_109 q k_180 hb)) (fun k_180 => by (have := u_126 q hb; have := uK q hb; omega)))), (fun q hq hb => by (exact d_110 q (sA_in hq) hb)), (fun q hq hb => by (exact d_111 q (sA_in hq) hb)), (fun q hq hb => by (exact d_112 q (sA_in hq) hb)), (fun q hq hb => by (exact d_113 q (sA_in hq) hb)), (fun q hq hb => by (exact Or.elim (g_151 q hb) (fun k_181 => by (exact d_114 q (sA_in hq) k_181)) (fun k_181 => by (have := u_129 q (sA_in hq); omega))))⟩ (by rw [List.length_drop]; omega) (.cons rfl .nil)
      · have hex : r.length = 0 ∨ ¬ r.getD 0 0 = (G.length : Int) := (Bool.and_eq_false_iff.1 h_133).elim (fun h => .inl (by simpa using h)) (fun h => .inr (by simpa using h))
        refine xt <| xT <| xK <| xB <| nB <| nT <| ?_
        refine rd [(4, 0), (8, 0), (10, 2), (11, 3), (14, 3)] [0, 1, 2, 3, 4, 5, 6, 7, 8, 9, 10, 11, 12, 13, 14] (by kernel_rfl) (by kernel_rfl) ?_
        refine fw rfl rfl (fun _ => mv rfl) rfl <| fw rfl rfl (fun _ => mv rfl) rfl <| fw rfl rfl (fun _ => nc rfl) rfl <| fw rfl rfl (fun _ => fa LnM_fd_api_Link_5 rfl) rfl <| ?_
        have HB1 := HB1.later x_131
        refine fq rfl rfl (fun _ x => ld rfl ((HB1.later x).one LnM_ag_S_int rfl)) rfl <| fw rfl rfl (fun _ => mv rfl) rfl <| fw rfl rfl (fun _ => nc rfl) rfl <| fw rfl rfl (fun _ => fa LnM_fd_api_Link_6 rfl) rfl <| fq rfl rfl (fun _ x => ld rfl ((HB1.later x).one LnM_ag_S_string rfl)) rfl <| fw rfl rfl (fun _ => ln Try.underlying53 rfl) rfl <| fx rfl rfl rfl fun w_182 x_183 Q hK => bs (e := 3) (cs := [.int .i64 (G.length : Int)]) rfl (fun _ => by kernel_rfl) rfl fun w_184 b_185 x_186 l_187 B_188 => hK _ _ ⟨Ext.tr x_183 x_186, ?_⟩
        have q_189 := x_183.size
        have z_182 := z_130.trans (Mod.of_ext x_183)
        have q_190 := x_186.size
        have z_184 := z_182.trans (Mod.of_ext x_186)
        have q_191 := B_188.lt
        have OK := OK.later (Ext.tr x_131 (Ext.tr x_183 x_186))
        refine fb rfl rfl rfl fun w_192 x_193 Q hK => ap LnM_el_S_int Rep.flat_bare (OK.later x_193) ((Blk.has1 (R := repI) (by_ := 8) (q := (G.length : Int)) B_188 ⟨rfl, okI_iff.2 (by (try dsimp only); omega)⟩ (by decide)).keep x_193) rfl rfl (by simp only [List.length_append, List.length_cons, List.length_nil]; omega) (by simp only [List.length_append, List.length_cons, List.length_nil]; omega) (by have := x_193.size; omega) rfl fun w_194 A_195 c_196 m_197 O_198 g_199 n_200 => hK _ _ ?_
        have q_201 := x_193.size
        have z_192 := z_184.trans (Mod.of_ext x_193)
        have q_202 := m_197.size
        have z_194 := z_192.md m_197 (fun q hq => .inl (in_lF_K hq))
        have u_203 := fun q hq => (O_198.lt q hq).2
        have q_204 := m_197.size
        refine fw rfl rfl (fun _ => nc rfl) rfl <| fw rfl rfl (fun _ => fa LnM_fd_api_Link_5 rfl) rfl <| ?_
        have HB1 := HB1.later (Ext.tr x_183 (Ext.tr x_186 x_193))
        have HB1 := HB1.mod m_197 (fun hq => hl.bK _ hq rfl)
        refine fb rfl rfl rfl fun w_205 x_206 Q hK => st (new := [.int .i64 L.window, .slice a.S L.sent.length a.s, .int .i64 L.base, .int .i64 L.next, .slice a.W L.way.length a.w, .slice A_195 ((L.acks ++ [(G.length : Int)]).length) c_196, .slice A1 G.length c1, .slice Hp r.length hc]) rfl rfl (HB1.later x_206) rfl LnM_sz_S_int rfl rfl rfl fun w_207 m_208 HB1 => hK _ _ ?_
        have q_210 := x_206.size
        have z_205 := z_194.trans (Mod.of_ext x_206)
        have q_211 := m_208.size
        have z_207 := z_205.md m_208 (fun q hq => .inl (by rw [List.mem_singleton.1 hq]; exact List.mem_cons_self))
        have q_209 := m_208.size
        refine fn fun w_212 x_213 => ?_
        have q_214 := x_213.size
        have z_212 := z_207.trans (Mod.of_ext x_213)
        refine ne <| tR .nil <| ?_
        have HB1 := HB1.later x_213
        have OS := OS.later (Ext.tr x_131 (Ext.tr x_183 (Ext.tr x_186 x_193)))
        have OS := OS.mod m_197 (fun q hq h => by exfalso; (exact hl.own.dKS q h hq))
        have OS := OS.later x_206
        have OS := OS.mod m_208 (fun q hq h => by have hb := List.mem_singleton.1 h; exfalso; (exact hl.bS q hq hb))
        have OS := OS.later x_213
        have OW := OW.later (Ext.tr x_131 (Ext.tr x_183 (Ext.tr x_186 x_193)))
        have OW := OW.mod m_197 (fun q hq h => by exfalso; (exact hl.own.dKW q h hq))
        have OW := OW.later x_206
        have OW := OW.mod m_208 (fun q hq h => by have hb := List.mem_singleton.1 h; exfalso; (exact hl.bW q hq hb))
        have OW := OW.later x_213
        have O_198 := O_198.later x_206
        have O_198 := O_198.mod m_208 (fun q hq h => by have hb := List.mem_singleton.1 h; exfalso; (exact Or.elim (g_199 q hq) (fun k_215 => by (exact hl.bK q k_215 hb)) (fun k_215 => by omega)))
        have O_198 := O_198.later x_213
        have OG1 := OG1.later (Ext.tr x_131 (Ext.tr x_183 (Ext.tr x_186 x_193)))
        have OG1 := OG1.mod m_197 (fun q hq h => by exfalso; (exact d_109 q hq h))
        have OG1 := OG1.later x_206
        have OG1 := OG1.mod m_208 (fun q hq h => by have hb := List.mem_singleton.1 h; exfalso; (exact d_106 q hq hb))
        have OG1 := OG1.later x_213
        have TH := TH.later (Ext.tr x_131 (Ext.tr x_183 (Ext.tr x_186 x_193)))
        have TH := TH.mod m_197 (fun q hq h => by exfalso; (exact d_113 q hq h))
        have TH := TH.later x_206
        have TH := TH.mod m_208 (fun q hq h => by have hb := List.mem_singleton.1 h; exfalso; (exact d_110 q hq hb))
        have TH := TH.later x_213
        have zp_221 : ∀ q ∈ Rep.blkOf a.K, q ∈ (lF b a) ∨ w.heap.size ≤ q := (fun q hq => .inl (in_lF_K hq))
        exact ⟨⟨a.S, a.W, A_195, A1, Hp, a.s, a.w, c_196, c1, hc⟩, rfl, by rw [comes_fill h_4 (by simpa using h_70) ((show fillL L.sent (L.got ++ [L.sent.getD ((k : Int)).toNat ByteArray.empty]) L.held = _ from hf.symm).trans (fill_end hex))]; exact ⟨HB1, OS, OW, O_198, OG1, TH, (fun q h1 h2 => by (exact hl.own.dWS q h1 h2)), (fun q h1 h2 => by (exact Or.elim (g_199 q h1) (fun k_216 => by (exact hl.own.dKS q k_216 h2)) (fun k_216 => by (have := u_124 q h2; have := uS q h2; omega)))), (fun q h1 h2 => by (exact Or.elim (g_199 q h1) (fun k_217 => by (exact hl.own.dKW q k_217 h2)) (fun k_217 => by (have := u_125 q h2; have := uW q h2; omega)))), (fun q h1 h2 => by (exact d_107 q h1 h2)), (fun q h1 h2 => by (exact d_108 q h1 h2)), (fun q h1 h2 => by (exact Or.elim (g_199 q h2) (fun k_218 => by (exact d_109 q h1 k_218)) (fun k_218 => by (have := u_128 q h1; omega)))), (fun q h1 h2 => by (exact d_111 q h1 h2)), (fun q h1 h2 => by (exact d_112 q h1 h2)), (fun q h1 h2 => by (exact Or.elim (g_199 q h2) (fun k_219 => by (exact d_113 q h1 k_219)) (fun k_219 => by (have := u_129 q h1; omega)))), (fun q h1 h2 => by (exact d_114 q h1 h2)), ⟨okI_iff.2 (by (try dsimp only); omega), okI_iff.2 (by (try dsimp only); omega), okI_iff.2 (by (try dsimp only); omega)⟩, hl.le, (fun q h1 h2 => by (exact hl.bS q h1 h2)), (fun q h1 h2 => by (exact hl.bW q h1 h2)), (fun q h1 h2 => by (exact Or.elim (g_199 q h1) (fun k_220 => by (exact hl.bK q k_220 h2)) (fun k_220 => by omega))), (fun q h1 h2 => by (exact d_106 q h1 h2)), (fun q h1 h2 => by (exact d_110 q h1 h2))⟩, (lft_in (fun q hq => .inl (in_lF_S hq)) (fun q hq => .inl (in_lF_W hq)) (fun q hq => (g_199 q hq).elim (zp_221 q) (fun h => .inr (by omega))) zA1 zHp), z_212⟩
    · refine sk <| nB <| nT <| ?_
      refine rd [(4, 0), (8, 0), (10, 2), (11, 3), (14, 3)] [0, 1, 2, 3, 4, 5, 6, 7, 8, 9, 10, 11, 12, 13, 14] (by kernel_rfl) (by kernel_rfl) ?_
      refine fw rfl rfl (fun _ => mv rfl) rfl <| fw rfl rfl (fun _ => mv rfl) rfl <| fw rfl rfl (fun _ => nc rfl) rfl <| fw rfl rfl (fun _ => fa LnM_fd_api_Link_5 rfl) rfl <| fq rfl rfl (fun _ x => ld rfl ((HB.later x).one LnM_ag_S_int rfl)) rfl <| fw rfl rfl (fun _ => mv rfl) rfl <| fw rfl rfl (fun _ => nc rfl) rfl <| fw rfl rfl (fun _ => fa LnM_fd_api_Link_6 rfl) rfl <| fq rfl rfl (fun _ x => ld rfl ((HB.later x).one LnM_ag_S_string rfl)) rfl <| fw rfl rfl (fun _ => ln Try.underlying53 rfl) rfl <| fx rfl rfl rfl fun w_222 x_223 Q hK => bs (e := 3) (cs := [.int .i64 (L.got.length : Int)]) rfl (fun _ => by kernel_rfl) rfl fun w_224 b_225 x_226 l_227 B_228 => hK _ _ ⟨Ext.tr x_223 x_226, ?_⟩
      have q_229 := x_223.size
      have z_222 := z_1.trans (Mod.of_ext x_223)
      have q_230 := x_226.size
      have z_224 := z_222.trans (Mod.of_ext x_226)
      have q_231 := B_228.lt
      have OK := OK.later (Ext.tr x_2 (Ext.tr x_223 x_226))
      refine fb rfl rfl rfl fun w_232 x_233 Q hK => ap LnM_el_S_int Rep.flat_bare (OK.later x_233) ((Blk.has1 (R := repI) (by_ := 8) (q := (L.got.length : Int)) B_228 ⟨rfl, okI_iff.2 (by (try dsimp only); omega)⟩ (by decide)).keep x_233) rfl rfl (by simp only [List.length_append, List.length_cons, List.length_nil]; omega) (by simp only [List.length_append, List.length_cons, List.length_nil]; omega) (by have := x_233.size; omega) rfl fun w_234 A_235 c_236 m_237 O_238 g_239 n_240 => hK _ _ ?_
      have q_241 := x_233.size
      have z_232 := z_224.trans (Mod.of_ext x_233)
      have q_242 := m_237.size
      have z_234 := z_232.md m_237 (fun q hq => .inl (in_lF_K hq))
      have u_243 := fun q hq => (O_238.lt q hq).2
      have q_244 := m_237.size
      refine fw rfl rfl (fun _ => nc rfl) rfl <| fw rfl rfl (fun _ => fa LnM_fd_api_Link_5 rfl) rfl <| ?_
      have HB := HB.later (Ext.tr x_223 (Ext.tr x_226 x_233))
      have HB := HB.mod m_237 (fun hq => hl.bK _ hq rfl)
      refine fb rfl rfl rfl fun w_245 x_246 Q hK => st (new := [.int .i64 L.window, .slice a.S L.sent.length a.s, .int .i64 L.base, .int .i64 L.next, .slice a.W L.way.length a.w, .slice A_235 ((L.acks ++ [(L.got.length : Int)]).length) c_236, .slice a.G L.got.length a.g, .slice a.H L.held.length a.h]) rfl rfl (HB.later x_246) rfl LnM_sz_S_int rfl rfl rfl fun w_247 m_248 HB => hK _ _ ?_
      have q_250 := x_246.size
      have z_245 := z_234.trans (Mod.of_ext x_246)
      have q_251 := m_248.size
      have z_247 := z_245.md m_248 (fun q hq => .inl (by rw [List.mem_singleton.1 hq]; exact List.mem_cons_self))
      have q_249 := m_248.size
      refine fn fun w_252 x_253 => ?_
      have q_254 := x_253.size
      have z_252 := z_247.trans (Mod.of_ext x_253)
      refine ne <| tR .nil <| ?_
      have HB := HB.later x_253
      have OS := OS.later (Ext.tr x_2 (Ext.tr x_223 (Ext.tr x_226 x_233)))
      have OS := OS.mod m_237 (fun q hq h => by exfalso; (exact hl.own.dKS q h hq))
      have OS := OS.later x_246
      have OS := OS.mod m_248 (fun q hq h => by have hb := List.mem_singleton.1 h; exfalso; (exact hl.bS q hq hb))
      have OS := OS.later x_253
      have OW := OW.later (Ext.tr x_2 (Ext.tr x_223 (Ext.tr x_226 x_233)))
      have OW := OW.mod m_237 (fun q hq h => by exfalso; (exact hl.own.dKW q h hq))
      have OW := OW.later x_246
      have OW := OW.mod m_248 (fun q hq h => by have hb := List.mem_singleton.1 h; exfalso; (exact hl.bW q hq hb))
      have OW := OW.later x_253
      have O_238 := O_238.later x_246
      have O_238 := O_238.mod m_248 (fun q hq h => by have hb := List.mem_singleton.1 h; exfalso; (exact Or.elim (g_239 q hq) (fun k_255 => by (exact hl.bK q k_255 hb)) (fun k_255 => by omega)))
      have O_238 := O_238.later x_253
      have OG := OG.later (Ext.tr x_2 (Ext.tr x_223 (Ext.tr x_226 x_233)))
      have OG := OG.mod m_237 (fun q hq h => by exfalso; (exact hl.own.dGK q hq h))
      have OG := OG.later x_246
      have OG := OG.mod m_248 (fun q hq h => by have hb := List.mem_singleton.1 h; exfalso; (exact hl.bG q hq hb))
      have OG := OG.later x_253
      have OH := OH.later (Ext.tr x_2 (Ext.tr x_223 (Ext.tr x_226 x_233)))
      have OH := OH.mod m_237 (fun q hq h => by exfalso; (exact hl.own.dHK q hq h))
      have OH := OH.later x_246
      have OH := OH.mod m_248 (fun q hq h => by have hb := List.mem_singleton.1 h; exfalso; (exact hl.bH q hq hb))
      have OH := OH.later x_253
      have zp_261 : ∀ q ∈ Rep.blkOf a.K, q ∈ (lF b a) ∨ w.heap.size ≤ q := (fun q hq => .inl (in_lF_K hq))
      exact ⟨⟨a.S, a.W, A_235, a.G, a.H, a.s, a.w, c_236, a.g, a.h⟩, rfl, by rw [comes_none h_4 (by simpa using h_70)]; exact ⟨HB, OS, OW, O_238, OG, (TOwn.of OH), (fun q h1 h2 => by (exact hl.own.dWS q h1 h2)), (fun q h1 h2 => by (exact Or.elim (g_239 q h1) (fun k_256 => by (exact hl.own.dKS q k_256 h2)) (fun k_256 => by (have := uS q h2; omega)))), (fun q h1 h2 => by (exact Or.elim (g_239 q h1) (fun k_257 => by (exact hl.own.dKW q k_257 h2)) (fun k_257 => by (have := uW q h2; omega)))), (fun q h1 h2 => by (exact hl.own.dGS q h1 h2)), (fun q h1 h2 => by (exact hl.own.dGW q h1 h2)), (fun q h1 h2 => by (exact Or.elim (g_239 q h2) (fun k_258 => by (exact hl.own.dGK q h1 k_258)) (fun k_258 => by (have := uG q h1; omega)))), (fun q h1 h2 => by (exact hl.own.dHS q h1 h2)), (fun q h1 h2 => by (exact hl.own.dHW q h1 h2)), (fun q h1 h2 => by (exact Or.elim (g_239 q h2) (fun k_259 => by (exact hl.own.dHK q h1 k_259)) (fun k_259 => by (have := uH q h1; omega)))), (fun q h1 h2 => by (exact hl.own.dHG q h1 h2)), ⟨okI_iff.2 (by (try dsimp only); omega), okI_iff.2 (by (try dsimp only); omega), okI_iff.2 (by (try dsimp only); omega)⟩, hl.le, (fun q h1 h2 => by (exact hl.bS q h1 h2)), (fun q h1 h2 => by (exact hl.bW q h1 h2)), (fun q h1 h2 => by (exact Or.elim (g_239 q h1) (fun k_260 => by (exact hl.bK q k_260 h2)) (fun k_260 => by omega))), (fun q h1 h2 => by (exact hl.bG q h1 h2)), (fun q h1 h2 => by (exact hl.bH q h1 h2))⟩, (lft_in (fun q hq => .inl (in_lF_S hq)) (fun q hq => .inl (in_lF_W hq)) (fun q hq => (g_239 q hq).elim (zp_261 q) (fun h => .inr (by omega))) (fun q hq => .inl (in_lF_G hq)) (fun q hq => .inl (in_lF_H hq))), z_252⟩
end Go.Proofs.Ytfabhinehfhndaa
