/-
  link.New, Play. (Printed by bin/linkplay.py.)
-/
import Derived.Test.YtfabhinehfhndaaLnO
set_option linter.unusedVariables false
set_option linter.unusedSimpArgs false
namespace Go.Proofs.Ytfabhinehfhndaa
open Go.RowKit

theorem LnP_zv_api_Link : Zv Try.prog 55 (.agg #[.int .i64 0, .slice none 0 0, .int .i64 0, .int .i64 0, .slice none 0 0, .slice none 0 0, .slice none 0 0, .slice none 0 0]) := fun _ => by kernel_rfl
theorem LnP_sz_api_Link : Sz Try.prog 55 8 := fun _ => by kernel_rfl
theorem LnP_ag_api_Link : Ag Try.prog 55 true := fun _ => by kernel_rfl
theorem LnP_en_link_New : Enters Try.prog 55 := en Try.func55 (by kernel_rfl) (by kernel_rfl)
theorem LnP_sz_api_Event : Sz Try.prog 60 4 := fun _ => by kernel_rfl
theorem LnP_ag_api_Event : Ag Try.prog 60 true := fun _ => by kernel_rfl
theorem LnP_zv_api_Event : Zv Try.prog 60 (.agg #[.int .i64 0, .int .i64 0, .bool false, .string .empty]) := fun _ => by kernel_rfl
theorem LnP_en_link_Do : Enters Try.prog 31 := en Try.func31 (by kernel_rfl) (by kernel_rfl)
theorem LnP_el_S_api_Errno : ElT Try.prog repI 56 35 8 := ElT.mk_ (z := .int .i64 0) (k := 1) Try.underlying56 info_err rfl rfl (by decide) (fun j u h => raw0I j u h)
theorem hcV {w : World} {cs : List Value} {a : Evt} (h : Evt.rep.has w cs a) : cs = a.cells := And.left (show cs = a.cells ∧ a.ok from h)
def Lnk.none_ : Lnk := ⟨0, [], 0, 0, [], [], [], []⟩
def Lnk.new (window : Int) : Lnk := ⟨window, [], 0, 0, [], [], [], []⟩
def atN : Lnk.At := ⟨none, none, none, none, none, 0, 0, 0, 0, 0⟩
theorem LTop.none_ {w : World} {Z : Nat} {L : Lnk} (h1 : L.sent = []) (h2 : L.way = []) (h3 : L.acks = []) (h4 : L.got = []) (h5 : L.held = []) (hn : okI L.window ∧ okI L.base ∧ okI L.next) : LTop w Z atN L := by
  obtain ⟨wd, se, ba, ne, wa, ac, go, he⟩ := L
  simp only at h1 h2 h3 h4 h5
  subst h1 h2 h3 h4 h5
  exact ⟨Rep.SOwn.nil _, Rep.SOwn.nil _, Rep.SOwn.nil _, Rep.SOwn.nil _, TOwn.of (Rep.SOwn.nil _), by simp [atN, Rep.blkOf], by simp [atN, Rep.blkOf], by simp [atN, Rep.blkOf], by simp [atN, Rep.blkOf], by simp [atN, Rep.blkOf], by simp [atN, Rep.blkOf], by simp [atN, Rep.blkOf], by simp [atN, Rep.blkOf], by simp [atN, Rep.blkOf], by simp [atN, Rep.blkOf], hn⟩
/-- All events, one by one. -/
def playF (L : Lnk) (E : List Int) : List Evt → Lnk × List Int
  | [] => (L, E)
  | x :: r => playF (L.doR x).1 (E ++ [(L.doR x).2]) r
def playR (window : Int) (l : List Evt) : Lnk × List Int × Int :=
  if window < 1 ∨ 16 < window then (Lnk.none_, [], 1) else if 500 < l.length then (Lnk.none_, [], 2) else ((playF (Lnk.new window) [] l).1, (playF (Lnk.new window) [] l).2, 0)
theorem playF_len (l : List Evt) : ∀ (L : Lnk) (E : List Int), (playF L E l).2.length = E.length + l.length := by
  induction l with
  | nil => intro L E; rfl
  | cons x r ih => intro L E; rw [playF, ih, List.length_append]; simp only [List.length_cons, List.length_nil]; omega
theorem playF_snoc (l : List Evt) (x : Evt) : ∀ (L : Lnk) (E : List Int), playF L E (l ++ [x]) = (((playF L E l).1.doR x).1, (playF L E l).2 ++ [((playF L E l).1.doR x).2]) := by
  induction l with
  | nil => intro L E; rfl
  | cons y r ih => intro L E; exact ih _ _
theorem playF_take {l : List Evt} {k : Nat} (h : k < l.length) (L : Lnk) (E : List Int) : playF L E (l.take (k + 1)) = (((playF L E (l.take k)).1.doR (l.getD k default)).1, (playF L E (l.take k)).2 ++ [((playF L E (l.take k)).1.doR (l.getD k default)).2]) := by
  rw [take_succ_dd (d := default) h, playF_snoc]
theorem getOk {A : Option Addr} {c k by_ : Nat} {l : List Evt} {w : World} (h : Evt.rep.SHas by_ w A c l) (hk : k < l.length) : (l.getD k default).ok := Evt.all_ok h _ (mem_dd hk)
theorem doR_ok_ {L : Lnk} {x : Evt} : -9223372036854775808 ≤ (L.doR x).2 ∧ (L.doR x).2 ≤ 9223372036854775807 := by
  have hc : ∀ L : Lnk, 0 ≤ L.chk ∧ L.chk ≤ 7 := fun L => by unfold Lnk.chk; split <;> (try split) <;> (try split) <;> omega
  have hs : 0 ≤ L.send.2 ∧ L.send.2 ≤ 7 := by unfold Lnk.send; split <;> simp
  have hst : 0 ≤ (L.step x).2 ∧ (L.step x).2 ≤ 7 := by
    unfold Lnk.step
    repeat' split
    all_goals first | exact hs | simp
  have := hc L
  unfold Lnk.doR
  split
  · show _ ≤ L.chk ∧ L.chk ≤ _; omega
  · split
    · show _ ≤ (L.step x).2 ∧ (L.step x).2 ≤ _; omega
    · simp
section
variable {window : Int} {l : List Evt}
theorem playR_many (h : ¬ (window < 1 ∨ 16 < window)) (h2 : 500 < l.length) : playR window l = (Lnk.none_, [], 2) := by unfold playR; rw [if_neg h, if_pos h2]
theorem playR_ok (h : ¬ (window < 1 ∨ 16 < window)) (h2 : ¬ 500 < l.length) : playR window l = ((playF (Lnk.new window) [] l).1, (playF (Lnk.new window) [] l).2, 0) := by unfold playR; rw [if_neg h, if_neg h2]
end
set_option maxRecDepth 100000 in
set_option maxHeartbeats 400000 in
theorem lnew_any (window : Int) (w : World) :
    Calls Try.prog 55 #[.int .i64 window] w (fun e w' => e = .returned (.tuple #[.agg (Lnk.cells atN (if window < 1 ∨ 16 < window then Lnk.none_ else Lnk.new window)).toArray, .int .i64 (if window < 1 ∨ 16 < window then 1 else 0)]) ∧ Ext w w') := by
  refine calls_W (n := 13) Try.func55 rfl rfl rfl ?_
  refine sq <| rg <| al rfl LnP_zv_api_Link rfl rfl fun w_1 b_2 x_3 l_4 B_5 => ?_
  have q_6 := x_3.size
  have z_1 := Ext.tr (Ext.rf w) x_3
  have q_7 := B_5.lt
  refine vl (as_ rfl) rfl <| nl <| nT <| sq <| sq <| rg <| vl (mv rfl) rfl <| vl (blt rfl rfl) rfl <| vl (mv rfl) rfl <| vQ rfl rfl rfl rfl (fun hc => mv rfl) rfl <| vQ rfl rfl rfl rfl (fun hc => bgt (gt hc rfl) rfl) rfl <| vl (pO rfl rfl rfl rfl) rfl <| nl <| nT <| ?_
  refine cb rfl (fun h_8 => ?_) (fun h_8 => ?_)
  · try simp only [Bool.or_eq_true, Bool.or_eq_false_iff, Bool.and_eq_true, Bool.and_eq_false_iff, decide_eq_true_eq, decide_eq_false_iff_not, beq_iff_eq, bne_iff_ne, beq_eq_false_iff_ne, bne_eq_false_iff_eq, Bool.not_eq_true', Bool.not_eq_false', Bool.not_eq_true, Bool.not_eq_false, Int.not_lt, Int.not_le, Nat.not_lt, Nat.not_le, ne_eq, Classical.not_not] at h_8
    have hwn : window < 1 ∨ 16 < window := by omega
    refine sq <| rg <| vl (v := .agg #[.int .i64 0, .slice none 0 0, .int .i64 0, .int .i64 0, .slice none 0 0, .slice none 0 0, .slice none 0 0, .slice none 0 0]) (bd rfl (by kernel_rfl)) rfl <| st (new := [.int .i64 0, .slice none 0 0, .int .i64 0, .int .i64 0, .slice none 0 0, .slice none 0 0, .slice none 0 0, .slice none 0 0]) rfl rfl B_5 rfl LnP_sz_api_Link rfl rfl rfl fun w_9 m_10 B_5 => ?_
    have q_12 := m_10.size
    have z_9 := Ext.mod z_1 m_10 (by simp only [List.mem_singleton, forall_eq]; omega)
    have q_11 := m_10.size
    refine vl (as_ rfl) rfl <| nl <| nT <| rt <| tT <| tR (.cell rfl (B_5.all LnP_ag_api_Link LnP_sz_api_Link) (.tmp rfl .nil)) <| ?_
    exact ⟨by simp only [if_pos hwn]; rfl, z_9⟩
  · try simp only [Bool.or_eq_true, Bool.or_eq_false_iff, Bool.and_eq_true, Bool.and_eq_false_iff, decide_eq_true_eq, decide_eq_false_iff_not, beq_iff_eq, bne_iff_ne, beq_eq_false_iff_ne, bne_eq_false_iff_eq, Bool.not_eq_true', Bool.not_eq_false', Bool.not_eq_true, Bool.not_eq_false, Int.not_lt, Int.not_le, Nat.not_lt, Nat.not_le, ne_eq, Classical.not_not] at h_8
    have hwn : ¬ (window < 1 ∨ 16 < window) := by omega
    refine sk <| nT <| sq <| rg <| vl (mv rfl) rfl <| vl (v := .agg #[.int .i64 window, .slice none 0 0, .int .i64 0, .int .i64 0, .slice none 0 0, .slice none 0 0, .slice none 0 0, .slice none 0 0]) (bd rfl (by kernel_rfl)) rfl <| st (new := [.int .i64 window, .slice none 0 0, .int .i64 0, .int .i64 0, .slice none 0 0, .slice none 0 0, .slice none 0 0, .slice none 0 0]) rfl rfl B_5 rfl LnP_sz_api_Link rfl rfl rfl fun w_13 m_14 B_5 => ?_
    have q_16 := m_14.size
    have z_13 := Ext.mod z_1 m_14 (by simp only [List.mem_singleton, forall_eq]; omega)
    have q_15 := m_14.size
    refine vl (as_ rfl) rfl <| nl <| nT <| rt <| tR (.cell rfl (B_5.all LnP_ag_api_Link LnP_sz_api_Link) (.tmp rfl .nil)) <| ?_
    exact ⟨by simp only [if_neg hwn]; rfl, z_13⟩
set_option maxRecDepth 100000 in
set_option maxHeartbeats 400000 in
theorem lplay_any (window : Int) (A : Option Addr) (c : Nat) (l : List Evt) (w : World) (hl : Evt.rep.SHas 40 w A c l) (hwn : ¬ (window < 1 ∨ 16 < window)) :
    Calls Try.prog 26 #[.int .i64 window, .slice A l.length c] w (fun e w' => ∃ a' A' c', e = .returned (.tuple #[.agg (Lnk.cells a' (playR window l).1).toArray, .slice A' (playR window l).2.1.length c', .int .i64 (playR window l).2.2]) ∧ LTop w' w.heap.size a' (playR window l).1 ∧ repI.SOwn 35 8 w' w.heap.size (Rep.blkOf A') A' c' (playR window l).2.1 ∧ Ext w w') := by
  have hll := hl.len_le
  refine calls_W (n := 44) Try.func26 rfl rfl rfl ?_
  refine sq <| rg <| al rfl LnP_zv_api_Link rfl rfl fun w_1 b_2 x_3 l_4 B_5 => ?_
  have q_6 := x_3.size
  have z_1 := Ext.tr (Ext.rf w) x_3
  have q_7 := B_5.lt
  refine vl (as_ rfl) rfl <| vl (as_ rfl) rfl <| nl <| nT <| sq <| rg <| vl (mv rfl) rfl <| ca LnP_en_link_New rfl rfl (((show Calls _ _ _ _ (fun e w' => e = .returned (.tuple #[.agg #[.int .i64 window, .slice none 0 0, .int .i64 0, .int .i64 0, .slice none 0 0, .slice none 0 0, .slice none 0 0, .slice none 0 0], .int .i64 0]) ∧ Ext _ w') from (lnew_any window _).mono fun e w' ⟨h1, h2⟩ => ⟨by rw [h1]; simp only [if_neg hwn]; rfl, h2⟩)).mono ?_)
  rintro e w_8 ⟨rfl, x_9⟩
  refine ⟨_, rfl, ?_⟩
  have q_10 := x_9.size
  have z_8 := Ext.tr z_1 x_9
  refine vl (mv rfl) rfl <| vl (ex rfl rfl) rfl <| vl (ex rfl rfl) rfl <| al rfl LnP_zv_api_Link rfl rfl fun w_11 b_12 x_13 l_14 B_15 => ?_
  have q_16 := x_13.size
  have z_11 := Ext.tr z_8 x_13
  have q_17 := B_15.lt
  refine st (new := [.int .i64 window, .slice none 0 0, .int .i64 0, .int .i64 0, .slice none 0 0, .slice none 0 0, .slice none 0 0, .slice none 0 0]) rfl rfl B_15 rfl LnP_sz_api_Link rfl rfl rfl fun w_18 m_19 B_15 => ?_
  have q_21 := m_19.size
  have z_18 := Ext.mod z_11 m_19 (by simp only [List.mem_singleton, forall_eq]; omega)
  have q_20 := m_19.size
  refine vl (as_ rfl) rfl <| nl <| nT <| sq <| sq <| rg <| vl (mv rfl) rfl <| vl (bne rfl rfl) rfl <| nl <| nT <| cF rfl <| sk <| nT <| sq <| sq <| rg <| vl (mv rfl) rfl <| vl (ln Try.underlying52 rfl) rfl <| vl (bgt rfl rfl) rfl <| nl <| nT <| ?_
  refine clt rfl (fun h_22 => ?_) (fun h_22 => ?_)
  · try simp only [Bool.or_eq_true, Bool.or_eq_false_iff, Bool.and_eq_true, Bool.and_eq_false_iff, decide_eq_true_eq, decide_eq_false_iff_not, beq_iff_eq, bne_iff_ne, beq_eq_false_iff_ne, bne_eq_false_iff_eq, Bool.not_eq_true', Bool.not_eq_false', Bool.not_eq_true, Bool.not_eq_false, Int.not_lt, Int.not_le, Nat.not_lt, Nat.not_le, ne_eq, Classical.not_not] at h_22
    have h500 : 500 < l.length := by omega
    refine sq <| rg <| vl (v := .agg #[.int .i64 0, .slice none 0 0, .int .i64 0, .int .i64 0, .slice none 0 0, .slice none 0 0, .slice none 0 0, .slice none 0 0]) (bd rfl (by kernel_rfl)) rfl <| ?_
    have B_5 := B_5.later (Ext.tr x_9 x_13)
    have B_5 := B_5.mod m_19 (by simp only [List.mem_singleton]; omega)
    refine st (new := [.int .i64 0, .slice none 0 0, .int .i64 0, .int .i64 0, .slice none 0 0, .slice none 0 0, .slice none 0 0, .slice none 0 0]) rfl rfl B_5 rfl LnP_sz_api_Link rfl rfl rfl fun w_23 m_24 B_5 => ?_
    have q_26 := m_24.size
    have z_23 := Ext.mod z_18 m_24 (by simp only [List.mem_singleton, forall_eq]; omega)
    have q_25 := m_24.size
    refine vl (as_ rfl) rfl <| vl (as_ rfl) rfl <| nl <| nT <| rt <| tT <| tR (.cell rfl (B_5.all LnP_ag_api_Link LnP_sz_api_Link) (.tmp rfl (.tmp rfl .nil))) <| ?_
    exact ⟨atN, none, 0, by rw [playR_many hwn h500]; rfl, by rw [playR_many hwn h500]; exact LTop.none_ rfl rfl rfl rfl rfl ⟨okI_iff.2 (by decide), okI_iff.2 (by decide), okI_iff.2 (by decide)⟩, by rw [playR_many hwn h500]; exact Rep.SOwn.nil _, z_23⟩
  · try simp only [Bool.or_eq_true, Bool.or_eq_false_iff, Bool.and_eq_true, Bool.and_eq_false_iff, decide_eq_true_eq, decide_eq_false_iff_not, beq_iff_eq, bne_iff_ne, beq_eq_false_iff_ne, bne_eq_false_iff_eq, Bool.not_eq_true', Bool.not_eq_false', Bool.not_eq_true, Bool.not_eq_false, Int.not_lt, Int.not_le, Nat.not_lt, Nat.not_le, ne_eq, Classical.not_not] at h_22
    have h500 : ¬ 500 < l.length := by omega
    refine sk <| nT <| sq <| rg <| vl (as_ rfl) rfl <| nl <| nT <| sq <| sq <| rg <| vl (mv rfl) rfl <| vl (ln Try.underlying52 rfl) rfl <| vl (mv rfl) rfl <| nl <| nT <| bk <| ?_
    have HT0 : LTop w_18 w.heap.size atN (Lnk.new window) := LTop.none_ rfl rfl rfl rfl rfl ⟨okI_iff.2 (by (try dsimp only [Lnk.new]); omega), okI_iff.2 (by dsimp only [Lnk.new]; decide), okI_iff.2 (by dsimp only [Lnk.new]; decide)⟩
    have B_5 := B_5.later (Ext.tr x_9 x_13)
    have B_5 := B_5.mod m_19 (by simp only [List.mem_singleton]; omega)
    refine lp (fun mI EI wI => ∃ k : Nat, ∃ a1 : Lnk.At, ∃ A1 : Option Addr, ∃ c1 : Nat, EI = [(4, .pointer (some ⟨b_2, 0, none⟩)), (5, .slice none 0 0), (6, .int .i64 0), (7, .pointer (some ⟨b_12, 0, none⟩)), (9, .slice A1 (((playF (Lnk.new window) [] (l.take k)).2).length) c1), (25, .slice A l.length c), (26, .int .i64 (l.length : Int)), (27, .int .i64 (k : Int))] ∧ mI = l.length - k ∧ Ext w wI ∧ Blk wI b_2 [.int .i64 0, .slice none 0 0, .int .i64 0, .int .i64 0, .slice none 0 0, .slice none 0 0, .slice none 0 0, .slice none 0 0] 55 (0, 0) ∧ Blk wI b_12 [.int .i64 ((playF (Lnk.new window) [] (l.take k)).1.window), .slice a1.S ((playF (Lnk.new window) [] (l.take k)).1.sent.length) a1.s, .int .i64 ((playF (Lnk.new window) [] (l.take k)).1.base), .int .i64 ((playF (Lnk.new window) [] (l.take k)).1.next), .slice a1.W ((playF (Lnk.new window) [] (l.take k)).1.way.length) a1.w, .slice a1.K ((playF (Lnk.new window) [] (l.take k)).1.acks.length) a1.k, .slice a1.G ((playF (Lnk.new window) [] (l.take k)).1.got.length) a1.g, .slice a1.H ((playF (Lnk.new window) [] (l.take k)).1.held.length) a1.h] 55 (0, 0) ∧ LTop wI w.heap.size a1 ((playF (Lnk.new window) [] (l.take k)).1) ∧ repI.SOwn 35 8 wI w.heap.size (Rep.blkOf A1) A1 c1 ((playF (Lnk.new window) [] (l.take k)).2) ∧ (k ≤ l.length) ∧ (∀ q ∈ lft a1, q ≠ b_2) ∧ (∀ q ∈ lft a1, q ≠ b_12) ∧ (∀ q ∈ Rep.blkOf A1, q = b_2 → False) ∧ (∀ q ∈ Rep.blkOf A1, q = b_12 → False)) _ _ ⟨0, atN, none, 0, rfl, rfl, z_18, B_5, B_15, HT0, (Rep.SOwn.nil _), by omega, (fun q hq => by simp [lft, atN, Rep.blkOf] at hq), (fun q hq => by simp [lft, atN, Rep.blkOf] at hq), (fun q hq hb => by (simp [Rep.blkOf] at hq)), (fun q hq hb => by (simp [Rep.blkOf] at hq))⟩ (.cons rfl (.cons rfl (.cons rfl (.cons rfl (.cons rfl (.cons rfl (.cons rfl (.cons (loI rfl (by first | omega | rfl | (simp <;> omega))) .nil)))))))) ?_
    rintro m_30 E_31 w_29 ⟨k, a1, A1, c1, rfl, rfl, z_29, B_5, HB1, HT1, OE1, hk, hd4, hd7, d_27, d_28⟩
    have q_32 := z_29.size
    have q_33 := B_5.lt
    have q_34 := HB1.lt
    have u_35 := fun q hq => (OE1.lt q hq).2
    have bdHT1 := fun q hq => HT1.lt (q := q) hq
    refine sq <| rg <| vl (blt rfl rfl) rfl <| nl <| nT <| sq <| ?_
    refine clt rfl (fun h_36 => ?_) (fun h_36 => ?_)
    · refine sk <| nT <| sq <| bk <| sq <| rg <| vl (iA k Try.underlying52 LnP_sz_api_Event rfl rfl ((hl.keep z_29).adr (Nat.zero_lt_of_lt (show k < _ from (by omega)))) rfl (by omega)) rfl <| vl (ld rfl (Rep.SHas.elt hcV ((hl.keep z_29).adh (Nat.zero_lt_of_lt (show k < _ from (by omega)))) (get_d (l := l) (u := default) (by omega)) LnP_ag_api_Event LnP_sz_api_Event)) rfl <| al rfl LnP_zv_api_Event rfl rfl fun w_37 b_38 x_39 l_40 B_41 => ?_
      have q_42 := x_39.size
      have z_37 := Ext.tr z_29 x_39
      have q_43 := B_41.lt
      refine st (new := [.int .i64 ((l.getD k default).kind), .int .i64 ((l.getD k default).at_), .bool ((l.getD k default).keep), .string ((l.getD k default).text)]) rfl rfl B_41 rfl LnP_sz_api_Event rfl rfl rfl fun w_44 m_45 B_41 => ?_
      have q_47 := m_45.size
      have z_44 := Ext.mod z_37 m_45 (by simp only [List.mem_singleton, forall_eq]; omega)
      have q_46 := m_45.size
      refine nl <| nT <| sq <| rg <| ?_
      have HB1 := HB1.later x_39
      have HB1 := HB1.mod m_45 (by simp only [List.mem_singleton]; omega)
      refine vl (ld rfl (HB1.all LnP_ag_api_Link LnP_sz_api_Link)) rfl <| vl (ld rfl (B_41.all LnP_ag_api_Event LnP_sz_api_Event)) rfl <| ?_
      have HT1 := HT1.later x_39
      have HT1 := HT1.mod m_45 (fun q hq h => by have e_ := List.mem_singleton.1 h; have := bdHT1 q hq; have := hd4 q hq; have := hd7 q hq; omega)
      refine ca LnP_en_link_Do rfl rfl ((lDo_any a1 ((playF (Lnk.new window) [] (l.take k)).1) (l.getD k default) _ HT1.has (getOk hl (by omega))).mono ?_)
      rintro e w_49 ⟨b_48, rfl, HD_48, x_50⟩
      refine ⟨_, rfl, ?_⟩
      have q_51 := x_50.size
      have z_49 := Ext.tr z_44 x_50
      have bdHD_48 := fun q hq => HD_48.lt (q := q) hq
      have loHD_48 := fun q hq => (HD_48.lt (q := q) hq).1
      refine vl (mv rfl) rfl <| vl (ex rfl rfl) rfl <| vl (ex rfl rfl) rfl <| ?_
      have HB1 := HB1.later x_50
      refine st (new := [.int .i64 ((((playF (Lnk.new window) [] (l.take k)).1).doR (l.getD k default)).1.window), .slice b_48.S ((((playF (Lnk.new window) [] (l.take k)).1).doR (l.getD k default)).1.sent.length) b_48.s, .int .i64 ((((playF (Lnk.new window) [] (l.take k)).1).doR (l.getD k default)).1.base), .int .i64 ((((playF (Lnk.new window) [] (l.take k)).1).doR (l.getD k default)).1.next), .slice b_48.W ((((playF (Lnk.new window) [] (l.take k)).1).doR (l.getD k default)).1.way.length) b_48.w, .slice b_48.K ((((playF (Lnk.new window) [] (l.take k)).1).doR (l.getD k default)).1.acks.length) b_48.k, .slice b_48.G ((((playF (Lnk.new window) [] (l.take k)).1).doR (l.getD k default)).1.got.length) b_48.g, .slice b_48.H ((((playF (Lnk.new window) [] (l.take k)).1).doR (l.getD k default)).1.held.length) b_48.h]) rfl rfl HB1 rfl LnP_sz_api_Link rfl rfl rfl fun w_52 m_53 HB1 => ?_
      have q_55 := m_53.size
      have z_52 := Ext.mod z_49 m_53 (by simp only [List.mem_singleton, forall_eq]; omega)
      have q_54 := m_53.size
      refine vl (as_ rfl) rfl <| nl <| nT <| rg <| vl (mv rfl) rfl <| vl (mv rfl) rfl <| bs (e := 35) (cs := [.int .i64 ((((playF (Lnk.new window) [] (l.take k)).1).doR (l.getD k default)).2)]) rfl (fun _ => by kernel_rfl) rfl fun w_56 b_57 x_58 l_59 B_60 => ?_
      have q_61 := x_58.size
      have z_56 := Ext.tr z_52 x_58
      have q_62 := B_60.lt
      have OE1 := OE1.later x_39
      have OE1 := OE1.mod m_45 (fun q hq h => by have hb := List.mem_singleton.1 h; exfalso; (have := u_35 q hq; omega))
      have OE1 := OE1.later x_50
      have OE1 := OE1.mod m_53 (fun q hq h => by have hb := List.mem_singleton.1 h; exfalso; (exact d_28 q hq hb))
      have OE1 := OE1.later x_58
      refine ap LnP_el_S_api_Errno Rep.flat_bare OE1 (Blk.has1 (R := repI) (by_ := 8) (q := (((playF (Lnk.new window) [] (l.take k)).1).doR (l.getD k default)).2) B_60 ⟨rfl, okI_iff.2 doR_ok_⟩ (by decide)) rfl rfl (by have := playF_len (l.take k) (Lnk.new window) []; rw [List.length_take] at this; simp only [List.length_append, List.length_cons, List.length_nil] at *; omega) (by have := playF_len (l.take k) (Lnk.new window) []; rw [List.length_take] at this; simp only [List.length_append, List.length_cons, List.length_nil] at *; omega) (by omega) rfl fun w_63 A_64 c_65 m_66 O_67 g_68 n_69 => ?_
      have q_70 := m_66.size
      have z_63 := Ext.mod z_56 m_66 (fun q hq => Nat.le_trans (by omega) (OE1.lt q hq).1)
      have u_71 := fun q hq => (O_67.lt q hq).2
      have q_72 := m_66.size
      refine vl (as_ rfl) rfl <| nl <| nB <| nT <| rg <| vl (bad rfl rfl (inI (by omega))) rfl <| vl (mv rfl) rfl <| nl <| ?_
      have HD_48 := HD_48.mod m_53 (fun q hq h => by have e_ := List.mem_singleton.1 h; have := bdHD_48 q hq; omega)
      have HD_48 := HD_48.later x_58
      have HD_48 := HD_48.mod m_66 (fun q hq h => by have := bdHD_48 q hq; exfalso; (have := loHD_48 q hq; (have := u_35 q h; omega)))
      have ep := playF_take (l := l) (k := k) (by omega) (Lnk.new window) []
      have B_5 := B_5.later x_39
      have B_5 := B_5.mod m_45 (by simp only [List.mem_singleton]; omega)
      have B_5 := B_5.later x_50
      have B_5 := B_5.mod m_53 (by simp only [List.mem_singleton]; omega)
      have B_5 := B_5.later x_58
      have B_5 := B_5.mod m_66 (fun hq => d_27 _ hq rfl)
      have HB1 := HB1.later x_58
      have HB1 := HB1.mod m_66 (fun hq => d_28 _ hq rfl)
      exact nI _ _ ⟨k + 1, b_48, A_64, c_65, rfl, rfl, z_63, B_5, (by rw [ep]; exact HB1), (by rw [ep]; exact HD_48.down (by omega)), (by rw [ep]; exact O_67), by omega, (fun q hq e => by have := bdHD_48 q hq; omega), (fun q hq e => by have := bdHD_48 q hq; omega), (fun q hq hb => by (exact Or.elim (g_68 q hq) (fun k_73 => by (exact d_27 q k_73 hb)) (fun k_73 => by omega))), (fun q hq hb => by (exact Or.elim (g_68 q hq) (fun k_74 => by (exact d_28 q k_74 hb)) (fun k_74 => by omega)))⟩ (by omega) (.cons rfl (.cons rfl (.cons rfl (.cons rfl (.cons (by rw [ep]; rfl) (.cons rfl (.cons rfl (.cons (loI rfl (by first | omega | rfl | (simp <;> omega))) .nil))))))))
    · refine xt <| xT <| xK <| xB <| nT <| sq <| rg <| vl (ld rfl (HB1.all LnP_ag_api_Link LnP_sz_api_Link)) rfl <| vl (mv rfl) rfl <| st (new := [.int .i64 ((playF (Lnk.new window) [] (l.take k)).1.window), .slice a1.S ((playF (Lnk.new window) [] (l.take k)).1.sent.length) a1.s, .int .i64 ((playF (Lnk.new window) [] (l.take k)).1.base), .int .i64 ((playF (Lnk.new window) [] (l.take k)).1.next), .slice a1.W ((playF (Lnk.new window) [] (l.take k)).1.way.length) a1.w, .slice a1.K ((playF (Lnk.new window) [] (l.take k)).1.acks.length) a1.k, .slice a1.G ((playF (Lnk.new window) [] (l.take k)).1.got.length) a1.g, .slice a1.H ((playF (Lnk.new window) [] (l.take k)).1.held.length) a1.h]) rfl rfl B_5 rfl LnP_sz_api_Link rfl rfl rfl fun w_75 m_76 B_5 => ?_
      have q_78 := m_76.size
      have z_75 := Ext.mod z_29 m_76 (by simp only [List.mem_singleton, forall_eq]; omega)
      have q_77 := m_76.size
      refine vl (as_ rfl) rfl <| vl (as_ rfl) rfl <| nl <| nT <| rt <| tR (.cell rfl (B_5.all LnP_ag_api_Link LnP_sz_api_Link) (.tmp rfl (.tmp rfl .nil))) <| ?_
      have OE1 := OE1.mod m_76 (fun q hq h => by have hb := List.mem_singleton.1 h; exfalso; (exact d_27 q hq hb))
      have HT1 := HT1.mod m_76 (fun q hq h => by have e_ := List.mem_singleton.1 h; have := bdHT1 q hq; have := hd4 q hq; have := hd7 q hq; omega)
      obtain rfl : k = l.length := by omega
      have ex : l.take l.length = l := List.take_length
      exact ⟨a1, A1, c1, by rw [playR_ok hwn h500, ← ex]; simp only [List.take_length]; rfl, by rw [playR_ok hwn h500]; have h := HT1; rw [ex] at h; exact h, by rw [playR_ok hwn h500]; have h := OE1; rw [ex] at h; exact h, z_75⟩
end Go.Proofs.Ytfabhinehfhndaa
