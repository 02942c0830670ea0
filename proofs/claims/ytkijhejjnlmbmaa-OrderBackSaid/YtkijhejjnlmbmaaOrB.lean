/-
  OrderBack. (Printed by bin/orderlaw.py.)
-/
import Derived.Test.YtkijhejjnlmbmaaOrw
import Derived.Test.YtkijhejjnlmbmaaFldP
import Derived.Test.YtkijhejjnlmbmaaEql
set_option linter.unusedVariables false
set_option linter.unusedSimpArgs false
namespace Go.Proofs.Ytkijhejjnlmbmaa
open Go.RowKit

theorem OrB_sz_api_Order : Sz Try.prog 88 6 := fun _ => by kernel_rfl
theorem OrB_ag_api_Order : Ag Try.prog 88 true := fun _ => by kernel_rfl
theorem OrB_eqs_api_Order : EqS Try.prog Odr.cells 88 := by
  intro a b w
  obtain ⟨a0, a1, a2, ⟨a3, a4⟩, a5⟩ := a
  obtain ⟨b0, b1, b2, ⟨b3, b4⟩, b5⟩ := b
  simp only [Odr.cells, Odr.mk.injEq, Cel.mk.injEq]
  constructor
  · go_simp
    repeat' split
    all_goals simp_all
  · go_simp
    repeat' split
    all_goals simp_all
theorem OrB_eqg_api_Order : (Try.prog).eqGuardType (Try.prog).depth 88 = false := by kernel_rfl
theorem OrB_en_order_Write : Enters Try.prog 52 := en Try.func52 (by kernel_rfl) (by kernel_rfl)
theorem OrB_en_order_Read : Enters Try.prog 53 := en Try.func53 (by kernel_rfl) (by kernel_rfl)
theorem OrB_en_slices_Equal_S_api_Order_api_Order_ : Enters Try.prog 54 := en Try.func54 (by kernel_rfl) (by kernel_rfl)
theorem OrB_en_mustkeep_orderLives : Enters Try.prog 55 := en Try.func55 (by kernel_rfl) (by kernel_rfl)
theorem nums_cons (o : Odr) (l : List Odr) : nums (o :: l) = o.by_ :: o.kind :: o.who :: o.spot.x :: o.spot.y :: o.what :: nums l := rfl
theorem nums_inj : ∀ {a b : List Odr}, nums a = nums b → a = b
  | [], [], _ => rfl
  | [], o :: b, h => by rw [nums_cons] at h; exact nomatch h
  | o :: a, [], h => by rw [nums_cons] at h; exact nomatch h
  | o :: a, p :: b, h => by
    rw [nums_cons, nums_cons] at h
    injection h with h1 h
    injection h with h2 h
    injection h with h3 h
    injection h with h4 h
    injection h with h5 h
    injection h with h6 h
    have e : o = p := by
      obtain ⟨a1, a2, a3, ⟨a4, a5⟩, a6⟩ := o
      obtain ⟨c1, c2, c3, ⟨c4, c5⟩, c6⟩ := p
      simp only at h1 h2 h3 h4 h5 h6
      subst h1 h2 h3 h4 h5 h6; rfl
    rw [e, nums_inj h]
theorem list6 {l : List Int} (h : l.length = 6) : [l.getD 0 0, l.getD 1 0, l.getD 2 0, l.getD 3 0, l.getD 4 0, l.getD 5 0] = l := by
  match l, h with
  | [a, b, c, d, e, f], _ => rfl
theorem nums_ords {out : List Int} {q : Nat} (h : out.length = q * 6) : nums (ordsQ out q) = out := by
  have e : nums (ordsQ out q) = (List.finRange q).flatMap fun k => (out.drop (k.1 * 6)).take 6 := by
    unfold nums ordsQ
    rw [List.flatMap_map]
    have e2 : (fun k : Fin q => [(ordOf (chunkAt out k.1)).by_, (ordOf (chunkAt out k.1)).kind, (ordOf (chunkAt out k.1)).who, (ordOf (chunkAt out k.1)).spot.x, (ordOf (chunkAt out k.1)).spot.y, (ordOf (chunkAt out k.1)).what]) = fun k : Fin q => (out.drop (k.1 * 6)).take 6 := by
      funext k
      have hk := k.2
      have h6 := chunk_len (l := out) (k := k.1) (by omega)
      have h7 : chunkAt out k.1 = (out.drop (k.1 * 6)).take 6 := by unfold chunkAt; congr 1; omega
      rw [← h7]
      exact list6 h6
    exact congrArg (fun f => (List.finRange q).flatMap f) e2
  rw [e]; exact chunks 6 q out h
theorem nums_i64 {l : List Odr} (h : ∀ o ∈ l, o.ok) : I64 (nums l) := by
  intro x hx
  obtain ⟨o, ho, hx⟩ := List.mem_flatMap.1 hx
  obtain ⟨o0, o1, o2, o3, o4, o5⟩ := h o ho
  simp only [List.mem_cons, List.not_mem_nil, or_false] at hx
  rcases hx with rfl | rfl | rfl | rfl | rfl | rfl
  · exact okI_iff.1 o0
  · exact okI_iff.1 o1
  · exact okI_iff.1 o2
  · exact okI_iff.1 o3
  · exact okI_iff.1 o4
  · exact okI_iff.1 o5
theorem oread_back {l m : List Odr} {k : Int} (h : ordsE l = 0) (hok : ∀ o ∈ l, o.ok) (hR : ReadIs (wrT l) m k) : k = 0 ∧ m = l := by
  have hw := wrT_ok h
  have hn := nums_len l
  have h100 := (ordsE_zero h).1
  have ho : Crc.openS (wrT l) = (Pack.strOf (Pack.putAllL (nums l)), 0) := by rw [hw]; exact Crc.open_seal _
  have hq : (nums l).length = l.length * 6 := by omega
  have hf : ordsF (nums l) = l := by
    rw [ordsF_q hq]
    exact nums_inj (nums_ords hq)
  rcases hR with ⟨h1, _⟩ | ⟨_, out, j, hG, h2⟩
  · rw [ho] at h1; exact absurd rfl h1
  · rw [ho] at hG
    obtain ⟨hj, rfl⟩ := Pack.gotAll_put (nums_i64 hok) (by omega) hG
    rcases h2 with ⟨h3, _⟩ | ⟨_, h3, _⟩ | ⟨_, _, ⟨h3, _⟩ | ⟨h3, h4, h5⟩⟩
    · exact absurd hj h3
    · omega
    · rw [hf] at h3; exact absurd h h3
    · exact ⟨h5, by rw [h4, hf]⟩
theorem read_wrote {s : ByteArray} {m : List Odr} {k : Int} (hR : ReadIs s m k) : (k = 0 → ordsE m = 0 ∧ wrT m = s) ∧ (k ≠ 0 → m = []) := by
  rcases hR with ⟨h1, h2, h3⟩ | ⟨h1, out, j, hG, h2⟩
  · exact ⟨fun h => absurd (h3 ▸ h) h1, fun _ => h2⟩
  · rcases h2 with ⟨h3, h4, h5⟩ | ⟨_, h3, h4, h5⟩ | ⟨hj, h6, ⟨h3, h4, h5⟩ | ⟨h3, h4, h5⟩⟩
    · exact ⟨fun h => absurd (h5 ▸ h) h3, fun _ => h4⟩
    · exact ⟨fun h => by omega, fun _ => h4⟩
    · exact ⟨fun h => absurd (h5 ▸ h) h3, fun _ => h4⟩
    · refine ⟨fun _ => ?_, fun h => absurd h5 h⟩
      subst h4
      refine ⟨h3, ?_⟩
      have hq : out.length = (out.length / 6) * 6 := by omega
      rw [wrT_ok h3, ordsF_q hq, nums_ords hq, ← (hG.2.1 hj).1]
      rcases Crc.open_back s with ⟨_, h7⟩ | ⟨h7, _⟩
      · exact h7
      · omega
theorem wrT_size (l : List Odr) : (wrT l).size ≤ 140737488351232 := by
  by_cases h : ordsE l = 0
  · have h1 := (ordsE_zero h).1
    have h2 := nums_len l
    have h3 := Pack.putAll_len (nums l)
    rw [wrT_ok h, Crc.sealS_size, Pack.strOf_size]; omega
  · rw [wrT_no h]; decide
def ordL : List Odr := [⟨1, 2, 7, ⟨2, -1⟩, 0⟩]
theorem ordL_ok : ordsE ordL = 0 := by decide +kernel
theorem ordL_size : (wrT ordL).size = 11 := by decide +kernel
set_option maxRecDepth 100000 in
set_option maxHeartbeats 400000 in
theorem equal_O (A B : Option Addr) (c d b1 b2 : Nat) (l m : List Odr) (w : World) (h1 : Odr.rep.SHas b1 w A c l) (h2 : Odr.rep.SHas b2 w B d m) :
    Calls Try.prog 54 #[.slice A l.length c, .slice B m.length d] w (fun e w' => e = .returned (.bool (decide (l = m))) ∧ Ext w w') := by
  have hle := h1.len_le
  refine calls_W (n := 26) Try.func54 rfl rfl rfl ?_
  refine sq <| rg <| vl (as_ rfl) rfl <| nl <| nT <| sq <| sq <| rg <| vl (mv rfl) rfl <| vl (ln Try.underlying82 rfl) rfl <| vl (mv rfl) rfl <| vl (ln Try.underlying82 rfl) rfl <| vl (bne rfl rfl) rfl <| nl <| nT <| ?_
  refine cne rfl (fun h_1 => ?_) (fun h_1 => ?_)
  · refine sq <| rg <| vl (as_ rfl) rfl <| nl <| nT <| rt <| tT <| tR (.tmp rfl .nil) <| ?_
    rw [decide_eq_false (fun e => h_1 (by rw [e]))]
    exact ⟨rfl, (Ext.rf w)⟩
  · refine sk <| nT <| sq <| sq <| rg <| vl (mv rfl) rfl <| vl (ln Try.underlying82 rfl) rfl <| vl (mv rfl) rfl <| nl <| nT <| bk <| ?_
    refine lp (fun mI EI wI => ∃ k : Nat, EI = [(0, .slice A l.length c), (1, .slice B m.length d), (12, .int .i64 (l.length : Int)), (13, .int .i64 (k : Int))] ∧ mI = l.length - k ∧ Ext w wI ∧ (k ≤ l.length) ∧ (∀ j, j < k → l[j]? = m[j]?)) _ _ ⟨0, rfl, rfl, (Ext.rf w), by omega, fun j hj => absurd hj (by omega)⟩ (.cons rfl (.cons rfl (.cons rfl (.cons (loI rfl (by first | omega | rfl | (simp <;> omega))) .nil)))) ?_
    rintro m_3 E_4 w_2 ⟨k, rfl, rfl, z_2, hk, hk2⟩
    have q_5 := z_2.size
    have hle := h1.len_le
    have hle2 := h2.len_le
    refine sq <| rg <| vl (blt rfl rfl) rfl <| nl <| nT <| sq <| ?_
    refine clt rfl (fun h_6 => ?_) (fun h_6 => ?_)
    · obtain ⟨x1, hx1⟩ := get_of (l := l) (i := k) (by omega)
      obtain ⟨y1, hy1⟩ := get_of (l := m) (i := k) (by omega)
      refine sk <| nT <| sq <| bk <| sq <| rg <| vl (mv rfl) rfl <| vl (as_ rfl) rfl <| nl <| nT <| sq <| ?_
      refine rd [(3, 0), (7, 0)] [0, 1, 2, 3, 4, 5, 6, 7, 8] (by kernel_rfl) (by kernel_rfl) ?_
      refine fw rfl rfl (fun _ => mv rfl) rfl <| fw rfl rfl (fun _ => mv rfl) rfl <| fw rfl rfl (fun _ => iA k Try.underlying82 OrB_sz_api_Order rfl rfl ((h1.keep z_2).adr (Nat.zero_lt_of_lt (show k < _ from (by omega)))) rfl (by omega)) rfl <| fq rfl rfl (fun _ x => ld rfl (Rep.SHas.elt hcO ((h1.keep (Ext.tr z_2 x)).adh (Nat.zero_lt_of_lt (show k < _ from (by omega)))) hx1 OrB_ag_api_Order OrB_sz_api_Order)) rfl <| fw rfl rfl (fun _ => mv rfl) rfl <| fw rfl rfl (fun _ => mv rfl) rfl <| fw rfl rfl (fun _ => iA k Try.underlying82 OrB_sz_api_Order rfl rfl ((h2.keep z_2).adr (Nat.zero_lt_of_lt (show k < _ from (by omega)))) rfl (by omega)) rfl <| fq rfl rfl (fun _ x => ld rfl (Rep.SHas.elt hcO ((h2.keep (Ext.tr z_2 x)).adh (Nat.zero_lt_of_lt (show k < _ from (by omega)))) hy1 OrB_ag_api_Order OrB_sz_api_Order)) rfl <| fw rfl rfl (fun _ => bnS OrB_eqs_api_Order OrB_eqg_api_Order (p := x1) (q := y1) rfl rfl) rfl <| fn fun w_7 x_8 => ?_
      have q_9 := x_8.size
      have z_7 := Ext.tr z_2 x_8
      refine nT <| ?_
      refine cb rfl (fun h_10 => ?_) (fun h_10 => ?_)
      · refine sq <| rg <| vl (as_ rfl) rfl <| nl <| nT <| rt <| tB <| tT <| tK <| tB <| tT <| tR (.tmp rfl .nil) <| ?_
        rw [decide_eq_false (fun e => by rw [e, hy1] at hx1; injection hx1 with hx1; exact absurd hx1.symm (by first | exact ne_of_nb h_10 | exact h_10))]
        exact ⟨rfl, z_7⟩
      · refine sk <| nB <| nT <| rg <| vl (bad rfl rfl (inI (by omega))) rfl <| vl (mv rfl) rfl <| nl <| ?_
        exact nI _ _ ⟨k + 1, rfl, rfl, z_7, by omega, lt_succ_all hk2 (by rw [hx1, hy1, (by first | exact eq_of_nb h_10 | exact h_10 : x1 = y1)])⟩ (by omega) (.cons rfl (.cons rfl (.cons rfl (.cons (loI rfl (by first | omega | rfl | (simp <;> omega))) .nil))))
    · refine xt <| xT <| xK <| xB <| nT <| sq <| rg <| vl (as_ rfl) rfl <| nl <| nT <| rt <| tR (.tmp rfl .nil) <| ?_
      rw [decide_eq_true (eq_all (by omega) (by omega) hk2)]
      exact ⟨rfl, z_2⟩
set_option maxRecDepth 100000 in
set_option maxHeartbeats 400000 in
theorem orderLives_any  (w : World) :
    Calls Try.prog 55 #[] w (fun e w' => e = .returned (.bool true) ∧ Ext w w') := by
  refine calls_W (n := 35) Try.func55 rfl rfl rfl ?_
  refine sq <| rg <| vl (as_ rfl) rfl <| nl <| nT <| sq <| rg <| vl (v := .agg #[.int .i64 2, .int .i64 (-1)]) (bd rfl (by kernel_rfl)) rfl <| vl (v := .agg #[.int .i64 1, .int .i64 2, .int .i64 7, .int .i64 2, .int .i64 (-1), .int .i64 0]) (bd rfl (by kernel_rfl)) rfl <| bs (e := 88) (cs := [.int .i64 1, .int .i64 2, .int .i64 7, .int .i64 2, .int .i64 (-1), .int .i64 0]) rfl (fun _ => by kernel_rfl) rfl fun w_1 b_2 x_3 l_4 B_5 => ?_
  have q_6 := x_3.size
  have z_1 := Ext.tr (Ext.rf w) x_3
  have q_7 := B_5.lt
  refine vl (as_ rfl) rfl <| nl <| nT <| sq <| rg <| vl (mv rfl) rfl <| ca OrB_en_order_Write rfl rfl ((owrite_any _ _ ([(⟨1, 2, 7, ⟨2, -1⟩, 0⟩ : Odr)]) _ (Blk.hasN (R := Odr.rep) (by_ := 48) (k := [(⟨1, 2, 7, ⟨2, -1⟩, 0⟩ : Odr)]) B_5 [[.int .i64 1, .int .i64 2, .int .i64 7, .int .i64 2, .int .i64 (-1), .int .i64 0]] rfl (⟨⟨rfl, ⟨okI_iff.2 (by decide), okI_iff.2 (by decide), okI_iff.2 (by decide), okI_iff.2 (by decide), okI_iff.2 (by decide), okI_iff.2 (by decide)⟩⟩, trivial⟩) (by simp) (by simp))).mono ?_)
  rintro e w_8 ⟨rfl, x_9⟩
  refine ⟨_, rfl, ?_⟩
  have q_10 := x_9.size
  have z_8 := Ext.tr z_1 x_9
  refine vl (mv rfl) rfl <| vl (ex rfl rfl) rfl <| vl (ex rfl rfl) rfl <| vl (as_ rfl) rfl <| vl (as_ rfl) rfl <| nl <| nT <| sq <| rg <| vl (mv rfl) rfl <| ca OrB_en_order_Read rfl rfl ((oread_any (wrT ([(⟨1, 2, 7, ⟨2, -1⟩, 0⟩ : Odr)])) _ (wrT_size _)).mono ?_)
  rintro e w_14 ⟨m_11, k_11, A_11, c_11, hR_11, rfl, OR_11, x_15⟩
  refine ⟨_, rfl, ?_⟩
  have q_16 := x_15.size
  have z_14 := Ext.tr z_8 x_15
  have u_12 := fun q hq => (OR_11.lt q hq).2
  have lo_13 := fun q hq => (OR_11.lt q hq).1
  obtain ⟨rk, rm⟩ := oread_back (l := ordL) ordL_ok (fun o ho => by rw [List.mem_singleton.1 ho]; exact ⟨okI_iff.2 (by decide), okI_iff.2 (by decide), okI_iff.2 (by decide), okI_iff.2 (by decide), okI_iff.2 (by decide), okI_iff.2 (by decide)⟩) hR_11
  refine vl (mv rfl) rfl <| vl (ex rfl rfl) rfl <| vl (ex rfl rfl) rfl <| vl (as_ rfl) rfl <| vl (as_ rfl) rfl <| nl <| nT <| sq <| rg <| vl (mv rfl) rfl <| vl (beq rfl rfl) rfl <| vl (mv rfl) rfl <| vQ rfl rfl rfl rfl (fun hc => mv rfl) rfl <| vQ rfl rfl rfl rfl (fun hc => beq (gt hc rfl) rfl) rfl <| vl (pA rfl rfl rfl rfl) rfl <| vl (mv rfl) rfl <| vQ rfl rfl rfl rfl (fun hc => mv rfl) rfl <| vQ rfl rfl rfl rfl (fun hc => mv rfl) rfl <| ?_
  have B_5 := B_5.later (Ext.tr x_9 x_15)
  refine vC rfl rfl rfl rfl OrB_en_slices_Equal_S_api_Order_api_Order_ (fun hc => ec (gt hc rfl) (ec (gt hc rfl) rfl)) (fun hc => equal_O _ _ _ _ _ _ ([(⟨1, 2, 7, ⟨2, -1⟩, 0⟩ : Odr)]) m_11 _ (Blk.hasN (R := Odr.rep) (by_ := 48) (k := [(⟨1, 2, 7, ⟨2, -1⟩, 0⟩ : Odr)]) B_5 [[.int .i64 1, .int .i64 2, .int .i64 7, .int .i64 2, .int .i64 (-1), .int .i64 0]] rfl (⟨⟨rfl, ⟨okI_iff.2 (by decide), okI_iff.2 (by decide), okI_iff.2 (by decide), okI_iff.2 (by decide), okI_iff.2 (by decide), okI_iff.2 (by decide)⟩⟩, trivial⟩) (by simp) (by simp)) OR_11.has) rfl fun w_17 x_18 => ?_
  have q_19 := x_18.size
  have z_17 := Ext.tr z_14 x_18
  refine vl (pA rfl rfl rfl rfl) rfl <| vl (mv rfl) rfl <| vQ rfl rfl rfl rfl (fun hc => mv rfl) rfl <| vQ rfl rfl rfl rfl (fun hc => lnS Try.underlying9 (gt hc rfl) (by have := wrT_size (([(⟨1, 2, 7, ⟨2, -1⟩, 0⟩ : Odr)])); omega)) rfl <| vQ rfl rfl rfl rfl (fun hc => beq (gt hc rfl) rfl) rfl <| vl (pA rfl rfl rfl rfl) rfl <| vl (as_ rfl) rfl <| nl <| nT <| rt <| tR (.tmp rfl .nil) <| ?_
  exact ⟨ret_true (by rw [rk, rm, show wrT [(⟨1, 2, 7, ⟨2, -1⟩, 0⟩ : Odr)] = wrT ordL from rfl, ordL_size, show ordsE [(⟨1, 2, 7, ⟨2, -1⟩, 0⟩ : Odr)] = 0 from ordL_ok]; decide), z_17⟩
set_option maxRecDepth 100000 in
set_option maxHeartbeats 400000 in
theorem orderBack_walk (A : Option Addr) (c : Nat) (l : List Odr) (s : ByteArray) (w : World) (hl : Odr.rep.SHas 48 w A c l) (hs : s.size ≤ 140737488351232) :
    Calls Try.prog 13 #[.slice A l.length c, .string s] w (fun e w' => e = .returned (.bool true) ∧ Ext w w') := by
  refine calls_W (n := 62) Try.func13 rfl rfl rfl ?_
  refine sq <| rg <| vl (as_ rfl) rfl <| nl <| nT <| sq <| sq <| rg <| vl (mv rfl) rfl <| ca OrB_en_order_Write rfl rfl ((owrite_any _ _ l _ (hl.keep (Ext.rf w))).mono ?_)
  rintro e w_1 ⟨rfl, x_2⟩
  refine ⟨_, rfl, ?_⟩
  have q_3 := x_2.size
  have z_1 := Ext.tr (Ext.rf w) x_2
  refine vl (mv rfl) rfl <| vl (ex rfl rfl) rfl <| vl (ex rfl rfl) rfl <| vl (as_ rfl) rfl <| vl (as_ rfl) rfl <| nl <| nT <| sq <| rg <| vl (mv rfl) rfl <| vl (beq rfl rfl) rfl <| nl <| nT <| ?_
  refine ceq rfl (fun h_4 => ?_) (fun h_4 => ?_)
  · have hE : ordsE l = 0 := by simpa using h_4
    refine sq <| rg <| vl (mv rfl) rfl <| ca OrB_en_order_Read rfl rfl ((oread_any (wrT l) _ (wrT_size _)).mono ?_)
    rintro e w_8 ⟨m_5, k_5, A_5, c_5, hR_5, rfl, OR_5, x_9⟩
    refine ⟨_, rfl, ?_⟩
    have q_10 := x_9.size
    have z_8 := Ext.tr z_1 x_9
    have u_6 := fun q hq => (OR_5.lt q hq).2
    have lo_7 := fun q hq => (OR_5.lt q hq).1
    obtain ⟨rk, rm⟩ := oread_back hE (Odr.all_ok hl) hR_5
    refine vl (mv rfl) rfl <| vl (ex rfl rfl) rfl <| vl (ex rfl rfl) rfl <| vl (as_ rfl) rfl <| vl (as_ rfl) rfl <| nl <| nT <| sq <| rg <| vl (mv rfl) rfl <| vl (bne rfl rfl) rfl <| vl (mv rfl) rfl <| vQ rfl rfl rfl rfl (fun hc => mv rfl) rfl <| vQ rfl rfl rfl rfl (fun hc => mv rfl) rfl <| vC rfl rfl rfl rfl OrB_en_slices_Equal_S_api_Order_api_Order_ (fun hc => ec (gt hc rfl) (ec (gt hc rfl) rfl)) (fun hc => equal_O _ _ _ _ _ _ m_5 l _ OR_5.has (hl.keep z_8)) rfl fun w_11 x_12 => ?_
    have q_13 := x_12.size
    have z_11 := Ext.tr z_8 x_12
    refine vQ rfl rfl rfl rfl (fun hc => nt (gt hc rfl)) rfl <| vl (pO rfl rfl rfl rfl) rfl <| nl <| nT <| ?_
    have h_14 : ((k_5 != 0) || (!(decide (m_5 = l)))) = false := by rw [rk, rm]; simp
    refine cF (by rw [← h_14]; rfl) <| sk <| nT <| sq <| rg <| vl (mv rfl) rfl <| ca OrB_en_order_Read rfl rfl ((oread_any s _ (by omega)).mono ?_)
    rintro e w_18 ⟨m_15, k_15, A_15, c_15, hR_15, rfl, OR_15, x_19⟩
    refine ⟨_, rfl, ?_⟩
    have q_20 := x_19.size
    have z_18 := Ext.tr z_11 x_19
    have u_16 := fun q hq => (OR_15.lt q hq).2
    have lo_17 := fun q hq => (OR_15.lt q hq).1
    obtain ⟨b1, b2⟩ := read_wrote hR_15
    refine vl (mv rfl) rfl <| vl (ex rfl rfl) rfl <| vl (ex rfl rfl) rfl <| vl (as_ rfl) rfl <| vl (as_ rfl) rfl <| nl <| nT <| sq <| sq <| rg <| ca OrB_en_mustkeep_orderLives rfl rfl ((orderLives_any _).mono ?_)
    rintro e w_21 ⟨rfl, x_22⟩
    refine ⟨_, rfl, ?_⟩
    have q_23 := x_22.size
    have z_21 := Ext.tr z_18 x_22
    refine vl (nt rfl) rfl <| vl (mv rfl) rfl <| ug rfl rfl rfl <| vl (mv rfl) rfl <| ug rfl rfl rfl <| vl (bne rfl rfl) rfl <| vl (pkF rfl rfl) rfl <| nl <| nT <| ?_
    refine cne rfl (fun h_24 => ?_) (fun h_24 => ?_)
    · refine sq <| rg <| ca OrB_en_mustkeep_orderLives rfl rfl ((orderLives_any _).mono ?_)
      rintro e w_25 ⟨rfl, x_26⟩
      refine ⟨_, rfl, ?_⟩
      have q_27 := x_26.size
      have z_25 := Ext.tr z_21 x_26
      refine vl (mv rfl) rfl <| ug rfl rfl rfl <| vl (mv rfl) rfl <| ug rfl rfl rfl <| vl (ln Try.underlying82 rfl) rfl <| ug rfl rfl rfl <| vl (beq rfl rfl) rfl <| vl (pkT rfl rfl) rfl <| vl (as_ rfl) rfl <| nl <| nT <| rt <| tT <| tR (.tmp rfl .nil) <| ?_
      have d1 := b2 (by simpa using h_24)
      exact ⟨ret_true (by rw [d1]; rfl), z_25⟩
    · refine sk <| nT <| sq <| rg <| vl (mv rfl) rfl <| ?_
      have OR_15 := OR_15.later x_22
      refine ca OrB_en_order_Write rfl rfl ((owrite_any _ _ m_15 _ OR_15.has).mono ?_)
      rintro e w_28 ⟨rfl, x_29⟩
      refine ⟨_, rfl, ?_⟩
      have q_30 := x_29.size
      have z_28 := Ext.tr z_21 x_29
      refine vl (mv rfl) rfl <| vl (ex rfl rfl) rfl <| vl (ex rfl rfl) rfl <| vl (as_ rfl) rfl <| vl (as_ rfl) rfl <| nl <| nT <| sq <| rg <| vl (mv rfl) rfl <| vl (beq rfl rfl) rfl <| vl (mv rfl) rfl <| vQ rfl rfl rfl rfl (fun hc => mv rfl) rfl <| vQ rfl rfl rfl rfl (fun hc => mv rfl) rfl <| vQ rfl rfl rfl rfl (fun hc => bqT Try.underlying9 (gt hc rfl) (gt hc rfl)) rfl <| vl (pA rfl rfl rfl rfl) rfl <| vl (as_ rfl) rfl <| nl <| nT <| rt <| tR (.tmp rfl .nil) <| ?_
      obtain ⟨d1, d2⟩ := b1 (by simpa using h_24)
      exact ⟨ret_true (by rw [d1, d2]; simp), z_28⟩
  · refine sk <| nT <| sq <| rg <| vl (mv rfl) rfl <| ca OrB_en_order_Read rfl rfl ((oread_any s _ (by omega)).mono ?_)
    rintro e w_34 ⟨m_31, k_31, A_31, c_31, hR_31, rfl, OR_31, x_35⟩
    refine ⟨_, rfl, ?_⟩
    have q_36 := x_35.size
    have z_34 := Ext.tr z_1 x_35
    have u_32 := fun q hq => (OR_31.lt q hq).2
    have lo_33 := fun q hq => (OR_31.lt q hq).1
    obtain ⟨b1, b2⟩ := read_wrote hR_31
    refine vl (mv rfl) rfl <| vl (ex rfl rfl) rfl <| vl (ex rfl rfl) rfl <| vl (as_ rfl) rfl <| vl (as_ rfl) rfl <| nl <| nT <| sq <| sq <| rg <| ca OrB_en_mustkeep_orderLives rfl rfl ((orderLives_any _).mono ?_)
    rintro e w_37 ⟨rfl, x_38⟩
    refine ⟨_, rfl, ?_⟩
    have q_39 := x_38.size
    have z_37 := Ext.tr z_34 x_38
    refine vl (nt rfl) rfl <| vl (mv rfl) rfl <| ug rfl rfl rfl <| vl (mv rfl) rfl <| ug rfl rfl rfl <| vl (bne rfl rfl) rfl <| vl (pkF rfl rfl) rfl <| nl <| nT <| ?_
    refine cne rfl (fun h_40 => ?_) (fun h_40 => ?_)
    · refine sq <| rg <| ca OrB_en_mustkeep_orderLives rfl rfl ((orderLives_any _).mono ?_)
      rintro e w_41 ⟨rfl, x_42⟩
      refine ⟨_, rfl, ?_⟩
      have q_43 := x_42.size
      have z_41 := Ext.tr z_37 x_42
      refine vl (mv rfl) rfl <| ug rfl rfl rfl <| vl (mv rfl) rfl <| ug rfl rfl rfl <| vl (ln Try.underlying82 rfl) rfl <| ug rfl rfl rfl <| vl (beq rfl rfl) rfl <| vl (pkT rfl rfl) rfl <| vl (as_ rfl) rfl <| nl <| nT <| rt <| tT <| tR (.tmp rfl .nil) <| ?_
      have d1 := b2 (by simpa using h_40)
      exact ⟨ret_true (by rw [d1]; rfl), z_41⟩
    · refine sk <| nT <| sq <| rg <| vl (mv rfl) rfl <| ?_
      have OR_31 := OR_31.later x_38
      refine ca OrB_en_order_Write rfl rfl ((owrite_any _ _ m_31 _ OR_31.has).mono ?_)
      rintro e w_44 ⟨rfl, x_45⟩
      refine ⟨_, rfl, ?_⟩
      have q_46 := x_45.size
      have z_44 := Ext.tr z_37 x_45
      refine vl (mv rfl) rfl <| vl (ex rfl rfl) rfl <| vl (ex rfl rfl) rfl <| vl (as_ rfl) rfl <| vl (as_ rfl) rfl <| nl <| nT <| sq <| rg <| vl (mv rfl) rfl <| vl (beq rfl rfl) rfl <| vl (mv rfl) rfl <| vQ rfl rfl rfl rfl (fun hc => mv rfl) rfl <| vQ rfl rfl rfl rfl (fun hc => mv rfl) rfl <| vQ rfl rfl rfl rfl (fun hc => bqT Try.underlying9 (gt hc rfl) (gt hc rfl)) rfl <| vl (pA rfl rfl rfl rfl) rfl <| vl (as_ rfl) rfl <| nl <| nT <| rt <| tR (.tmp rfl .nil) <| ?_
      obtain ⟨d1, d2⟩ := b1 (by simpa using h_40)
      exact ⟨ret_true (by rw [d1, d2]; simp), z_44⟩
theorem orderBack_any (a0 : Option Addr) (len0 cap0 : Nat) (a1 : ByteArray) (w : World) (h0 : (.slice (.cons (.int .i64) (.cons (.int .i64) (.cons (.int .i64) (.cons (.cons (.int .i64) (.cons (.int .i64) .nil)) (.cons (.int .i64) .nil))))) 48 : Sh).Ok w [.slice a0 len0 cap0]) (w1 : a1.size ≤ maxLen) (r1 : a1.size ≤ 140737488351232) :
    Calls Try.prog 13 #[.slice a0 len0 cap0, .string a1] w fun e w' => e = .returned (.bool true) ∧ Below w.heap.size w w' := by
  obtain ⟨A, c, l, e2, hl⟩ := Rep.opens_slice (R := Odr.rep) (by_ := 48) Odr.opens rfl (by decide) h0
  simp only [List.cons.injEq, Value.slice.injEq, and_true] at e2
  obtain ⟨rfl, rfl, rfl⟩ := e2
  exact orderBack_walk _ _ l a1 w hl r1
end Go.Proofs.Ytkijhejjnlmbmaa
