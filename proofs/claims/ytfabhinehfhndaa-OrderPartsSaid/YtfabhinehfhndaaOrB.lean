/-
  OrderBack. (Printed by bin/orderlaw.py.)
-/
import Derived.Test.YtfabhinehfhndaaOrw
import Derived.Test.YtfabhinehfhndaaEql
set_option linter.unusedVariables false
set_option linter.unusedSimpArgs false
namespace Go.Proofs.Ytfabhinehfhndaa
open Go.RowKit

theorem OrB_sz_api_Order : Sz Try.prog 92 6 := fun _ => by kernel_rfl
theorem OrB_ag_api_Order : Ag Try.prog 92 true := fun _ => by kernel_rfl
theorem OrB_eqs_api_Order : EqS Try.prog Odr.cells 92 := by
  intro a b w
  obtain ⟨a0, a1, a2, ⟨a3, a4⟩, a5⟩ := a
  obtain ⟨b0, b1, b2, ⟨b3, b4⟩, b5⟩ := b
  simp only [Odr.cells, Odr.mk.injEq, Cel.mk.injEq]
  constructor
  · go_simp
    repeat' split
    all_goals simp_all
  · go_simp
    repeat' split
    all_goals simp_all
theorem OrB_eqg_api_Order : (Try.prog).eqGuardType (Try.prog).depth 92 = false := by kernel_rfl
theorem OrB_en_order_Write : Enters Try.prog 63 := en Try.func63 (by kernel_rfl) (by kernel_rfl)
theorem OrB_en_order_Read : Enters Try.prog 64 := en Try.func64 (by kernel_rfl) (by kernel_rfl)
theorem OrB_en_slices_Equal_S_api_Order_api_Order_ : Enters Try.prog 65 := en Try.func65 (by kernel_rfl) (by kernel_rfl)
theorem chunksO {α : Type} (n : Nat) : ∀ (q : Nat) (l : List α), l.length = q * n → ((List.finRange q).flatMap fun k => (l.drop (k.1 * n)).take n) = l
  | 0, l, h => by
    have : l = [] := List.eq_nil_of_length_eq_zero (by omega)
    subst this; rfl
  | q + 1, l, h => by
    rw [Nat.succ_mul] at h
    have ih := chunksO n q (l.drop n) (by rw [List.length_drop]; omega)
    rw [List.finRange_succ, List.flatMap_cons, List.flatMap_map]
    have e : (fun k : Fin q => (l.drop (k.succ.1 * n)).take n) = fun k : Fin q => ((l.drop n).drop (k.1 * n)).take n := by
      funext k
      rw [List.drop_drop]
      congr 2
      show (k.1 + 1) * n = _
      rw [Nat.succ_mul]; omega
    show (l.drop (0 * n)).take n ++ ((List.finRange q).flatMap fun k : Fin q => (l.drop (k.succ.1 * n)).take n) = l
    rw [e, ih, Nat.zero_mul, List.drop_zero, List.take_append_drop]
theorem nums_cons (o : Odr) (l : List Odr) : nums (o :: l) = o.by_ :: o.kind :: o.who :: o.spot.x :: o.spot.y :: o.what :: nums l := rfl
theorem nums_inj : ∀ {a b : List Odr}, nums a = nums b → a = b
  | [], [], _ => rfl
  | [], o :: b, h => by rw [nums_cons] at h; exact nomatch h
  | o :: a, [], h => by rw [nums_cons] at h; exact nomatch h
  | o :: a, p :: b, h => by
    rw [nums_cons, nums_cons] at h
    injection h with h1 h
    injection h with h2 h
    injection h with h3 h
    injection h with h4 h
    injection h with h5 h
    injection h with h6 h
    have e : o = p := by
      obtain ⟨a1, a2, a3, ⟨a4, a5⟩, a6⟩ := o
      obtain ⟨c1, c2, c3, ⟨c4, c5⟩, c6⟩ := p
      simp only at h1 h2 h3 h4 h5 h6
      subst h1 h2 h3 h4 h5 h6; rfl
    rw [e, nums_inj h]
theorem list6 {l : List Int} (h : l.length = 6) : [l.getD 0 0, l.getD 1 0, l.getD 2 0, l.getD 3 0, l.getD 4 0, l.getD 5 0] = l := by
  match l, h with
  | [a, b, c, d, e, f], _ => rfl
theorem nums_ords {out : List Int} {q : Nat} (h : out.length = q * 6) : nums (ordsQ out q) = out := by
  have e : nums (ordsQ out q) = (List.finRange q).flatMap fun k => (out.drop (k.1 * 6)).take 6 := by
    unfold nums ordsQ
    rw [List.flatMap_map]
    have e2 : (fun k : Fin q => [(ordOf (chunkAt out k.1)).by_, (ordOf (chunkAt out k.1)).kind, (ordOf (chunkAt out k.1)).who, (ordOf (chunkAt out k.1)).spot.x, (ordOf (chunkAt out k.1)).spot.y, (ordOf (chunkAt out k.1)).what]) = fun k : Fin q => (out.drop (k.1 * 6)).take 6 := by
      funext k
      have hk := k.2
      have h6 := chunk_len (l := out) (k := k.1) (by omega)
      have h7 : chunkAt out k.1 = (out.drop (k.1 * 6)).take 6 := by unfold chunkAt; congr 1; omega
      rw [← h7]
      exact list6 h6
    exact congrArg (fun f => (List.finRange q).flatMap f) e2
  rw [e]; exact chunksO 6 q out h
theorem nums_i64 {l : List Odr} (h : ∀ o ∈ l, o.ok) : I64 (nums l) := by
  intro x hx
  obtain ⟨o, ho, hx⟩ := List.mem_flatMap.1 hx
  obtain ⟨o0, o1, o2, o3, o4, o5⟩ := h o ho
  simp only [List.mem_cons, List.not_mem_nil, or_false] at hx
  rcases hx with rfl | rfl | rfl | rfl | rfl | rfl
  · exact okI_iff.1 o0
  · exact okI_iff.1 o1
  · exact okI_iff.1 o2
  · exact okI_iff.1 o3
  · exact okI_iff.1 o4
  · exact okI_iff.1 o5
theorem oread_back {l m : List Odr} {k : Int} (h : ordsE l = 0) (hok : ∀ o ∈ l, o.ok) (hR : ReadIs (wrT l) m k) : k = 0 ∧ m = l := by
  have hw := wrT_ok h
  have hn := nums_len l
  have h100 := (ordsE_zero h).1
  have ho : Crc.openS (wrT l) = (Pack.strOf (Pack.putAllL (nums l)), 0) := by rw [hw]; exact Crc.open_seal _
  have hq : (nums l).length = l.length * 6 := by omega
  have hf : ordsF (nums l) = l := by
    rw [ordsF_q hq]
    exact nums_inj (nums_ords hq)
  rcases hR with ⟨h1, _⟩ | ⟨_, out, j, hG, h2⟩
  · rw [ho] at h1; exact absurd rfl h1
  · rw [ho] at hG
    obtain ⟨hj, rfl⟩ := Pack.gotAll_put (nums_i64 hok) (by omega) hG
    rcases h2 with ⟨h3, _⟩ | ⟨_, h3, _⟩ | ⟨_, _, ⟨h3, _⟩ | ⟨h3, h4, h5⟩⟩
    · exact absurd hj h3
    · omega
    · rw [hf] at h3; exact absurd h h3
    · exact ⟨h5, by rw [h4, hf]⟩
theorem wrT_size (l : List Odr) : (wrT l).size ≤ 140737488351232 := by
  by_cases h : ordsE l = 0
  · have h1 := (ordsE_zero h).1
    have h2 := nums_len l
    have h3 := Pack.putAll_len (nums l)
    rw [wrT_ok h, Crc.sealS_size, Pack.strOf_size]; omega
  · rw [wrT_no h]; decide
def ordL : List Odr := [⟨1, 2, 7, ⟨2, -1⟩, 0⟩]
theorem ordL_ok : ordsE ordL = 0 := by decide +kernel
theorem ordL_size : (wrT ordL).size = 11 := by decide +kernel
set_option maxRecDepth 100000 in
set_option maxHeartbeats 400000 in
theorem equal_O (A B : Option Addr) (c d b1 b2 : Nat) (l m : List Odr) (w : World) (h1 : Odr.rep.SHas b1 w A c l) (h2 : Odr.rep.SHas b2 w B d m) :
    Calls Try.prog 65 #[.slice A l.length c, .slice B m.length d] w (fun e w' => e = .returned (.bool (decide (l = m))) ∧ Ext w w') := by
  have hle := h1.len_le
  refine calls_W (n := 26) Try.func65 rfl rfl rfl ?_
  refine sq <| rg <| vl (as_ rfl) rfl <| nl <| nT <| sq <| sq <| rg <| vl (mv rfl) rfl <| vl (ln Try.underlying76 rfl) rfl <| vl (mv rfl) rfl <| vl (ln Try.underlying76 rfl) rfl <| vl (bne rfl rfl) rfl <| nl <| nT <| ?_
  refine cne rfl (fun h_1 => ?_) (fun h_1 => ?_)
  · refine sq <| rg <| vl (as_ rfl) rfl <| nl <| nT <| rt <| tT <| tR (.tmp rfl .nil) <| ?_
    rw [decide_eq_false (fun e => h_1 (by rw [e]))]
    exact ⟨rfl, (Ext.rf w)⟩
  · refine sk <| nT <| sq <| sq <| rg <| vl (mv rfl) rfl <| vl (ln Try.underlying76 rfl) rfl <| vl (mv rfl) rfl <| nl <| nT <| bk <| ?_
    refine lp (fun mI EI wI => ∃ k : Nat, EI = [(0, .slice A l.length c), (1, .slice B m.length d), (12, .int .i64 (l.length : Int)), (13, .int .i64 (k : Int))] ∧ mI = l.length - k ∧ Ext w wI ∧ (k ≤ l.length) ∧ (∀ j, j < k → l[j]? = m[j]?)) _ _ ⟨0, rfl, rfl, (Ext.rf w), by omega, fun j hj => absurd hj (by omega)⟩ (.cons rfl (.cons rfl (.cons rfl (.cons (loI rfl (by first | omega | rfl | (simp <;> omega))) .nil)))) ?_
    rintro m_3 E_4 w_2 ⟨k, rfl, rfl, z_2, hk, hk2⟩
    have q_5 := z_2.size
    have hle := h1.len_le
    have hle2 := h2.len_le
    refine sq <| rg <| vl (blt rfl rfl) rfl <| nl <| nT <| sq <| ?_
    refine clt rfl (fun h_6 => ?_) (fun h_6 => ?_)
    · obtain ⟨x1, hx1⟩ := get_of (l := l) (i := k) (by omega)
      obtain ⟨y1, hy1⟩ := get_of (l := m) (i := k) (by omega)
      refine sk <| nT <| sq <| bk <| sq <| rg <| vl (mv rfl) rfl <| vl (as_ rfl) rfl <| nl <| nT <| sq <| ?_
      refine rd [(3, 0), (7, 0)] [0, 1, 2, 3, 4, 5, 6, 7, 8] (by kernel_rfl) (by kernel_rfl) ?_
      refine fw rfl rfl (fun _ => mv rfl) rfl <| fw rfl rfl (fun _ => mv rfl) rfl <| fw rfl rfl (fun _ => iA k Try.underlying76 OrB_sz_api_Order rfl rfl ((h1.keep z_2).adr (Nat.zero_lt_of_lt (show k < _ from (by omega)))) rfl (by omega)) rfl <| fq rfl rfl (fun _ x => ld rfl (Rep.SHas.elt hcO ((h1.keep (Ext.tr z_2 x)).adh (Nat.zero_lt_of_lt (show k < _ from (by omega)))) hx1 OrB_ag_api_Order OrB_sz_api_Order)) rfl <| fw rfl rfl (fun _ => mv rfl) rfl <| fw rfl rfl (fun _ => mv rfl) rfl <| fw rfl rfl (fun _ => iA k Try.underlying76 OrB_sz_api_Order rfl rfl ((h2.keep z_2).adr (Nat.zero_lt_of_lt (show k < _ from (by omega)))) rfl (by omega)) rfl <| fq rfl rfl (fun _ x => ld rfl (Rep.SHas.elt hcO ((h2.keep (Ext.tr z_2 x)).adh (Nat.zero_lt_of_lt (show k < _ from (by omega)))) hy1 OrB_ag_api_Order OrB_sz_api_Order)) rfl <| fw rfl rfl (fun _ => bnS OrB_eqs_api_Order OrB_eqg_api_Order (p := x1) (q := y1) rfl rfl) rfl <| fn fun w_7 x_8 => ?_
      have q_9 := x_8.size
      have z_7 := Ext.tr z_2 x_8
      refine nT <| ?_
      refine cb rfl (fun h_10 => ?_) (fun h_10 => ?_)
      · refine sq <| rg <| vl (as_ rfl) rfl <| nl <| nT <| rt <| tB <| tT <| tK <| tB <| tT <| tR (.tmp rfl .nil) <| ?_
        rw [decide_eq_false (fun e => by rw [e, hy1] at hx1; injection hx1 with hx1; exact absurd hx1.symm (by first | exact ne_of_nb h_10 | exact h_10))]
        exact ⟨rfl, z_7⟩
      · refine sk <| nB <| nT <| rg <| vl (bad rfl rfl (inI (by omega))) rfl <| vl (mv rfl) rfl <| nl <| ?_
        exact nI _ _ ⟨k + 1, rfl, rfl, z_7, by omega, lt_succ_all hk2 (by rw [hx1, hy1, (by first | exact eq_of_nb h_10 | exact h_10 : x1 = y1)])⟩ (by omega) (.cons rfl (.cons rfl (.cons rfl (.cons (loI rfl (by first | omega | rfl | (simp <;> omega))) .nil))))
    · refine xt <| xT <| xK <| xB <| nT <| sq <| rg <| vl (as_ rfl) rfl <| nl <| nT <| rt <| tR (.tmp rfl .nil) <| ?_
      rw [decide_eq_true (eq_all (by omega) (by omega) hk2)]
      exact ⟨rfl, z_2⟩
set_option maxRecDepth 100000 in
set_option maxHeartbeats 400000 in
theorem orderLives_any  (w : World) :
    Calls Try.prog 38 #[] w (fun e w' => e = .returned (.bool true) ∧ Ext w w') := by
  refine calls_W (n := 35) Try.func38 rfl rfl rfl ?_
  refine sq <| rg <| vl (as_ rfl) rfl <| nl <| nT <| sq <| rg <| vl (v := .agg #[.int .i64 2, .int .i64 (-1)]) (bd rfl (by kernel_rfl)) rfl <| vl (v := .agg #[.int .i64 1, .int .i64 2, .int .i64 7, .int .i64 2, .int .i64 (-1), .int .i64 0]) (bd rfl (by kernel_rfl)) rfl <| bs (e := 92) (cs := [.int .i64 1, .int .i64 2, .int .i64 7, .int .i64 2, .int .i64 (-1), .int .i64 0]) rfl (fun _ => by kernel_rfl) rfl fun w_1 b_2 x_3 l_4 B_5 => ?_
  have q_6 := x_3.size
  have z_1 := Ext.tr (Ext.rf w) x_3
  have q_7 := B_5.lt
  refine vl (as_ rfl) rfl <| nl <| nT <| sq <| rg <| vl (mv rfl) rfl <| ca OrB_en_order_Write rfl rfl ((owrite_any _ _ ([(⟨1, 2, 7, ⟨2, -1⟩, 0⟩ : Odr)]) _ (Blk.hasN (R := Odr.rep) (by_ := 48) (k := [(⟨1, 2, 7, ⟨2, -1⟩, 0⟩ : Odr)]) B_5 [[.int .i64 1, .int .i64 2, .int .i64 7, .int .i64 2, .int .i64 (-1), .int .i64 0]] rfl (⟨⟨rfl, ⟨okI_iff.2 (by decide), okI_iff.2 (by decide), okI_iff.2 (by decide), okI_iff.2 (by decide), okI_iff.2 (by decide), okI_iff.2 (by decide)⟩⟩, trivial⟩) (by simp) (by simp))).mono ?_)
  rintro e w_8 ⟨rfl, x_9⟩
  refine ⟨_, rfl, ?_⟩
  have q_10 := x_9.size
  have z_8 := Ext.tr z_1 x_9
  refine vl (mv rfl) rfl <| vl (ex rfl rfl) rfl <| vl (ex rfl rfl) rfl <| vl (as_ rfl) rfl <| vl (as_ rfl) rfl <| nl <| nT <| sq <| rg <| vl (mv rfl) rfl <| ca OrB_en_order_Read rfl rfl ((oread_any (wrT ([(⟨1, 2, 7, ⟨2, -1⟩, 0⟩ : Odr)])) _ (wrT_size _)).mono ?_)
  rintro e w_14 ⟨m_11, k_11, A_11, c_11, hR_11, rfl, OR_11, x_15⟩
  refine ⟨_, rfl, ?_⟩
  have q_16 := x_15.size
  have z_14 := Ext.tr z_8 x_15
  have u_12 := fun q hq => (OR_11.lt q hq).2
  have lo_13 := fun q hq => (OR_11.lt q hq).1
  obtain ⟨rk, rm⟩ := oread_back (l := ordL) ordL_ok (fun o ho => by rw [List.mem_singleton.1 ho]; exact ⟨okI_iff.2 (by decide), okI_iff.2 (by decide), okI_iff.2 (by decide), okI_iff.2 (by decide), okI_iff.2 (by decide), okI_iff.2 (by decide)⟩) hR_11
  refine vl (mv rfl) rfl <| vl (ex rfl rfl) rfl <| vl (ex rfl rfl) rfl <| vl (as_ rfl) rfl <| vl (as_ rfl) rfl <| nl <| nT <| sq <| rg <| vl (mv rfl) rfl <| vl (beq rfl rfl) rfl <| vl (mv rfl) rfl <| vQ rfl rfl rfl rfl (fun hc => mv rfl) rfl <| vQ rfl rfl rfl rfl (fun hc => beq (gt hc rfl) rfl) rfl <| vl (pA rfl rfl rfl rfl) rfl <| vl (mv rfl) rfl <| vQ rfl rfl rfl rfl (fun hc => mv rfl) rfl <| vQ rfl rfl rfl rfl (fun hc => mv rfl) rfl <| ?_
  have B_5 := B_5.later (Ext.tr x_9 x_15)
  refine vC rfl rfl rfl rfl OrB_en_slices_Equal_S_api_Order_api_Order_ (fun hc => ec (gt hc rfl) (ec (gt hc rfl) rfl)) (fun hc => equal_O _ _ _ _ _ _ ([(⟨1, 2, 7, ⟨2, -1⟩, 0⟩ : Odr)]) m_11 _ (Blk.hasN (R := Odr.rep) (by_ := 48) (k := [(⟨1, 2, 7, ⟨2, -1⟩, 0⟩ : Odr)]) B_5 [[.int .i64 1, .int .i64 2, .int .i64 7, .int .i64 2, .int .i64 (-1), .int .i64 0]] rfl (⟨⟨rfl, ⟨okI_iff.2 (by decide), okI_iff.2 (by decide), okI_iff.2 (by decide), okI_iff.2 (by decide), okI_iff.2 (by decide), okI_iff.2 (by decide)⟩⟩, trivial⟩) (by simp) (by simp)) OR_11.has) rfl fun w_17 x_18 => ?_
  have q_19 := x_18.size
  have z_17 := Ext.tr z_14 x_18
  refine vl (pA rfl rfl rfl rfl) rfl <| vl (mv rfl) rfl <| vQ rfl rfl rfl rfl (fun hc => mv rfl) rfl <| vQ rfl rfl rfl rfl (fun hc => lnS Try.underlying9 (gt hc rfl) (by have := wrT_size (([(⟨1, 2, 7, ⟨2, -1⟩, 0⟩ : Odr)])); omega)) rfl <| vQ rfl rfl rfl rfl (fun hc => beq (gt hc rfl) rfl) rfl <| vl (pA rfl rfl rfl rfl) rfl <| vl (as_ rfl) rfl <| nl <| nT <| rt <| tR (.tmp rfl .nil) <| ?_
  exact ⟨ret_true (by rw [rk, rm, show wrT [(⟨1, 2, 7, ⟨2, -1⟩, 0⟩ : Odr)] = wrT ordL from rfl, ordL_size, show ordsE [(⟨1, 2, 7, ⟨2, -1⟩, 0⟩ : Odr)] = 0 from ordL_ok]; decide), z_17⟩
end Go.Proofs.Ytfabhinehfhndaa
