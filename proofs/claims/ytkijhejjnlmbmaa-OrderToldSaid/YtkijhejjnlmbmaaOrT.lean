/-
  OrderTold. (Printed by bin/ordtold.py.)
-/
import Derived.Test.YtkijhejjnlmbmaaOrB
import Derived.Test.YtkijhejjnlmbmaaByb
set_option linter.unusedVariables false
set_option linter.unusedSimpArgs false
namespace Go.Proofs.Ytkijhejjnlmbmaa
open Go.RowKit

theorem OrT_en_order_Write : Enters Try.prog 52 := en Try.func52 (by kernel_rfl) (by kernel_rfl)
theorem OrT_en_mustkeep_orderLives : Enters Try.prog 55 := en Try.func55 (by kernel_rfl) (by kernel_rfl)
theorem OrT_sz_uint8 : Sz Try.prog 5 1 := fun _ => by kernel_rfl
theorem OrT_ag_uint8 : Ag Try.prog 5 false := fun _ => by kernel_rfl
theorem OrT_en_order_Read : Enters Try.prog 53 := en Try.func53 (by kernel_rfl) (by kernel_rfl)
theorem inv_start (T : ByteArray) (b : BitVec 32) (p : Nat) : Crc.Inv T b p T.size 0 T.data.toList :=
  ⟨Array.length_toList, fun j hj => absurd hj (by omega), by rw [Crc.lowb, Crc.steps_zero, BitVec.xor_zero]⟩
theorem told_bad {l : List Odr} {b : BitVec 32} {p : Nat} {t : List UInt8} {m : List Odr} {k : Int} (hE : ordsE l = 0) (hb : b ≠ 0#32) (h : Crc.Inv (wrT l) b p (wrT l).size 32 t) (hR : ReadIs (bytesS t) m k) : k = 5 ∧ m = [] := by
  have hw := wrT_ok hE
  have ho : Crc.openS (bytesS t) = (⟨#[]⟩, 5) := by
    refine Crc.open_turned (Pack.strOf (Pack.putAllL (nums l))) (bytesS t) (Crc.steps (8 * (wrT l).size - p) (Crc.lowb b 32)) (fun e => hb ?_) ?_ ?_
    · rw [Crc.lowb_all] at e; exact Crc.steps_eq_zero e
    · show 4 ≤ t.length
      rw [h.len, hw, Crc.sealS_size]; omega
    · show Crc.fold _ t = _
      rw [← hw]; exact h.sum
  rcases hR with ⟨h1, h2, h3⟩ | ⟨h1, _⟩
  · rw [ho] at h3; exact ⟨h3, h2⟩
  · rw [ho] at h1; exact nomatch h1
set_option maxRecDepth 100000 in
set_option maxHeartbeats 400000 in
theorem orderTold_walk (A : Option Addr) (c : Nat) (l : List Odr) (at_ : Int) (bt : BitVec 32) (w : World) (hl : Odr.rep.SHas 48 w A c l) :
    Calls Try.prog 14 #[.slice A l.length c, .int .i64 at_, .int .u32 (Bv.U bt)] w (fun e w' => e = .returned (.bool true) ∧ Ext w w') := by
  have hws := wrT_size l
  have hw0 : (wrT l).data.toList.length = (wrT l).size := Array.length_toList
  refine calls_W (n := 85) Try.func14 rfl rfl rfl ?_
  refine sq <| rg <| vl (as_ rfl) rfl <| nl <| nT <| sq <| rg <| vl (mv rfl) rfl <| ca OrT_en_order_Write rfl rfl ((owrite_any _ _ l _ (hl.keep (Ext.rf w))).mono ?_)
  rintro e w_1 ⟨rfl, x_2⟩
  refine ⟨_, rfl, ?_⟩
  have q_3 := x_2.size
  have z_1 := Ext.tr (Ext.rf w) x_2
  refine vl (mv rfl) rfl <| vl (ex rfl rfl) rfl <| vl (ex rfl rfl) rfl <| vl (as_ rfl) rfl <| vl (as_ rfl) rfl <| nl <| nT <| sq <| rg <| vl (mv rfl) rfl <| cvT rfl (wrT_size _) rfl fun w_4 A_5 C_6 x_7 OB_8 => ?_
  have q_9 := x_7.size
  have z_4 := Ext.tr z_1 x_7
  have u_10 := fun q hq => (OB_8.lt q hq).2
  have lo_11 := fun q hq => (OB_8.lt q hq).1
  refine vl (as_ rfl) rfl <| nl <| nT <| sq <| sq <| rg <| ca OrT_en_mustkeep_orderLives rfl rfl ((orderLives_any _).mono ?_)
  rintro e w_12 ⟨rfl, x_13⟩
  refine ⟨_, rfl, ?_⟩
  have q_14 := x_13.size
  have z_12 := Ext.tr z_4 x_13
  refine vl (nt rfl) rfl <| vl (mv rfl) rfl <| ug rfl rfl rfl <| vl (mv rfl) rfl <| ug rfl rfl rfl <| vl (bne rfl rfl) rfl <| vl (pkF rfl rfl) rfl <| vl (mv rfl) rfl <| vQ rfl rfl rfl rfl (fun hc => mv rfl) rfl <| vQ rfl rfl rfl rfl (fun hc => blt (gt hc rfl) rfl) rfl <| vl (pO rfl rfl rfl rfl) rfl <| vl (mv rfl) rfl <| vQ rfl rfl rfl rfl (fun hc => mv rfl) rfl <| vQ rfl rfl rfl rfl (fun hc => mv rfl) rfl <| vQ rfl rfl rfl rfl (fun hc => ln Try.underlying90 (gt hc rfl)) rfl <| vQ rfl rfl rfl rfl (fun hc => bmu rfl (gt hc rfl) (inI (by (try simp only [Bool.or_eq_true, Bool.or_eq_false_iff, Bool.and_eq_true, Bool.and_eq_false_iff, decide_eq_true_eq, decide_eq_false_iff_not, beq_iff_eq, bne_iff_ne, beq_eq_false_iff_ne, bne_eq_false_iff_eq, Bool.not_eq_true', Bool.not_eq_false', Bool.not_eq_true, Bool.not_eq_false, Int.not_lt, Int.not_le, Nat.not_lt, Nat.not_le, ne_eq, Classical.not_not] at hc); omega))) rfl <| vQ rfl rfl rfl rfl (fun hc => bge (gt hc rfl) (gt hc rfl)) rfl <| vl (pO rfl rfl rfl rfl) rfl <| vl (mv rfl) rfl <| vQ rfl rfl rfl rfl (fun hc => mv rfl) rfl <| vQ rfl rfl rfl rfl (fun hc => beq (gt hc rfl) rfl) rfl <| vl (pO rfl rfl rfl rfl) rfl <| nl <| nT <| ?_
  refine cb rfl (fun h_15 => ?_) (fun h_15 => ?_)
  · refine sq <| rg <| ca OrT_en_mustkeep_orderLives rfl rfl ((orderLives_any _).mono ?_)
    rintro e w_16 ⟨rfl, x_17⟩
    refine ⟨_, rfl, ?_⟩
    have q_18 := x_17.size
    have z_16 := Ext.tr z_12 x_17
    refine vl (as_ rfl) rfl <| nl <| nT <| rt <| tT <| tR (.tmp rfl .nil) <| ?_
    exact ⟨rfl, z_16⟩
  · simp only [Bool.or_eq_true, Bool.or_eq_false_iff, Bool.and_eq_true, Bool.and_eq_false_iff, decide_eq_true_eq, decide_eq_false_iff_not, beq_iff_eq, bne_iff_ne, beq_eq_false_iff_ne, bne_eq_false_iff_eq, Bool.not_eq_true', Bool.not_eq_false', Bool.not_eq_true, Bool.not_eq_false, Int.not_lt, Int.not_le, Nat.not_lt, Nat.not_le, ne_eq, Classical.not_not] at h_15
    obtain ⟨⟨⟨hE, ha0⟩, ha1⟩, hb0⟩ := h_15
    have hbt : bt ≠ 0#32 := fun e => hb0 (by rw [e]; rfl)
    have hws := wrT_size l
    refine sk <| nT <| sq <| sq <| rg <| vl (mv rfl) rfl <| nl <| nT <| bk <| ?_
    obtain ⟨p, hp⟩ : ∃ p : Nat, at_ = (p : Int) := ⟨at_.toNat, by omega⟩
    have OB_8 := OB_8.later x_13
    refine lp (fun mI EI wI => ∃ k : Nat, ∃ t : List UInt8, EI = [(1, .int .i64 at_), (2, .int .u32 (Bv.U bt)), (9, .slice A_5 ((wrT l).size) C_6), (42, .int .i64 (k : Int))] ∧ mI = 32 - k ∧ Ext w wI ∧ BytB w_1.heap.size wI A_5 C_6 (t) ∧ (k ≤ 32) ∧ (Crc.Inv (wrT l) bt p (wrT l).size k t)) _ _ ⟨0, (wrT l).data.toList, rfl, rfl, z_12, OB_8, by omega, inv_start _ _ _⟩ (.cons rfl (.cons rfl (.cons rfl (.cons (loI rfl (by first | omega | rfl | (simp <;> omega))) .nil)))) ?_
    rintro m_20 E_21 w_19 ⟨k, t, rfl, rfl, z_19, OT, hk, hI⟩
    have q_22 := z_19.size
    have u_23 := fun q hq => (OT.lt q hq).2
    have hIl := hI.len
    refine sq <| rg <| vl (blt rfl rfl) rfl <| nl <| nT <| sq <| ?_
    refine clt rfl (fun h_24 => ?_) (fun h_24 => ?_)
    · refine sk <| nT <| sq <| bk <| sq <| rg <| vl (mv rfl) rfl <| vl (as_ rfl) rfl <| nl <| nT <| sq <| rg <| vl (mv rfl) rfl <| vl (mv rfl) rfl <| vl (bsr (m := k) rfl rfl (by show k ≤ 32; omega) (Bv.U_nonneg _)) rfl <| vl (ban rfl rfl) rfl <| vl (beq rfl rfl) rfl <| nl <| nT <| ?_
      refine ceq rfl (fun h_25 => ?_) (fun h_25 => ?_)
      · have hbk : bt.getLsbD k = true := by rw [← Crc.bits_test]; simpa using h_25
        refine sq <| sq <| rg <| vl (mv rfl) rfl <| vl (mv rfl) rfl <| vl (bad rfl rfl (inI (by omega))) rfl <| vl (mv rfl) rfl <| vl (ln Try.underlying90 rfl) rfl <| vl (bmu rfl rfl (inI (by omega))) rfl <| vl (bge rfl rfl) rfl <| nl <| nT <| ?_
        refine cle rfl (fun h_26 => ?_) (fun h_26 => ?_)
        · refine sq <| rg <| vl (as_ rfl) rfl <| nl <| nT <| rt <| tT <| tB <| tT <| tK <| tB <| tT <| tR (.tmp rfl .nil) <| ?_
          exact ⟨rfl, z_19⟩
        · refine sk <| nT <| ?_
          refine rd [(6, 0), (14, 3)] [0, 1, 2, 3, 4, 5, 6, 7, 8, 9, 10, 11, 12, 13, 14] (by kernel_rfl) (by kernel_rfl) ?_
          refine fw rfl rfl (fun _ => mv rfl) rfl <| fw rfl rfl (fun _ => mv rfl) rfl <| fw rfl rfl (fun _ => mv rfl) rfl <| fw rfl rfl (fun _ => bad rfl rfl (inI (by omega))) rfl <| fw rfl rfl (fun _ => bqu rfl rfl (by omega) (by omega) (quI (by omega) (by omega) (by omega))) rfl <| fw rfl rfl (fun _ => iA (((at_ + (k : Int)) / 8).toNat) Try.underlying90 OrT_sz_uint8 rfl rfl (OT.has.adr (Nat.zero_lt_of_lt (show ((at_ + (k : Int)) / 8).toNat < _ from (by omega)))) (by omega) (by omega)) rfl <| fq rfl rfl (fun _ x => ld rfl (Rep.SHas.one' hcY ((OT.later x).has.adh (Nat.zero_lt_of_lt (show ((at_ + (k : Int)) / 8).toNat < _ from (by omega)))) (get_d (l := t) (u := 0) (by omega)) rfl OrT_ag_uint8)) rfl <| fw rfl rfl (fun _ => mv rfl) rfl <| fw rfl rfl (fun _ => mv rfl) rfl <| fw rfl rfl (fun _ => bad rfl rfl (inI (by omega))) rfl <| fw rfl rfl (fun _ => bre rfl rfl (by omega) (by omega)) rfl <| fw rfl rfl (fun _ => bsl (m := (p + k) % 8) rfl rfl (by omega) (by show (p + k) % 8 ≤ 8; omega)) rfl <| fw rfl rfl (fun _ => bxT (m := (p + k) % 8) rfl rfl (by omega)) rfl <| fw rfl rfl (fun _ => iA (((at_ + (k : Int)) / 8).toNat) Try.underlying90 OrT_sz_uint8 rfl rfl (OT.has.adr (Nat.zero_lt_of_lt (show ((at_ + (k : Int)) / 8).toNat < _ from (by omega)))) (by omega) (by omega)) rfl <| fb rfl rfl rfl fun w_27 x_28 Q hK => sbY (i := (((at_ + (k : Int)) / 8).toNat)) (b := ((t.getD (((at_ + (k : Int)) / 8).toNat) 0) ^^^ Crc.bit8 ((p + k) % 8))) (OT.later x_28) (by omega) rfl rfl OrT_sz_uint8 fun w_29 m_30 OB_31 => hK _ _ ?_
          have q_32 := x_28.size
          have z_27 := Ext.tr z_19 x_28
          have q_33 := m_30.size
          have z_29 := Ext.mod z_27 m_30 (fun q hq => by have := lo_11 q hq; omega)
          refine fn fun w_34 x_35 => ?_
          have q_36 := x_35.size
          have z_34 := Ext.tr z_29 x_35
          refine nB <| nT <| rg <| vl (bad rfl rfl (inI (by omega))) rfl <| vl (mv rfl) rfl <| nl <| ?_
          have e1 : (t).set (((at_ + (k : Int)) / 8).toNat) (((t.getD (((at_ + (k : Int)) / 8).toNat) 0) ^^^ Crc.bit8 ((p + k) % 8))) = t.set ((p + k) / 8) (t[(p + k) / 8]'(by omega) ^^^ Crc.bit8 ((p + k) % 8)) := by rw [show ((at_ + (k : Int)) / 8).toNat = (p + k) / 8 by omega, getD_dd (by omega)]
          have OB_31 := OB_31.later x_35
          exact nI _ _ ⟨k + 1, (t).set (((at_ + (k : Int)) / 8).toNat) (((t.getD (((at_ + (k : Int)) / 8).toNat) 0) ^^^ Crc.bit8 ((p + k) % 8))), rfl, rfl, z_34, OB_31, by omega, (by rw [e1]; exact hI.turn (by omega) hbk (by omega) (by omega))⟩ (by omega) (.cons rfl (.cons rfl (.cons rfl (.cons (loI rfl (by first | omega | rfl | (simp <;> omega))) .nil))))
      · have hbk : bt.getLsbD k = false := by rw [← Crc.bits_test]; simpa using h_25
        refine sk <| nB <| nT <| rg <| vl (bad rfl rfl (inI (by omega))) rfl <| vl (mv rfl) rfl <| nl <| ?_
        exact nI _ _ ⟨k + 1, t, rfl, rfl, z_19, OT, by omega, hI.skip hbk⟩ (by omega) (.cons rfl (.cons rfl (.cons rfl (.cons (loI rfl (by first | omega | rfl | (simp <;> omega))) .nil))))
    · refine xt <| xT <| xK <| xB <| nT <| sq <| rg <| vl (mv rfl) rfl <| vl (cvB Try.underlying90 Try.underlying5 Try.underlying9 OT.has (by rw [hIl]; rfl)) rfl <| ca OrT_en_order_Read rfl rfl ((oread_any (bytesS (t)) _ (by show t.length ≤ _; have := wrT_size l; omega)).mono ?_)
      rintro e w_40 ⟨m_37, k_37, A_37, c_37, hR_37, rfl, OR_37, x_41⟩
      refine ⟨_, rfl, ?_⟩
      have q_42 := x_41.size
      have z_40 := Ext.tr z_19 x_41
      have u_38 := fun q hq => (OR_37.lt q hq).2
      have lo_39 := fun q hq => (OR_37.lt q hq).1
      have ek : k = 32 := by omega
      subst ek
      obtain ⟨rk, rm⟩ := told_bad hE hbt hI hR_37
      refine vl (mv rfl) rfl <| vl (ex rfl rfl) rfl <| vl (ex rfl rfl) rfl <| vl (as_ rfl) rfl <| vl (as_ rfl) rfl <| nl <| nT <| sq <| rg <| vl (mv rfl) rfl <| vl (beq rfl rfl) rfl <| vl (mv rfl) rfl <| vQ rfl rfl rfl rfl (fun hc => mv rfl) rfl <| vQ rfl rfl rfl rfl (fun hc => ln Try.underlying82 (gt hc rfl)) rfl <| vQ rfl rfl rfl rfl (fun hc => beq (gt hc rfl) rfl) rfl <| vl (pA rfl rfl rfl rfl) rfl <| vl (as_ rfl) rfl <| nl <| nT <| rt <| tR (.tmp rfl .nil) <| ?_
      exact ⟨ret_true (by rw [rk, rm]; rfl), z_40⟩
theorem orderTold_any (a0 : Option Addr) (len0 cap0 : Nat) (a1 : Int) (a2 : Int) (w : World) (h0 : (.slice (.cons (.int .i64) (.cons (.int .i64) (.cons (.int .i64) (.cons (.cons (.int .i64) (.cons (.int .i64) .nil)) (.cons (.int .i64) .nil))))) 48 : Sh).Ok w [.slice a0 len0 cap0]) (w1 : (Lit.int .i64 a1).wf = true) (w2 : (Lit.int .u32 a2).wf = true) :
    Calls Try.prog 14 #[.slice a0 len0 cap0, .int .i64 a1, .int .u32 a2] w fun e w' => e = .returned (.bool true) ∧ Below w.heap.size w w' := by
  obtain ⟨A, c, l, e2, hl⟩ := Rep.opens_slice (R := Odr.rep) (by_ := 48) Odr.opens rfl (by decide) h0
  simp only [List.cons.injEq, Value.slice.injEq, and_true] at e2
  obtain ⟨rfl, rfl, rfl⟩ := e2
  obtain ⟨bt, rfl⟩ := Crc.open_u32 w2
  exact orderTold_walk _ _ l a1 bt w hl
end Go.Proofs.Ytkijhejjnlmbmaa
