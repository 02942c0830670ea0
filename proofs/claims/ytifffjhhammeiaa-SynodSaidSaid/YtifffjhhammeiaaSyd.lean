import Derived.Test.YtifffjhhammeiaaGolC
import Derived.Test.YtifffjhhammeiaaSya
set_option linter.unusedVariables false
set_option linter.unusedSimpArgs false
set_option maxRecDepth 100000
set_option maxHeartbeats 4000000
namespace Go.Proofs.Ytifffjhhammeiaa
section
open Go.RowKit
theorem saidX_any (xs : Sst) (r : Rnd) (Ah : Option Addr) (ch b : Nat) (w : World) (HB : Blk w b ((⟨r.b, r.p, Ah, r.h.length, ch, r.asked, r.v, r.q⟩ : Rv)).cells 69 (0, 0)) :
  Calls Try.prog 32 #[.agg #[.int .i64 xs.kind, .int .i64 xs.who, .int .i64 xs.ballot, .int .i64 xs.value], .pointer (some ⟨b, 0, none⟩)] w (λ e w' => e = .returned (.bool ((xs.kind == 2) && (xs.value == r.v))) ∧ Ext w w') := by
 refine calls_W (n := 14) Try.func32 rfl rfl rfl ?_
 refine sg <| bx rfl rfl rfl rfl λ w_1 b_2 x_3 l_4 B_5 => ?_
 have := x_3.size
 have z_1 := eT (Ext.rf w) x_3
 have q_7 := B_5.lt
 refine va rfl <| nK <| sg <| vL (fa eF25 rfl) <| vL (ld rfl (B_5.one eF4 rfl)) <| vL (beq rfl rfl) <| vm rfl <| vQ rfl rfl rfl rfl (λ hc => fa eF35 rfl) rfl <| vQ rfl rfl rfl rfl (λ hc => ld (gt hc rfl) (B_5.one eF4 rfl)) rfl <| vQ rfl rfl rfl rfl (λ hc => fa eF38 rfl) rfl <| ?_
 have HB := HB.later x_3
 refine vQ rfl rfl rfl rfl (λ hc => ld (gt hc rfl) (HB.one eF4 rfl)) rfl <| vQ rfl rfl rfl rfl (λ hc => beq (gt hc rfl) (gt hc rfl)) rfl <| vL (pA rfl rfl rfl rfl) <| va rfl <| nK <| rt <| tR (.tmp rfl .nil) <| ?_
 exact ⟨rfl, z_1⟩
theorem synodSaid_w (n : Int) (l : List Sst) (A : Option Addr) (c : Nat) (w : World) (hl : Sst.rep.SHas 32 w A c l) :
  Calls Try.prog 9 #[.int .i64 n, .slice A l.length c] w (λ e w' => e = .returned (.bool true) ∧ Ext w w') := by
 refine calls_W (n := 58) Try.func9 rfl rfl rfl ?_
 refine sg <| va rfl <| nK <| sg <| vm rfl <| vm rfl <| ca eF55 rfl rfl ((play_any n l _ _ _ (hl.keep (Ext.rf w))).mono ?_)
 rintro e w_2 ⟨V1, v1, R1, r1, T1, rfl, HO1, x_3⟩
 refine ⟨_, rfl, ?_⟩
 have := x_3.size
 have z_2 := eT (Ext.rf w) x_3
 have uo1 := λ q hq => (HO1.lt q hq).2
 have tl1 : T1.length = (syR n l).rounds.length := HO1.H.len
 have tm1 := sy_len n l
 have HRw := HO1.R
 have hHw := HO1.H
 have uRw := λ q hq => (HRw.lt q hq).2
 refine vm rfl <| vL (ex rfl rfl) <| vL (ex rfl rfl) <| al rfl eF44 rfl rfl λ w_5 b_6 x_7 l_8 B_9 => ?_
 have := x_7.size
 have z_5 := eT z_2 x_7
 have q_11 := B_9.lt
 refine st (new := [.slice V1 ((syR n l).vows.length) v1, .slice R1 T1.length r1]) rfl rfl B_9 rfl eF45 rfl rfl rfl λ w_12 m_13 B_9 => ?_
 have := m_13.size
 have z_12 := Ext.mod z_5 m_13 (ge1 (by omega))
 have := m_13.size
 refine va rfl <| nK <| sq <| sg <| ca eF58 rfl rfl ((synodLives_any _).mono ?_)
 rintro e w_16 ⟨rfl, x_17⟩
 refine ⟨_, rfl, ?_⟩
 have := x_17.size
 have z_16 := eT z_12 x_17
 refine vL (nt rfl) <| vm rfl <| ug rfl rfl rfl <| vm rfl <| ug rfl rfl rfl <| vL (bne rfl rfl) <| vL (pkF rfl rfl) <| nK <| ?_
 refine cne rfl (λ h_19 => ?_) (λ h_19 => ?_)
 ·refine sg <| ca eF58 rfl rfl ((synodLives_any _).mono ?_)
  rintro e w_20 ⟨rfl, x_21⟩
  refine ⟨_, rfl, ?_⟩
  have := x_21.size
  have z_20 := eT z_16 x_21
  refine va rfl <| nK <| rt <| tT <| tR (.tmp rfl .nil) <| ?_
  exact ⟨rfl, z_20⟩
 ·have he : syE n l = 0 := by simpa using h_19
  obtain ⟨N, hnN, hvN, P⟩ := sy_pax he
  obtain ⟨N2, hnN2, G⟩ := sy_G he
  refine sK <| sq <| sg <| vL (fa eF14 rfl) <| ?_
  have B_9 := B_9.later x_17
  refine vL (ld rfl (B_9.one eF15 rfl)) <| vL (ln Try.underlying60 rfl) <| vm rfl <| nK <| bk <| ?_
  have HRw := HRw.later x_7
  have HRw := HRw.mod m_13 (fk1 uRw (by omega))
  have HRw := HRw.later x_17
  refine lp (λ mI EI wI => ∃ k : Nat, EI = [(0, .int .i64 n), (1, .slice A l.length c), (23, .slice R1 T1.length r1), (24, .int .i64 (T1.length : Int)), (25, .int .i64 (k : Int))] ∧ mI = T1.length - k ∧ Ext w wI ∧ Rv.rep.SOwn 69 64 wI w.heap.size (Rep.blkOf R1) R1 r1 T1 ∧ (k ≤ T1.length)) _ _ ⟨0, rfl, rfl, z_16, HRw, by omega⟩ (.cons rfl (.cons rfl (.cons rfl (.cons rfl (.cons (loI rfl (by first | omega | rfl | (simp <;> omega))) .nil))))) ?_
  rintro m_24 E_25 w_23 ⟨k, rfl, rfl, z_23, HRw, hk⟩
  have := z_23.size
  have u_27 := λ q hq => (HRw.lt q hq).2
  refine sg <| vL (blt rfl rfl) <| nK <| sq <| ?_
  refine clt rfl (λ h_28 => ?_) (λ h_28 => ?_)
  ·obtain ⟨r, hr⟩ : ∃ r, (syR n l).rounds[k]? = some r := ⟨_, List.getElem?_eq_getElem (by omega)⟩
   have hrm := List.mem_of_getElem? hr
   obtain ⟨Ah, ch, hTk, _⟩ := hHw.own k r id hr
   have hpq := G.pq r hrm
   refine sK <| sq <| bk <| sg <| vL (iA k Try.underlying60 eF0 rfl rfl (HRw.has.adr (zl k (by omega))) rfl (by omega)) <| vL (ld rfl (Rep.SHas.elt hcRv (HRw.has.adh (zl k (by omega))) hTk eF11 eF0)) <| al rfl eF53 rfl rfl λ w_29 b_30 x_31 l_32 B_33 => ?_
   have := x_31.size
   have z_29 := eT z_23 x_31
   have q_35 := B_33.lt
   refine st (new := [.int .i64 r.b, .int .u32 (r.p : Int), .slice Ah r.h.length ch, .bool r.asked, .int .i64 r.v, .int .u32 (r.q : Int)]) rfl rfl B_33 rfl eF0 rfl rfl rfl λ w_36 m_37 B_33 => ?_
   have := m_37.size
   have z_36 := Ext.mod z_29 m_37 (ge1 (by omega))
   have := m_37.size
   refine nK <| sq <| sq <| ?_
   rcases Bool.eq_false_or_eq_true r.asked with kra | kra
   ·have kan : l.any (λ xs : Sst => (xs.kind == 2) && (xs.value == r.v)) = true := by obtain ⟨y, y1, y2, y3⟩ := P.sv r hrm kra; exact List.any_eq_true.2 ⟨y, y1, by simp [y2, y3]⟩
    have kmj : decide (2 * (Vote.size r.p : Int) ≤ n) = false := decide_eq_false (by have h_ := P.ask r hrm kra; omega)
    refine rg <| vL (fa eF32 rfl) <| vL (ld rfl (B_33.one eF33 rfl)) <| vm (evb rfl kra) <| ug rfl rfl rfl <| vm rfl <| ug rfl rfl rfl <| vL (mf rfl rfl) <| ug rfl rfl rfl <| ca eF48 rfl rfl ((hasF_St 32 [.pointer (some ⟨b_30, 0, none⟩)] (λ xs : Sst => (xs.kind == 2) && (xs.value == r.v)) _ _ l _ (hl.keep z_36) eF59 (λ x hx w' h => saidX_any x r Ah ch b_30 w' (B_33.later h))).mono ?_)
    rintro e w_40 ⟨rfl, x_41⟩
    refine ⟨_, rfl, ?_⟩
    have := x_41.size
    have z_40 := eT z_36 x_41
    refine ug rfl rfl rfl <| vL (nt (evb rfl kan)) <| vL (pkT rfl rfl) <| nK <| cF rfl <| sK <| sq <| ?_
    rcases Bool.eq_false_or_eq_true ((r.q : Int) != 0) with kq0 | kq0
    ·refine rg <| vL (fa eF40 rfl) <| ?_
     have B_33 := B_33.later x_41
     refine vL (ld rfl (B_33.one eF28 rfl)) <| vL (bne rfl rfl) <| vm (evb rfl kq0) <| ug rfl rfl rfl <| vL (fa eF32 rfl) <| ug rfl rfl rfl <| vL (ld rfl (B_33.one eF33 rfl)) <| ug rfl rfl rfl <| vL (nt (evb rfl kra)) <| vL (pkT rfl rfl) <| vm rfl <| ug rfl rfl rfl <| vL (fa eF32 rfl) <| ug rfl rfl rfl <| vL (ld rfl (B_33.one eF33 rfl)) <| ug rfl rfl rfl <| vm (evb rfl kra) <| ug rfl rfl rfl <| vL (fa eF27 rfl) <| ug rfl rfl rfl <| vL (ld rfl (B_33.one eF28 rfl)) <| ug rfl rfl rfl <| ca eF19 rfl rfl ((onesS r.p (by have h_ := hpq; omega) _).mono ?_)
     rintro e w_43 ⟨rfl, x_44⟩
     refine ⟨_, rfl, ?_⟩
     have := x_44.size
     have z_43 := eT z_40 x_44
     refine ug rfl rfl rfl <| vL (bmu rfl rfl (inI (by have h_ := Vote.cnt_le 32 r.p; unfold Vote.size; omega))) <| ug rfl rfl rfl <| vm rfl <| ug rfl rfl rfl <| vL (ble rfl rfl) <| ug rfl rfl rfl <| vL (pkT rfl (evb rfl kmj)) <| vL (pkF rfl rfl) <| nK <| cF rfl <| sk <| nB <| nT <| rg <| vL (bad rfl rfl (inI (by omega))) <| vm rfl <| nl <| ?_
     have HRw := HRw.later x_31
     have HRw := HRw.mod m_37 (λ q hq h => by have hb := List.mem_singleton.1 h; exfalso; (have := u_27 q hq; have := uRw q hq; omega))
     have HRw := HRw.later (eT x_41 x_44)
     exact nI _ _ ⟨k + 1, rfl, rfl, z_43, HRw, by omega⟩ (by omega) (.cons rfl (.cons rfl (.cons rfl (.cons rfl (.cons (loI rfl (by first | omega | rfl | (simp <;> omega))) .nil)))))
    ·refine rg <| vL (fa eF40 rfl) <| ?_
     have B_33 := B_33.later x_41
     refine vL (ld rfl (B_33.one eF28 rfl)) <| vL (bne rfl rfl) <| vm (evb rfl kq0) <| vQ (v := undef) rfl rfl rfl rfl (λ hc => nomatch hc) rfl <| vQ (v := undef) rfl rfl rfl rfl (λ hc => nomatch hc) rfl <| vQ (v := undef) rfl rfl rfl rfl (λ hc => nomatch hc) rfl <| vL (pkF rfl rfl) <| vm rfl <| ug rfl rfl rfl <| vL (fa eF32 rfl) <| ug rfl rfl rfl <| vL (ld rfl (B_33.one eF33 rfl)) <| ug rfl rfl rfl <| vm (evb rfl kra) <| ug rfl rfl rfl <| vL (fa eF27 rfl) <| ug rfl rfl rfl <| vL (ld rfl (B_33.one eF28 rfl)) <| ug rfl rfl rfl <| ca eF19 rfl rfl ((onesS r.p (by have h_ := hpq; omega) _).mono ?_)
     rintro e w_46 ⟨rfl, x_47⟩
     refine ⟨_, rfl, ?_⟩
     have := x_47.size
     have z_46 := eT z_40 x_47
     refine ug rfl rfl rfl <| vL (bmu rfl rfl (inI (by have h_ := Vote.cnt_le 32 r.p; unfold Vote.size; omega))) <| ug rfl rfl rfl <| vm rfl <| ug rfl rfl rfl <| vL (ble rfl rfl) <| ug rfl rfl rfl <| vL (pkT rfl (evb rfl kmj)) <| vL (pkF rfl rfl) <| nK <| cF rfl <| sk <| nB <| nT <| rg <| vL (bad rfl rfl (inI (by omega))) <| vm rfl <| nl <| ?_
     have HRw := HRw.later x_31
     have HRw := HRw.mod m_37 (λ q hq h => by have hb := List.mem_singleton.1 h; exfalso; (have := u_27 q hq; have := uRw q hq; omega))
     have HRw := HRw.later (eT x_41 x_47)
     exact nI _ _ ⟨k + 1, rfl, rfl, z_46, HRw, by omega⟩ (by omega) (.cons rfl (.cons rfl (.cons rfl (.cons rfl (.cons (loI rfl (by first | omega | rfl | (simp <;> omega))) .nil)))))
   ·have kq0 : ((r.q : Int) != 0) = false := by rw [q_zero P hrm kra]; rfl
    refine rg <| vL (fa eF32 rfl) <| vL (ld rfl (B_33.one eF33 rfl)) <| vm (evb rfl kra) <| vQ (v := undef) rfl rfl rfl rfl (λ hc => nomatch hc) rfl <| vQ (v := undef) rfl rfl rfl rfl (λ hc => nomatch hc) rfl <| vQ (v := undef) rfl rfl rfl rfl (λ hc => nomatch hc) rfl <| vQ (v := undef) rfl rfl rfl rfl (λ hc => nomatch hc) rfl <| vL (pkF rfl rfl) <| nK <| cF rfl <| sK <| sg <| vL (fa eF40 rfl) <| vL (ld rfl (B_33.one eF28 rfl)) <| vL (bne rfl rfl) <| vm (evb rfl kq0) <| vQ (v := undef) rfl rfl rfl rfl (λ hc => nomatch hc) rfl <| vQ (v := undef) rfl rfl rfl rfl (λ hc => nomatch hc) rfl <| vQ (v := undef) rfl rfl rfl rfl (λ hc => nomatch hc) rfl <| vL (pkF rfl rfl) <| ?_
    refine vm rfl <| ug rfl rfl rfl <| vL (fa eF32 rfl) <| ug rfl rfl rfl <| vL (ld rfl (B_33.one eF33 rfl)) <| ug rfl rfl rfl <| vm (evb rfl kra) <| vQ (v := undef) rfl rfl rfl rfl (λ hc => nomatch hc) rfl <| vQ (v := undef) rfl rfl rfl rfl (λ hc => nomatch hc) rfl <| vQ (v := undef) rfl rfl rfl rfl (λ hc => nomatch hc) rfl <| vQ (v := undef) rfl rfl rfl rfl (λ hc => nomatch hc) rfl <| vQ (v := undef) rfl rfl rfl rfl (λ hc => nomatch hc) rfl <| vQ (v := undef) rfl rfl rfl rfl (λ hc => nomatch hc) rfl <| ug rfl rfl rfl <| vL (pkF rfl rfl) <| vL (pkF rfl rfl) <| nK <| cF rfl <| sk <| nB <| nT <| rg <| vL (bad rfl rfl (inI (by omega))) <| ?_
    refine vm rfl <| nl <| ?_
    have HRw := HRw.later x_31
    have HRw := HRw.mod m_37 (λ q hq h => by have hb := List.mem_singleton.1 h; exfalso; (have := u_27 q hq; have := uRw q hq; omega))
    exact nI _ _ ⟨k + 1, rfl, rfl, z_36, HRw, by omega⟩ (by omega) (.cons rfl (.cons rfl (.cons rfl (.cons rfl (.cons (loI rfl (by first | omega | rfl | (simp <;> omega))) .nil)))))
  ·refine xt <| xT <| xK <| xB <| nT <| sg <| va rfl <| nK <| rt <| tR (.tmp rfl .nil) <| ?_
   exact ⟨rfl, z_23⟩
theorem synodSaid_any (a0 : Int) (a1 : Option Addr) (len1 cap1 : Nat) (w : World) (w0 : (Lit.int .i64 a0).wf = true) (h1 : (.slice (.cons (.int .i64) (.cons (.int .i64) (.cons (.int .i64) (.cons (.int .i64) .nil)))) 32 : Sh).Ok w [.slice a1 len1 cap1]) :
  Calls Try.prog 9 #[.int .i64 a0, .slice a1 len1 cap1] w λ e w' => e = .returned (.bool true) ∧ Below w.heap.size w w' := by
 obtain ⟨Ax, cx, l, e1, hl1⟩ := Rep.opens_slice (R := Sst.rep) (by_ := 32) Sst.opens rfl (by decide) h1
 injection e1 with e_ _
 injection e_ with q1_ q2_ q3_
 subst q1_ q2_ q3_
 exact synodSaid_w a0 l _ _ w hl1
end
end Go.Proofs.Ytifffjhhammeiaa
