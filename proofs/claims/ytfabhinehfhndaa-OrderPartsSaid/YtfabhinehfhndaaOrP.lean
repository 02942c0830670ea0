/-
  OrderParts. (Printed by bin/parts.py.)
-/
import Derived.Test.YtfabhinehfhndaaSpx
import Derived.Test.YtfabhinehfhndaaClo4
import Derived.Test.YtfabhinehfhndaaOrB
import Derived.Test.YtfabhinehfhndaaFlD
set_option linter.unusedVariables false
set_option linter.unusedSimpArgs false
namespace Go.Proofs.Ytfabhinehfhndaa
open Go.RowKit

theorem OrP_sz_api_Blow : Sz Try.prog 95 2 := fun _ => by kernel_rfl
theorem OrP_ag_api_Blow : Ag Try.prog 95 true := fun _ => by kernel_rfl
theorem OrP_eqs_api_Blow : EqS Try.prog Blw.cells 95 := by
  intro a b w
  obtain ⟨a0, a1⟩ := a
  obtain ⟨b0, b1⟩ := b
  simp only [Blw.cells, Blw.mk.injEq, Cel.mk.injEq]
  constructor
  · go_simp
    repeat' split
    all_goals simp_all
  · go_simp
    repeat' split
    all_goals simp_all
theorem OrP_eqg_api_Blow : (Try.prog).eqGuardType (Try.prog).depth 95 = false := by kernel_rfl
theorem OrP_sz_api_Go : Sz Try.prog 99 3 := fun _ => by kernel_rfl
theorem OrP_ag_api_Go : Ag Try.prog 99 true := fun _ => by kernel_rfl
theorem OrP_eqs_api_Go : EqS Try.prog Gox.cells 99 := by
  intro a b w
  obtain ⟨a0, ⟨a1, a2⟩⟩ := a
  obtain ⟨b0, ⟨b1, b2⟩⟩ := b
  simp only [Gox.cells, Gox.mk.injEq, Cel.mk.injEq]
  constructor
  · go_simp
    repeat' split
    all_goals simp_all
  · go_simp
    repeat' split
    all_goals simp_all
theorem OrP_eqg_api_Go : (Try.prog).eqGuardType (Try.prog).depth 99 = false := by kernel_rfl
theorem OrP_sz_api_Deed : Sz Try.prog 103 5 := fun _ => by kernel_rfl
theorem OrP_ag_api_Deed : Ag Try.prog 103 true := fun _ => by kernel_rfl
theorem OrP_eqs_api_Deed : EqS Try.prog Ded.cells 103 := by
  intro a b w
  obtain ⟨a0, a1, ⟨a2, a3⟩, a4⟩ := a
  obtain ⟨b0, b1, ⟨b2, b3⟩, b4⟩ := b
  simp only [Ded.cells, Ded.mk.injEq, Cel.mk.injEq]
  constructor
  · go_simp
    repeat' split
    all_goals simp_all
  · go_simp
    repeat' split
    all_goals simp_all
theorem OrP_eqg_api_Deed : (Try.prog).eqGuardType (Try.prog).depth 103 = false := by kernel_rfl
theorem OrP_ag_api_World : Ag Try.prog 82 true := fun _ => by kernel_rfl
theorem OrP_sz_api_World : Sz Try.prog 82 9 := fun _ => by kernel_rfl
theorem OrP_en_order_Split : Enters Try.prog 37 := en Try.func37 (by kernel_rfl) (by kernel_rfl)
theorem OrP_en_mustkeep_orderLives : Enters Try.prog 38 := en Try.func38 (by kernel_rfl) (by kernel_rfl)
theorem OrP_en_slices_Clone_S_api_Order_api_Order_ : Enters Try.prog 39 := en Try.func39 (by kernel_rfl) (by kernel_rfl)
theorem OrP_el_S_api_Order : ElT Try.prog Odr.rep 76 92 48 := ElT.mk_ (z := Odr.zero) (k := 6) Try.underlying76 Odr.info rfl rfl (by decide) Odr.zero_raw
theorem OrP_en_slices_Clone_S_api_Blow_api_Blow_ : Enters Try.prog 41 := en Try.func41 (by kernel_rfl) (by kernel_rfl)
theorem OrP_el_S_api_Blow : ElT Try.prog Blw.rep 83 95 16 := ElT.mk_ (z := Blw.zero) (k := 2) Try.underlying83 Blw.info rfl rfl (by decide) Blw.zero_raw
theorem OrP_en_slices_Equal_S_api_Blow_api_Blow_ : Enters Try.prog 40 := en Try.func40 (by kernel_rfl) (by kernel_rfl)
theorem OrP_en_slices_Clone_S_api_Go_api_Go_ : Enters Try.prog 43 := en Try.func43 (by kernel_rfl) (by kernel_rfl)
theorem OrP_el_S_api_Go : ElT Try.prog Gox.rep 84 99 24 := ElT.mk_ (z := Gox.zero) (k := 3) Try.underlying84 Gox.info rfl rfl (by decide) Gox.zero_raw
theorem OrP_en_slices_Equal_S_api_Go_api_Go_ : Enters Try.prog 42 := en Try.func42 (by kernel_rfl) (by kernel_rfl)
theorem OrP_en_slices_Clone_S_api_Deed_api_Deed_ : Enters Try.prog 45 := en Try.func45 (by kernel_rfl) (by kernel_rfl)
theorem OrP_el_S_api_Deed : ElT Try.prog Ded.rep 85 103 40 := ElT.mk_ (z := Ded.zero) (k := 5) Try.underlying85 Ded.info rfl rfl (by decide) Ded.zero_raw
theorem OrP_en_slices_Equal_S_api_Deed_api_Deed_ : Enters Try.prog 44 := en Try.func44 (by kernel_rfl) (by kernel_rfl)
set_option maxRecDepth 100000 in
set_option maxHeartbeats 400000 in
theorem equal_W (A B : Option Addr) (c d b1 b2 : Nat) (l m : List Blw) (w : World) (h1 : Blw.rep.SHas b1 w A c l) (h2 : Blw.rep.SHas b2 w B d m) :
    Calls Try.prog 40 #[.slice A l.length c, .slice B m.length d] w (fun e w' => e = .returned (.bool (decide (l = m))) ∧ Ext w w') := by
  have hle := h1.len_le
  refine calls_W (n := 26) Try.func40 rfl rfl rfl ?_
  refine sq <| rg <| vl (as_ rfl) rfl <| nl <| nT <| sq <| sq <| rg <| vl (mv rfl) rfl <| vl (ln Try.underlying83 rfl) rfl <| vl (mv rfl) rfl <| vl (ln Try.underlying83 rfl) rfl <| vl (bne rfl rfl) rfl <| nl <| nT <| ?_
  refine cne rfl (fun h_1 => ?_) (fun h_1 => ?_)
  · refine sq <| rg <| vl (as_ rfl) rfl <| nl <| nT <| rt <| tT <| tR (.tmp rfl .nil) <| ?_
    rw [decide_eq_false (fun e => h_1 (by rw [e]))]
    exact ⟨rfl, (Ext.rf w)⟩
  · refine sk <| nT <| sq <| sq <| rg <| vl (mv rfl) rfl <| vl (ln Try.underlying83 rfl) rfl <| vl (mv rfl) rfl <| nl <| nT <| bk <| ?_
    refine lp (fun mI EI wI => ∃ k : Nat, EI = [(0, .slice A l.length c), (1, .slice B m.length d), (12, .int .i64 (l.length : Int)), (13, .int .i64 (k : Int))] ∧ mI = l.length - k ∧ Ext w wI ∧ (k ≤ l.length) ∧ (∀ j, j < k → l[j]? = m[j]?)) _ _ ⟨0, rfl, rfl, (Ext.rf w), by omega, fun j hj => absurd hj (by omega)⟩ (.cons rfl (.cons rfl (.cons rfl (.cons (loI rfl (by first | omega | rfl | (simp <;> omega))) .nil)))) ?_
    rintro m_3 E_4 w_2 ⟨k, rfl, rfl, z_2, hk, hk2⟩
    have q_5 := z_2.size
    have hle := h1.len_le
    have hle2 := h2.len_le
    refine sq <| rg <| vl (blt rfl rfl) rfl <| nl <| nT <| sq <| ?_
    refine clt rfl (fun h_6 => ?_) (fun h_6 => ?_)
    · obtain ⟨x1, hx1⟩ := get_of (l := l) (i := k) (by omega)
      obtain ⟨y1, hy1⟩ := get_of (l := m) (i := k) (by omega)
      refine sk <| nT <| sq <| bk <| sq <| rg <| vl (mv rfl) rfl <| vl (as_ rfl) rfl <| nl <| nT <| sq <| ?_
      refine rd [(3, 0), (7, 0)] [0, 1, 2, 3, 4, 5, 6, 7, 8] (by kernel_rfl) (by kernel_rfl) ?_
      refine fw rfl rfl (fun _ => mv rfl) rfl <| fw rfl rfl (fun _ => mv rfl) rfl <| fw rfl rfl (fun _ => iA k Try.underlying83 OrP_sz_api_Blow rfl rfl ((h1.keep z_2).adr (Nat.zero_lt_of_lt (show k < _ from (by omega)))) rfl (by omega)) rfl <| fq rfl rfl (fun _ x => ld rfl (Rep.SHas.elt hcW ((h1.keep (Ext.tr z_2 x)).adh (Nat.zero_lt_of_lt (show k < _ from (by omega)))) hx1 OrP_ag_api_Blow OrP_sz_api_Blow)) rfl <| fw rfl rfl (fun _ => mv rfl) rfl <| fw rfl rfl (fun _ => mv rfl) rfl <| fw rfl rfl (fun _ => iA k Try.underlying83 OrP_sz_api_Blow rfl rfl ((h2.keep z_2).adr (Nat.zero_lt_of_lt (show k < _ from (by omega)))) rfl (by omega)) rfl <| fq rfl rfl (fun _ x => ld rfl (Rep.SHas.elt hcW ((h2.keep (Ext.tr z_2 x)).adh (Nat.zero_lt_of_lt (show k < _ from (by omega)))) hy1 OrP_ag_api_Blow OrP_sz_api_Blow)) rfl <| fw rfl rfl (fun _ => bnS OrP_eqs_api_Blow OrP_eqg_api_Blow (p := x1) (q := y1) rfl rfl) rfl <| fn fun w_7 x_8 => ?_
      have q_9 := x_8.size
      have z_7 := Ext.tr z_2 x_8
      refine nT <| ?_
      refine cb rfl (fun h_10 => ?_) (fun h_10 => ?_)
      · refine sq <| rg <| vl (as_ rfl) rfl <| nl <| nT <| rt <| tB <| tT <| tK <| tB <| tT <| tR (.tmp rfl .nil) <| ?_
        rw [decide_eq_false (fun e => by rw [e, hy1] at hx1; injection hx1 with hx1; exact absurd hx1.symm (by first | exact ne_of_nb h_10 | exact h_10))]
        exact ⟨rfl, z_7⟩
      · refine sk <| nB <| nT <| rg <| vl (bad rfl rfl (inI (by omega))) rfl <| vl (mv rfl) rfl <| nl <| ?_
        exact nI _ _ ⟨k + 1, rfl, rfl, z_7, by omega, lt_succ_all hk2 (by rw [hx1, hy1, (by first | exact eq_of_nb h_10 | exact h_10 : x1 = y1)])⟩ (by omega) (.cons rfl (.cons rfl (.cons rfl (.cons (loI rfl (by first | omega | rfl | (simp <;> omega))) .nil))))
    · refine xt <| xT <| xK <| xB <| nT <| sq <| rg <| vl (as_ rfl) rfl <| nl <| nT <| rt <| tR (.tmp rfl .nil) <| ?_
      rw [decide_eq_true (eq_all (by omega) (by omega) hk2)]
      exact ⟨rfl, z_2⟩
set_option maxRecDepth 100000 in
set_option maxHeartbeats 400000 in
theorem equal_G (A B : Option Addr) (c d b1 b2 : Nat) (l m : List Gox) (w : World) (h1 : Gox.rep.SHas b1 w A c l) (h2 : Gox.rep.SHas b2 w B d m) :
    Calls Try.prog 42 #[.slice A l.length c, .slice B m.length d] w (fun e w' => e = .returned (.bool (decide (l = m))) ∧ Ext w w') := by
  have hle := h1.len_le
  refine calls_W (n := 26) Try.func42 rfl rfl rfl ?_
  refine sq <| rg <| vl (as_ rfl) rfl <| nl <| nT <| sq <| sq <| rg <| vl (mv rfl) rfl <| vl (ln Try.underlying84 rfl) rfl <| vl (mv rfl) rfl <| vl (ln Try.underlying84 rfl) rfl <| vl (bne rfl rfl) rfl <| nl <| nT <| ?_
  refine cne rfl (fun h_1 => ?_) (fun h_1 => ?_)
  · refine sq <| rg <| vl (as_ rfl) rfl <| nl <| nT <| rt <| tT <| tR (.tmp rfl .nil) <| ?_
    rw [decide_eq_false (fun e => h_1 (by rw [e]))]
    exact ⟨rfl, (Ext.rf w)⟩
  · refine sk <| nT <| sq <| sq <| rg <| vl (mv rfl) rfl <| vl (ln Try.underlying84 rfl) rfl <| vl (mv rfl) rfl <| nl <| nT <| bk <| ?_
    refine lp (fun mI EI wI => ∃ k : Nat, EI = [(0, .slice A l.length c), (1, .slice B m.length d), (12, .int .i64 (l.length : Int)), (13, .int .i64 (k : Int))] ∧ mI = l.length - k ∧ Ext w wI ∧ (k ≤ l.length) ∧ (∀ j, j < k → l[j]? = m[j]?)) _ _ ⟨0, rfl, rfl, (Ext.rf w), by omega, fun j hj => absurd hj (by omega)⟩ (.cons rfl (.cons rfl (.cons rfl (.cons (loI rfl (by first | omega | rfl | (simp <;> omega))) .nil)))) ?_
    rintro m_3 E_4 w_2 ⟨k, rfl, rfl, z_2, hk, hk2⟩
    have q_5 := z_2.size
    have hle := h1.len_le
    have hle2 := h2.len_le
    refine sq <| rg <| vl (blt rfl rfl) rfl <| nl <| nT <| sq <| ?_
    refine clt rfl (fun h_6 => ?_) (fun h_6 => ?_)
    · obtain ⟨x1, hx1⟩ := get_of (l := l) (i := k) (by omega)
      obtain ⟨y1, hy1⟩ := get_of (l := m) (i := k) (by omega)
      refine sk <| nT <| sq <| bk <| sq <| rg <| vl (mv rfl) rfl <| vl (as_ rfl) rfl <| nl <| nT <| sq <| ?_
      refine rd [(3, 0), (7, 0)] [0, 1, 2, 3, 4, 5, 6, 7, 8] (by kernel_rfl) (by kernel_rfl) ?_
      refine fw rfl rfl (fun _ => mv rfl) rfl <| fw rfl rfl (fun _ => mv rfl) rfl <| fw rfl rfl (fun _ => iA k Try.underlying84 OrP_sz_api_Go rfl rfl ((h1.keep z_2).adr (Nat.zero_lt_of_lt (show k < _ from (by omega)))) rfl (by omega)) rfl <| fq rfl rfl (fun _ x => ld rfl (Rep.SHas.elt hcGo ((h1.keep (Ext.tr z_2 x)).adh (Nat.zero_lt_of_lt (show k < _ from (by omega)))) hx1 OrP_ag_api_Go OrP_sz_api_Go)) rfl <| fw rfl rfl (fun _ => mv rfl) rfl <| fw rfl rfl (fun _ => mv rfl) rfl <| fw rfl rfl (fun _ => iA k Try.underlying84 OrP_sz_api_Go rfl rfl ((h2.keep z_2).adr (Nat.zero_lt_of_lt (show k < _ from (by omega)))) rfl (by omega)) rfl <| fq rfl rfl (fun _ x => ld rfl (Rep.SHas.elt hcGo ((h2.keep (Ext.tr z_2 x)).adh (Nat.zero_lt_of_lt (show k < _ from (by omega)))) hy1 OrP_ag_api_Go OrP_sz_api_Go)) rfl <| fw rfl rfl (fun _ => bnS OrP_eqs_api_Go OrP_eqg_api_Go (p := x1) (q := y1) rfl rfl) rfl <| fn fun w_7 x_8 => ?_
      have q_9 := x_8.size
      have z_7 := Ext.tr z_2 x_8
      refine nT <| ?_
      refine cb rfl (fun h_10 => ?_) (fun h_10 => ?_)
      · refine sq <| rg <| vl (as_ rfl) rfl <| nl <| nT <| rt <| tB <| tT <| tK <| tB <| tT <| tR (.tmp rfl .nil) <| ?_
        rw [decide_eq_false (fun e => by rw [e, hy1] at hx1; injection hx1 with hx1; exact absurd hx1.symm (by first | exact ne_of_nb h_10 | exact h_10))]
        exact ⟨rfl, z_7⟩
      · refine sk <| nB <| nT <| rg <| vl (bad rfl rfl (inI (by omega))) rfl <| vl (mv rfl) rfl <| nl <| ?_
        exact nI _ _ ⟨k + 1, rfl, rfl, z_7, by omega, lt_succ_all hk2 (by rw [hx1, hy1, (by first | exact eq_of_nb h_10 | exact h_10 : x1 = y1)])⟩ (by omega) (.cons rfl (.cons rfl (.cons rfl (.cons (loI rfl (by first | omega | rfl | (simp <;> omega))) .nil))))
    · refine xt <| xT <| xK <| xB <| nT <| sq <| rg <| vl (as_ rfl) rfl <| nl <| nT <| rt <| tR (.tmp rfl .nil) <| ?_
      rw [decide_eq_true (eq_all (by omega) (by omega) hk2)]
      exact ⟨rfl, z_2⟩
set_option maxRecDepth 100000 in
set_option maxHeartbeats 400000 in
theorem equal_D (A B : Option Addr) (c d b1 b2 : Nat) (l m : List Ded) (w : World) (h1 : Ded.rep.SHas b1 w A c l) (h2 : Ded.rep.SHas b2 w B d m) :
    Calls Try.prog 44 #[.slice A l.length c, .slice B m.length d] w (fun e w' => e = .returned (.bool (decide (l = m))) ∧ Ext w w') := by
  have hle := h1.len_le
  refine calls_W (n := 26) Try.func44 rfl rfl rfl ?_
  refine sq <| rg <| vl (as_ rfl) rfl <| nl <| nT <| sq <| sq <| rg <| vl (mv rfl) rfl <| vl (ln Try.underlying85 rfl) rfl <| vl (mv rfl) rfl <| vl (ln Try.underlying85 rfl) rfl <| vl (bne rfl rfl) rfl <| nl <| nT <| ?_
  refine cne rfl (fun h_1 => ?_) (fun h_1 => ?_)
  · refine sq <| rg <| vl (as_ rfl) rfl <| nl <| nT <| rt <| tT <| tR (.tmp rfl .nil) <| ?_
    rw [decide_eq_false (fun e => h_1 (by rw [e]))]
    exact ⟨rfl, (Ext.rf w)⟩
  · refine sk <| nT <| sq <| sq <| rg <| vl (mv rfl) rfl <| vl (ln Try.underlying85 rfl) rfl <| vl (mv rfl) rfl <| nl <| nT <| bk <| ?_
    refine lp (fun mI EI wI => ∃ k : Nat, EI = [(0, .slice A l.length c), (1, .slice B m.length d), (12, .int .i64 (l.length : Int)), (13, .int .i64 (k : Int))] ∧ mI = l.length - k ∧ Ext w wI ∧ (k ≤ l.length) ∧ (∀ j, j < k → l[j]? = m[j]?)) _ _ ⟨0, rfl, rfl, (Ext.rf w), by omega, fun j hj => absurd hj (by omega)⟩ (.cons rfl (.cons rfl (.cons rfl (.cons (loI rfl (by first | omega | rfl | (simp <;> omega))) .nil)))) ?_
    rintro m_3 E_4 w_2 ⟨k, rfl, rfl, z_2, hk, hk2⟩
    have q_5 := z_2.size
    have hle := h1.len_le
    have hle2 := h2.len_le
    refine sq <| rg <| vl (blt rfl rfl) rfl <| nl <| nT <| sq <| ?_
    refine clt rfl (fun h_6 => ?_) (fun h_6 => ?_)
    · obtain ⟨x1, hx1⟩ := get_of (l := l) (i := k) (by omega)
      obtain ⟨y1, hy1⟩ := get_of (l := m) (i := k) (by omega)
      refine sk <| nT <| sq <| bk <| sq <| rg <| vl (mv rfl) rfl <| vl (as_ rfl) rfl <| nl <| nT <| sq <| ?_
      refine rd [(3, 0), (7, 0)] [0, 1, 2, 3, 4, 5, 6, 7, 8] (by kernel_rfl) (by kernel_rfl) ?_
      refine fw rfl rfl (fun _ => mv rfl) rfl <| fw rfl rfl (fun _ => mv rfl) rfl <| fw rfl rfl (fun _ => iA k Try.underlying85 OrP_sz_api_Deed rfl rfl ((h1.keep z_2).adr (Nat.zero_lt_of_lt (show k < _ from (by omega)))) rfl (by omega)) rfl <| fq rfl rfl (fun _ x => ld rfl (Rep.SHas.elt hcD ((h1.keep (Ext.tr z_2 x)).adh (Nat.zero_lt_of_lt (show k < _ from (by omega)))) hx1 OrP_ag_api_Deed OrP_sz_api_Deed)) rfl <| fw rfl rfl (fun _ => mv rfl) rfl <| fw rfl rfl (fun _ => mv rfl) rfl <| fw rfl rfl (fun _ => iA k Try.underlying85 OrP_sz_api_Deed rfl rfl ((h2.keep z_2).adr (Nat.zero_lt_of_lt (show k < _ from (by omega)))) rfl (by omega)) rfl <| fq rfl rfl (fun _ x => ld rfl (Rep.SHas.elt hcD ((h2.keep (Ext.tr z_2 x)).adh (Nat.zero_lt_of_lt (show k < _ from (by omega)))) hy1 OrP_ag_api_Deed OrP_sz_api_Deed)) rfl <| fw rfl rfl (fun _ => bnS OrP_eqs_api_Deed OrP_eqg_api_Deed (p := x1) (q := y1) rfl rfl) rfl <| fn fun w_7 x_8 => ?_
      have q_9 := x_8.size
      have z_7 := Ext.tr z_2 x_8
      refine nT <| ?_
      refine cb rfl (fun h_10 => ?_) (fun h_10 => ?_)
      · refine sq <| rg <| vl (as_ rfl) rfl <| nl <| nT <| rt <| tB <| tT <| tK <| tB <| tT <| tR (.tmp rfl .nil) <| ?_
        rw [decide_eq_false (fun e => by rw [e, hy1] at hx1; injection hx1 with hx1; exact absurd hx1.symm (by first | exact ne_of_nb h_10 | exact h_10))]
        exact ⟨rfl, z_7⟩
      · refine sk <| nB <| nT <| rg <| vl (bad rfl rfl (inI (by omega))) rfl <| vl (mv rfl) rfl <| nl <| ?_
        exact nI _ _ ⟨k + 1, rfl, rfl, z_7, by omega, lt_succ_all hk2 (by rw [hx1, hy1, (by first | exact eq_of_nb h_10 | exact h_10 : x1 = y1)])⟩ (by omega) (.cons rfl (.cons rfl (.cons rfl (.cons (loI rfl (by first | omega | rfl | (simp <;> omega))) .nil))))
    · refine xt <| xT <| xK <| xB <| nT <| sq <| rg <| vl (as_ rfl) rfl <| nl <| nT <| rt <| tR (.tmp rfl .nil) <| ?_
      rw [decide_eq_true (eq_all (by omega) (by omega) hk2)]
      exact ⟨rfl, z_2⟩
set_option maxRecDepth 100000 in
set_option maxHeartbeats 1000000 in
theorem orderParts_false_false (A Bq : Option Addr) (c d : Nat) (l m : List Odr) (aw : Wd.At) (W : Wd) (w : World) (hl : Odr.rep.SHas 48 w A c l) (hm : Odr.rep.SHas 48 w Bq d m) (hW : Wd.Has w aw W) (hok1 : splE W l ≠ 0) (hok2 : splE W m ≠ 0) :
    Calls Try.prog 13 #[.slice A l.length c, .slice Bq m.length d, .agg ((Wd.cells aw W).toArray)] w (fun e w' => e = .returned (.bool true) ∧ Ext w w') := by
  have hll := hl.len_le
  have hml := hm.len_le
  refine calls_W (n := 91) Try.func13 rfl rfl rfl ?_
  refine sq <| rg <| bx rfl rfl rfl rfl fun w_1 b_2 x_3 l_4 B_5 => ?_
  have q_6 := x_3.size
  have z_1 := Ext.tr (Ext.rf w) x_3
  have q_7 := B_5.lt
  refine vl (as_ rfl) rfl <| nl <| nT <| sq <| rg <| vl (mv rfl) rfl <| vl (ld rfl (B_5.all OrP_ag_api_World OrP_sz_api_World)) rfl <| ca OrP_en_order_Split rfl rfl ((split_bad _ _ l aw W _ (hl.keep z_1) (hW.keep z_1) hok1).mono ?_)
  rintro e w_8 ⟨rfl, x_9⟩
  refine ⟨_, rfl, ?_⟩
  have q_10 := x_9.size
  have z_8 := Ext.tr z_1 x_9
  refine vl (mv rfl) rfl <| vl (ex rfl rfl) rfl <| vl (ex rfl rfl) rfl <| vl (ex rfl rfl) rfl <| vl (ex rfl rfl) rfl <| vl (as_ rfl) rfl <| vl (as_ rfl) rfl <| vl (as_ rfl) rfl <| vl (as_ rfl) rfl <| nl <| nT <| sq <| rg <| vl (mv rfl) rfl <| ?_
  have B_5 := B_5.later x_9
  refine vl (ld rfl (B_5.all OrP_ag_api_World OrP_sz_api_World)) rfl <| ca OrP_en_order_Split rfl rfl ((split_bad _ _ m aw W _ (hm.keep z_8) (hW.keep z_8) hok2).mono ?_)
  rintro e w_11 ⟨rfl, x_12⟩
  refine ⟨_, rfl, ?_⟩
  have q_13 := x_12.size
  have z_11 := Ext.tr z_8 x_12
  refine vl (mv rfl) rfl <| vl (ex rfl rfl) rfl <| vl (ex rfl rfl) rfl <| vl (ex rfl rfl) rfl <| vl (ex rfl rfl) rfl <| vl (as_ rfl) rfl <| vl (as_ rfl) rfl <| vl (as_ rfl) rfl <| vl (as_ rfl) rfl <| nl <| nT <| sq <| sq <| rg <| ca OrP_en_mustkeep_orderLives rfl rfl ((orderLives_any _).mono ?_)
  rintro e w_14 ⟨rfl, x_15⟩
  refine ⟨_, rfl, ?_⟩
  have q_16 := x_15.size
  have z_14 := Ext.tr z_11 x_15
  refine vl (nt rfl) rfl <| vl (mv rfl) rfl <| ug rfl rfl rfl <| vl (mv rfl) rfl <| ug rfl rfl rfl <| vl (bne rfl rfl) rfl <| vl (pkF rfl rfl) rfl <| vl (mv rfl) rfl <| vQ rfl rfl rfl rfl (fun hc => mv rfl) rfl <| vQ rfl rfl rfl rfl (fun hc => bne (gt hc rfl) rfl) rfl <| vl (pO rfl rfl rfl rfl) rfl <| vl (mv rfl) rfl <| vQ rfl rfl rfl rfl (fun hc => mv rfl) rfl <| vQ rfl rfl rfl rfl (fun hc => ln Try.underlying76 (gt hc rfl)) rfl <| vQ rfl rfl rfl rfl (fun hc => mv rfl) rfl <| vQ rfl rfl rfl rfl (fun hc => ln Try.underlying76 (gt hc rfl)) rfl <| vQ rfl rfl rfl rfl (fun hc => bad (gt hc rfl) (gt hc rfl) (inI (by (try simp only [Bool.or_eq_true, Bool.or_eq_false_iff, Bool.and_eq_true, Bool.and_eq_false_iff, decide_eq_true_eq, decide_eq_false_iff_not, beq_iff_eq, bne_iff_ne, beq_eq_false_iff_ne, bne_eq_false_iff_eq, Bool.not_eq_true', Bool.not_eq_false', Bool.not_eq_true, Bool.not_eq_false, Int.not_lt, Int.not_le, Nat.not_lt, Nat.not_le, ne_eq, Classical.not_not] at hc); omega))) rfl <| vQ rfl rfl rfl rfl (fun hc => bgt (gt hc rfl) rfl) rfl <| vl (pO rfl rfl rfl rfl) rfl <| nl <| nT <| ?_
  have h_17 : ((((splE W l) != 0) || ((splE W m) != 0)) || (decide (100 < (l.length : Int) + (m.length : Int)))) = true := by first | (have := hok1; simp [this]) | (have := hok2; simp [this])
  refine cT (by rw [← h_17]; rfl) <| sq <| rg <| ca OrP_en_mustkeep_orderLives rfl rfl ((orderLives_any _).mono ?_)
  rintro e w_18 ⟨rfl, x_19⟩
  refine ⟨_, rfl, ?_⟩
  have q_20 := x_19.size
  have z_18 := Ext.tr z_14 x_19
  refine vl (as_ rfl) rfl <| nl <| nT <| rt <| tT <| tR (.tmp rfl .nil) <| ?_
  exact ⟨rfl, z_18⟩
set_option maxRecDepth 100000 in
set_option maxHeartbeats 1000000 in
theorem orderParts_false_true (A Bq : Option Addr) (c d : Nat) (l m : List Odr) (aw : Wd.At) (W : Wd) (w : World) (hl : Odr.rep.SHas 48 w A c l) (hm : Odr.rep.SHas 48 w Bq d m) (hW : Wd.Has w aw W) (hok1 : splE W l ≠ 0) (hok2 : splE W m = 0) :
    Calls Try.prog 13 #[.slice A l.length c, .slice Bq m.length d, .agg ((Wd.cells aw W).toArray)] w (fun e w' => e = .returned (.bool true) ∧ Ext w w') := by
  have hll := hl.len_le
  have hml := hm.len_le
  have hm100 := splE_len hok2
  refine calls_W (n := 91) Try.func13 rfl rfl rfl ?_
  refine sq <| rg <| bx rfl rfl rfl rfl fun w_1 b_2 x_3 l_4 B_5 => ?_
  have q_6 := x_3.size
  have z_1 := Ext.tr (Ext.rf w) x_3
  have q_7 := B_5.lt
  refine vl (as_ rfl) rfl <| nl <| nT <| sq <| rg <| vl (mv rfl) rfl <| vl (ld rfl (B_5.all OrP_ag_api_World OrP_sz_api_World)) rfl <| ca OrP_en_order_Split rfl rfl ((split_bad _ _ l aw W _ (hl.keep z_1) (hW.keep z_1) hok1).mono ?_)
  rintro e w_8 ⟨rfl, x_9⟩
  refine ⟨_, rfl, ?_⟩
  have q_10 := x_9.size
  have z_8 := Ext.tr z_1 x_9
  refine vl (mv rfl) rfl <| vl (ex rfl rfl) rfl <| vl (ex rfl rfl) rfl <| vl (ex rfl rfl) rfl <| vl (ex rfl rfl) rfl <| vl (as_ rfl) rfl <| vl (as_ rfl) rfl <| vl (as_ rfl) rfl <| vl (as_ rfl) rfl <| nl <| nT <| sq <| rg <| vl (mv rfl) rfl <| ?_
  have B_5 := B_5.later x_9
  refine vl (ld rfl (B_5.all OrP_ag_api_World OrP_sz_api_World)) rfl <| ca OrP_en_order_Split rfl rfl ((split_ok _ _ m aw W _ (hm.keep z_8) (hW.keep z_8) hok2).mono ?_)
  rintro e w_18 ⟨A_110, c_110, A_111, c_111, A_112, c_112, rfl, OS_110, OS_111, OS_112, x_19⟩
  refine ⟨_, rfl, ?_⟩
  have q_20 := x_19.size
  have z_18 := Ext.tr z_8 x_19
  have u_12 := fun q hq => (OS_110.lt q hq).2
  have lo_13 := fun q hq => (OS_110.lt q hq).1
  have u_14 := fun q hq => (OS_111.lt q hq).2
  have lo_15 := fun q hq => (OS_111.lt q hq).1
  have u_16 := fun q hq => (OS_112.lt q hq).2
  have lo_17 := fun q hq => (OS_112.lt q hq).1
  refine vl (mv rfl) rfl <| vl (ex rfl rfl) rfl <| vl (ex rfl rfl) rfl <| vl (ex rfl rfl) rfl <| vl (ex rfl rfl) rfl <| vl (as_ rfl) rfl <| vl (as_ rfl) rfl <| vl (as_ rfl) rfl <| vl (as_ rfl) rfl <| nl <| nT <| sq <| sq <| rg <| ca OrP_en_mustkeep_orderLives rfl rfl ((orderLives_any _).mono ?_)
  rintro e w_21 ⟨rfl, x_22⟩
  refine ⟨_, rfl, ?_⟩
  have q_23 := x_22.size
  have z_21 := Ext.tr z_18 x_22
  refine vl (nt rfl) rfl <| vl (mv rfl) rfl <| ug rfl rfl rfl <| vl (mv rfl) rfl <| ug rfl rfl rfl <| vl (bne rfl rfl) rfl <| vl (pkF rfl rfl) rfl <| vl (mv rfl) rfl <| vQ rfl rfl rfl rfl (fun hc => mv rfl) rfl <| vQ rfl rfl rfl rfl (fun hc => bne (gt hc rfl) rfl) rfl <| vl (pO rfl rfl rfl rfl) rfl <| vl (mv rfl) rfl <| vQ rfl rfl rfl rfl (fun hc => mv rfl) rfl <| vQ rfl rfl rfl rfl (fun hc => ln Try.underlying76 (gt hc rfl)) rfl <| vQ rfl rfl rfl rfl (fun hc => mv rfl) rfl <| vQ rfl rfl rfl rfl (fun hc => ln Try.underlying76 (gt hc rfl)) rfl <| vQ rfl rfl rfl rfl (fun hc => bad (gt hc rfl) (gt hc rfl) (inI (by (try simp only [Bool.or_eq_true, Bool.or_eq_false_iff, Bool.and_eq_true, Bool.and_eq_false_iff, decide_eq_true_eq, decide_eq_false_iff_not, beq_iff_eq, bne_iff_ne, beq_eq_false_iff_ne, bne_eq_false_iff_eq, Bool.not_eq_true', Bool.not_eq_false', Bool.not_eq_true, Bool.not_eq_false, Int.not_lt, Int.not_le, Nat.not_lt, Nat.not_le, ne_eq, Classical.not_not] at hc); omega))) rfl <| vQ rfl rfl rfl rfl (fun hc => bgt (gt hc rfl) rfl) rfl <| vl (pO rfl rfl rfl rfl) rfl <| nl <| nT <| ?_
  have h_24 : ((((splE W l) != 0) || false) || (decide (100 < (l.length : Int) + (m.length : Int)))) = true := by first | (have := hok1; simp [this]) | (have := hok2; simp [this])
  refine cT (by rw [← h_24]; rfl) <| sq <| rg <| ca OrP_en_mustkeep_orderLives rfl rfl ((orderLives_any _).mono ?_)
  rintro e w_25 ⟨rfl, x_26⟩
  refine ⟨_, rfl, ?_⟩
  have q_27 := x_26.size
  have z_25 := Ext.tr z_21 x_26
  refine vl (as_ rfl) rfl <| nl <| nT <| rt <| tT <| tR (.tmp rfl .nil) <| ?_
  exact ⟨rfl, z_25⟩
set_option maxRecDepth 100000 in
set_option maxHeartbeats 1000000 in
theorem orderParts_true_false (A Bq : Option Addr) (c d : Nat) (l m : List Odr) (aw : Wd.At) (W : Wd) (w : World) (hl : Odr.rep.SHas 48 w A c l) (hm : Odr.rep.SHas 48 w Bq d m) (hW : Wd.Has w aw W) (hok1 : splE W l = 0) (hok2 : splE W m ≠ 0) :
    Calls Try.prog 13 #[.slice A l.length c, .slice Bq m.length d, .agg ((Wd.cells aw W).toArray)] w (fun e w' => e = .returned (.bool true) ∧ Ext w w') := by
  have hll := hl.len_le
  have hml := hm.len_le
  have hl100 := splE_len hok1
  refine calls_W (n := 91) Try.func13 rfl rfl rfl ?_
  refine sq <| rg <| bx rfl rfl rfl rfl fun w_1 b_2 x_3 l_4 B_5 => ?_
  have q_6 := x_3.size
  have z_1 := Ext.tr (Ext.rf w) x_3
  have q_7 := B_5.lt
  refine vl (as_ rfl) rfl <| nl <| nT <| sq <| rg <| vl (mv rfl) rfl <| vl (ld rfl (B_5.all OrP_ag_api_World OrP_sz_api_World)) rfl <| ca OrP_en_order_Split rfl rfl ((split_ok _ _ l aw W _ (hl.keep z_1) (hW.keep z_1) hok1).mono ?_)
  rintro e w_15 ⟨A_80, c_80, A_81, c_81, A_82, c_82, rfl, OS_80, OS_81, OS_82, x_16⟩
  refine ⟨_, rfl, ?_⟩
  have q_17 := x_16.size
  have z_15 := Ext.tr z_1 x_16
  have u_9 := fun q hq => (OS_80.lt q hq).2
  have lo_10 := fun q hq => (OS_80.lt q hq).1
  have u_11 := fun q hq => (OS_81.lt q hq).2
  have lo_12 := fun q hq => (OS_81.lt q hq).1
  have u_13 := fun q hq => (OS_82.lt q hq).2
  have lo_14 := fun q hq => (OS_82.lt q hq).1
  refine vl (mv rfl) rfl <| vl (ex rfl rfl) rfl <| vl (ex rfl rfl) rfl <| vl (ex rfl rfl) rfl <| vl (ex rfl rfl) rfl <| vl (as_ rfl) rfl <| vl (as_ rfl) rfl <| vl (as_ rfl) rfl <| vl (as_ rfl) rfl <| nl <| nT <| sq <| rg <| vl (mv rfl) rfl <| ?_
  have B_5 := B_5.later x_16
  refine vl (ld rfl (B_5.all OrP_ag_api_World OrP_sz_api_World)) rfl <| ca OrP_en_order_Split rfl rfl ((split_bad _ _ m aw W _ (hm.keep z_15) (hW.keep z_15) hok2).mono ?_)
  rintro e w_18 ⟨rfl, x_19⟩
  refine ⟨_, rfl, ?_⟩
  have q_20 := x_19.size
  have z_18 := Ext.tr z_15 x_19
  refine vl (mv rfl) rfl <| vl (ex rfl rfl) rfl <| vl (ex rfl rfl) rfl <| vl (ex rfl rfl) rfl <| vl (ex rfl rfl) rfl <| vl (as_ rfl) rfl <| vl (as_ rfl) rfl <| vl (as_ rfl) rfl <| vl (as_ rfl) rfl <| nl <| nT <| sq <| sq <| rg <| ca OrP_en_mustkeep_orderLives rfl rfl ((orderLives_any _).mono ?_)
  rintro e w_21 ⟨rfl, x_22⟩
  refine ⟨_, rfl, ?_⟩
  have q_23 := x_22.size
  have z_21 := Ext.tr z_18 x_22
  refine vl (nt rfl) rfl <| vl (mv rfl) rfl <| ug rfl rfl rfl <| vl (mv rfl) rfl <| ug rfl rfl rfl <| vl (bne rfl rfl) rfl <| vl (pkF rfl rfl) rfl <| vl (mv rfl) rfl <| ug rfl rfl rfl <| vl (mv rfl) rfl <| ug rfl rfl rfl <| vl (bne rfl rfl) rfl <| vl (pkF rfl rfl) rfl <| vl (mv rfl) rfl <| vQ rfl rfl rfl rfl (fun hc => mv rfl) rfl <| vQ rfl rfl rfl rfl (fun hc => ln Try.underlying76 (gt hc rfl)) rfl <| vQ rfl rfl rfl rfl (fun hc => mv rfl) rfl <| vQ rfl rfl rfl rfl (fun hc => ln Try.underlying76 (gt hc rfl)) rfl <| vQ rfl rfl rfl rfl (fun hc => bad (gt hc rfl) (gt hc rfl) (inI (by (try simp only [Bool.or_eq_true, Bool.or_eq_false_iff, Bool.and_eq_true, Bool.and_eq_false_iff, decide_eq_true_eq, decide_eq_false_iff_not, beq_iff_eq, bne_iff_ne, beq_eq_false_iff_ne, bne_eq_false_iff_eq, Bool.not_eq_true', Bool.not_eq_false', Bool.not_eq_true, Bool.not_eq_false, Int.not_lt, Int.not_le, Nat.not_lt, Nat.not_le, ne_eq, Classical.not_not] at hc); omega))) rfl <| vQ rfl rfl rfl rfl (fun hc => bgt (gt hc rfl) rfl) rfl <| vl (pO rfl rfl rfl rfl) rfl <| nl <| nT <| ?_
  have h_24 : (((splE W m) != 0) || (decide (100 < (l.length : Int) + (m.length : Int)))) = true := by first | (have := hok2; simp [this]) | (have := hok2; simp [this])
  refine cT (by rw [← h_24]; rfl) <| sq <| rg <| ca OrP_en_mustkeep_orderLives rfl rfl ((orderLives_any _).mono ?_)
  rintro e w_25 ⟨rfl, x_26⟩
  refine ⟨_, rfl, ?_⟩
  have q_27 := x_26.size
  have z_25 := Ext.tr z_21 x_26
  refine vl (as_ rfl) rfl <| nl <| nT <| rt <| tT <| tR (.tmp rfl .nil) <| ?_
  exact ⟨rfl, z_25⟩
set_option maxRecDepth 100000 in
set_option maxHeartbeats 1000000 in
theorem orderParts_true_true (A Bq : Option Addr) (c d : Nat) (l m : List Odr) (aw : Wd.At) (W : Wd) (w : World) (hl : Odr.rep.SHas 48 w A c l) (hm : Odr.rep.SHas 48 w Bq d m) (hW : Wd.Has w aw W) (hok1 : splE W l = 0) (hok2 : splE W m = 0) :
    Calls Try.prog 13 #[.slice A l.length c, .slice Bq m.length d, .agg ((Wd.cells aw W).toArray)] w (fun e w' => e = .returned (.bool true) ∧ Ext w w') := by
  have hll := hl.len_le
  have hml := hm.len_le
  have hl100 := splE_len hok1
  have hm100 := splE_len hok2
  refine calls_W (n := 91) Try.func13 rfl rfl rfl ?_
  refine sq <| rg <| bx rfl rfl rfl rfl fun w_1 b_2 x_3 l_4 B_5 => ?_
  have q_6 := x_3.size
  have z_1 := Ext.tr (Ext.rf w) x_3
  have q_7 := B_5.lt
  refine vl (as_ rfl) rfl <| nl <| nT <| sq <| rg <| vl (mv rfl) rfl <| vl (ld rfl (B_5.all OrP_ag_api_World OrP_sz_api_World)) rfl <| ca OrP_en_order_Split rfl rfl ((split_ok _ _ l aw W _ (hl.keep z_1) (hW.keep z_1) hok1).mono ?_)
  rintro e w_15 ⟨A_80, c_80, A_81, c_81, A_82, c_82, rfl, OS_80, OS_81, OS_82, x_16⟩
  refine ⟨_, rfl, ?_⟩
  have q_17 := x_16.size
  have z_15 := Ext.tr z_1 x_16
  have u_9 := fun q hq => (OS_80.lt q hq).2
  have lo_10 := fun q hq => (OS_80.lt q hq).1
  have u_11 := fun q hq => (OS_81.lt q hq).2
  have lo_12 := fun q hq => (OS_81.lt q hq).1
  have u_13 := fun q hq => (OS_82.lt q hq).2
  have lo_14 := fun q hq => (OS_82.lt q hq).1
  refine vl (mv rfl) rfl <| vl (ex rfl rfl) rfl <| vl (ex rfl rfl) rfl <| vl (ex rfl rfl) rfl <| vl (ex rfl rfl) rfl <| vl (as_ rfl) rfl <| vl (as_ rfl) rfl <| vl (as_ rfl) rfl <| vl (as_ rfl) rfl <| nl <| nT <| sq <| rg <| vl (mv rfl) rfl <| ?_
  have B_5 := B_5.later x_16
  refine vl (ld rfl (B_5.all OrP_ag_api_World OrP_sz_api_World)) rfl <| ca OrP_en_order_Split rfl rfl ((split_ok _ _ m aw W _ (hm.keep z_15) (hW.keep z_15) hok2).mono ?_)
  rintro e w_25 ⟨A_180, c_180, A_181, c_181, A_182, c_182, rfl, OS_180, OS_181, OS_182, x_26⟩
  refine ⟨_, rfl, ?_⟩
  have q_27 := x_26.size
  have z_25 := Ext.tr z_15 x_26
  have u_19 := fun q hq => (OS_180.lt q hq).2
  have lo_20 := fun q hq => (OS_180.lt q hq).1
  have u_21 := fun q hq => (OS_181.lt q hq).2
  have lo_22 := fun q hq => (OS_181.lt q hq).1
  have u_23 := fun q hq => (OS_182.lt q hq).2
  have lo_24 := fun q hq => (OS_182.lt q hq).1
  refine vl (mv rfl) rfl <| vl (ex rfl rfl) rfl <| vl (ex rfl rfl) rfl <| vl (ex rfl rfl) rfl <| vl (ex rfl rfl) rfl <| vl (as_ rfl) rfl <| vl (as_ rfl) rfl <| vl (as_ rfl) rfl <| vl (as_ rfl) rfl <| nl <| nT <| sq <| sq <| rg <| ca OrP_en_mustkeep_orderLives rfl rfl ((orderLives_any _).mono ?_)
  rintro e w_28 ⟨rfl, x_29⟩
  refine ⟨_, rfl, ?_⟩
  have q_30 := x_29.size
  have z_28 := Ext.tr z_25 x_29
  refine vl (nt rfl) rfl <| vl (mv rfl) rfl <| ug rfl rfl rfl <| vl (mv rfl) rfl <| ug rfl rfl rfl <| vl (bne rfl rfl) rfl <| vl (pkF rfl rfl) rfl <| vl (mv rfl) rfl <| ug rfl rfl rfl <| vl (mv rfl) rfl <| ug rfl rfl rfl <| vl (bne rfl rfl) rfl <| vl (pkF rfl rfl) rfl <| vl (mv rfl) rfl <| ug rfl rfl rfl <| vl (mv rfl) rfl <| ug rfl rfl rfl <| vl (ln Try.underlying76 rfl) rfl <| ug rfl rfl rfl <| vl (mv rfl) rfl <| ug rfl rfl rfl <| vl (ln Try.underlying76 rfl) rfl <| ug rfl rfl rfl <| vl (bad rfl rfl (inI (by omega))) rfl <| ?_
  refine ug rfl rfl rfl <| vl (bgt rfl rfl) rfl <| vl (pkF rfl rfl) rfl <| nl <| nT <| ?_
  refine clt rfl (fun h_31 => ?_) (fun h_31 => ?_)
  · refine sq <| rg <| ca OrP_en_mustkeep_orderLives rfl rfl ((orderLives_any _).mono ?_)
    rintro e w_32 ⟨rfl, x_33⟩
    refine ⟨_, rfl, ?_⟩
    have q_34 := x_33.size
    have z_32 := Ext.tr z_28 x_33
    refine vl (as_ rfl) rfl <| nl <| nT <| rt <| tT <| tR (.tmp rfl .nil) <| ?_
    exact ⟨rfl, z_32⟩
  · simp only [Bool.or_eq_true, Bool.or_eq_false_iff, Bool.and_eq_true, Bool.and_eq_false_iff, decide_eq_true_eq, decide_eq_false_iff_not, beq_iff_eq, bne_iff_ne, beq_eq_false_iff_ne, bne_eq_false_iff_eq, Bool.not_eq_true', Bool.not_eq_false', Bool.not_eq_true, Bool.not_eq_false, Int.not_lt, Int.not_le, Nat.not_lt, Nat.not_le, ne_eq, Classical.not_not] at h_31
    have hok3 := spl_both hok1 hok2 (by omega)
    refine sk <| nT <| sq <| ?_
    refine rdD [(1, 2), (3, 2), (4, 0), (5, 2)] [0, 2, 4, 1, 3, 5, 6, 7, 8, 9, 10, 11, 12, 13, 14] (by kernel_rfl) (by kernel_rfl) ?_
    refine fwD rfl rfl (fun _ => mv rfl) rfl <| fwD rfl rfl (fun _ => mv rfl) rfl <| ?_
    have B_5 := B_5.later (Ext.tr x_26 x_29)
    refine fqD rfl rfl (fun _ x => ld rfl ((B_5.later (BE.at x)).all OrP_ag_api_World OrP_sz_api_World)) rfl <| fxD rfl rfl rfl fun w_35 x_36 Q hK => ca OrP_en_slices_Clone_S_api_Order_api_Order_ rfl rfl ((clone_O _ _ l _ (hl.keep (Ext.tr z_28 x_36))).mono ?_)
    rintro e w_40 ⟨A_37, c_37, rfl, OC_37, hn_37, x_41⟩
    refine ⟨_, rfl, hK _ _ ⟨BE.of (Ext.tr x_36 x_41), ?_⟩⟩
    have q_42 := x_36.size
    have q_43 := x_41.size
    have q_44 := x_36.size
    have z_35 := Ext.tr z_28 x_36
    have q_45 := x_41.size
    have z_40 := Ext.tr z_35 x_41
    have u_38 := fun q hq => (OC_37.lt q hq).2
    have lo_39 := fun q hq => (OC_37.lt q hq).1
    refine fxD rfl rfl rfl fun w_46 x_47 Q hK => ap OrP_el_S_api_Order Rep.flat_bare (OC_37.later x_47) (hm.keep (Ext.tr z_40 x_47)) rfl rfl (by omega) (by omega) (by have := x_47.size; omega) rfl fun w_48 A_49 c_50 m_51 O_52 g_53 n_54 => hK _ _ ⟨BE.md x_47 m_51 (fun q hq => by have h_ := ((OC_37.later x_47).lt q hq).1; have h2_ := x_47.size; omega), ?_⟩
    have q_55 := x_47.size
    have z_46 := Ext.tr z_40 x_47
    have q_56 := m_51.size
    have z_48 := Ext.mod z_46 m_51 (fun q hq => Nat.le_trans (by omega) ((OC_37.later x_47).lt q hq).1)
    have u_57 := fun q hq => (O_52.lt q hq).2
    have q_58 := m_51.size
    refine fxD rfl rfl rfl fun w_59 x_60 Q hK => ca OrP_en_order_Split rfl rfl ((split_ok _ _ (l ++ m) aw W _ (O_52.later x_60).has (hW.keep (Ext.tr z_48 x_60)) hok3).mono ?_)
    rintro e w_68 ⟨A_610, c_610, A_611, c_611, A_612, c_612, rfl, OS_610, OS_611, OS_612, x_69⟩
    refine ⟨_, rfl, hK _ _ ⟨BE.of (Ext.tr x_60 x_69), ?_⟩⟩
    have q_70 := x_60.size
    have q_71 := x_69.size
    have q_72 := x_60.size
    have z_59 := Ext.tr z_48 x_60
    have q_73 := x_69.size
    have z_68 := Ext.tr z_59 x_69
    have u_62 := fun q hq => (OS_610.lt q hq).2
    have lo_63 := fun q hq => (OS_610.lt q hq).1
    have u_64 := fun q hq => (OS_611.lt q hq).2
    have lo_65 := fun q hq => (OS_611.lt q hq).1
    have u_66 := fun q hq => (OS_612.lt q hq).2
    have lo_67 := fun q hq => (OS_612.lt q hq).1
    refine fwD rfl rfl (fun _ => mv rfl) rfl <| fwD rfl rfl (fun _ => ex rfl rfl) rfl <| fwD rfl rfl (fun _ => ex rfl rfl) rfl <| fwD rfl rfl (fun _ => ex rfl rfl) rfl <| fwD rfl rfl (fun _ => ex rfl rfl) rfl <| fwD rfl rfl (fun _ => as_ rfl) rfl <| fwD rfl rfl (fun _ => as_ rfl) rfl <| fwD rfl rfl (fun _ => as_ rfl) rfl <| fwD rfl rfl (fun _ => as_ rfl) rfl <| fnD fun w_74 x_75 => ?_
    have q_76 := x_75.size
    have z_74 := Ext.tr z_68 x_75
    refine nT <| sq <| rg <| vl (mv rfl) rfl <| vl (beq rfl rfl) rfl <| vl (mv rfl) rfl <| ug rfl rfl rfl <| vl (mv rfl) rfl <| ug rfl rfl rfl <| vl (mv rfl) rfl <| ug rfl rfl rfl <| ?_
    have OS_80 := OS_80.later (Ext.tr x_26 (Ext.tr x_29 (Ext.tr x_36 (Ext.tr x_41 x_47))))
    have OS_80 := OS_80.mod m_51 (fun q hq h => by exfalso; (have := lo_39 q h; (have := u_9 q hq; omega)))
    have OS_80 := OS_80.later (Ext.tr x_60 (Ext.tr x_69 x_75))
    refine ca OrP_en_slices_Clone_S_api_Blow_api_Blow_ rfl rfl ((clone_W _ _ (splB W l (l).length) _ OS_80.has).mono ?_)
    rintro e w_80 ⟨A_77, c_77, rfl, OC_77, hn_77, x_81⟩
    refine ⟨_, rfl, ?_⟩
    have q_82 := x_81.size
    have z_80 := Ext.tr z_74 x_81
    have u_78 := fun q hq => (OC_77.lt q hq).2
    have lo_79 := fun q hq => (OC_77.lt q hq).1
    refine ug rfl rfl rfl <| vl (mv rfl) rfl <| ug rfl rfl rfl <| ?_
    have OS_180 := OS_180.later (Ext.tr x_29 (Ext.tr x_36 (Ext.tr x_41 x_47)))
    have OS_180 := OS_180.mod m_51 (fun q hq h => by exfalso; (have := lo_39 q h; (have := u_19 q hq; omega)))
    have OS_180 := OS_180.later (Ext.tr x_60 (Ext.tr x_69 (Ext.tr x_75 x_81)))
    refine ap OrP_el_S_api_Blow Rep.flat_bare OC_77 OS_180.has rfl rfl (by have := spl_len W l l.length; have := spl_len W m m.length; omega) (by have := spl_len W l l.length; have := spl_len W m m.length; omega) (by omega) rfl fun w_83 A_84 c_85 m_86 O_87 g_88 n_89 => ?_
    have q_90 := m_86.size
    have z_83 := Ext.mod z_80 m_86 (fun q hq => Nat.le_trans (by omega) (OC_77.lt q hq).1)
    have u_91 := fun q hq => (O_87.lt q hq).2
    have q_92 := m_86.size
    refine ug rfl rfl rfl <| ?_
    have OS_610 := OS_610.later (Ext.tr x_75 x_81)
    have OS_610 := OS_610.mod m_86 (fun q hq h => by exfalso; (have := lo_79 q h; (have := u_62 q hq; omega)))
    have hq_93 : (decide (splB W (l ++ m) (l ++ m).length = splB W l (l).length ++ splB W m (m).length)) = true := decide_eq_true (splB_app W l m)
    refine ca OrP_en_slices_Equal_S_api_Blow_api_Blow_ rfl rfl ((equal_W _ _ _ _ _ _ (splB W (l ++ m) (l ++ m).length) (splB W l (l).length ++ splB W m (m).length) _ OS_610.has O_87.has).mono ?_)
    rintro e w_94 ⟨rfl, x_95⟩
    refine ⟨_, rfl, ?_⟩
    have q_96 := x_95.size
    have z_94 := Ext.tr z_83 x_95
    refine vl (pkT rfl (evb rfl hq_93)) rfl <| vl (mv rfl) rfl <| ug rfl rfl rfl <| vl (mv rfl) rfl <| ug rfl rfl rfl <| vl (mv rfl) rfl <| ug rfl rfl rfl <| ?_
    have OS_81 := OS_81.later (Ext.tr x_26 (Ext.tr x_29 (Ext.tr x_36 (Ext.tr x_41 x_47))))
    have OS_81 := OS_81.mod m_51 (fun q hq h => by exfalso; (have := lo_39 q h; (have := u_11 q hq; omega)))
    have OS_81 := OS_81.later (Ext.tr x_60 (Ext.tr x_69 (Ext.tr x_75 x_81)))
    have OS_81 := OS_81.mod m_86 (fun q hq h => by exfalso; (have := lo_79 q h; (have := u_11 q hq; omega)))
    have OS_81 := OS_81.later x_95
    refine ca OrP_en_slices_Clone_S_api_Go_api_Go_ rfl rfl ((clone_G _ _ (splG W l (l).length) _ OS_81.has).mono ?_)
    rintro e w_100 ⟨A_97, c_97, rfl, OC_97, hn_97, x_101⟩
    refine ⟨_, rfl, ?_⟩
    have q_102 := x_101.size
    have z_100 := Ext.tr z_94 x_101
    have u_98 := fun q hq => (OC_97.lt q hq).2
    have lo_99 := fun q hq => (OC_97.lt q hq).1
    refine ug rfl rfl rfl <| vl (mv rfl) rfl <| ug rfl rfl rfl <| ?_
    have OS_181 := OS_181.later (Ext.tr x_29 (Ext.tr x_36 (Ext.tr x_41 x_47)))
    have OS_181 := OS_181.mod m_51 (fun q hq h => by exfalso; (have := lo_39 q h; (have := u_21 q hq; omega)))
    have OS_181 := OS_181.later (Ext.tr x_60 (Ext.tr x_69 (Ext.tr x_75 x_81)))
    have OS_181 := OS_181.mod m_86 (fun q hq h => by exfalso; (have := lo_79 q h; (have := u_21 q hq; omega)))
    have OS_181 := OS_181.later (Ext.tr x_95 x_101)
    refine ap OrP_el_S_api_Go Rep.flat_bare OC_97 OS_181.has rfl rfl (by have := spl_len W l l.length; have := spl_len W m m.length; omega) (by have := spl_len W l l.length; have := spl_len W m m.length; omega) (by omega) rfl fun w_103 A_104 c_105 m_106 O_107 g_108 n_109 => ?_
    have q_110 := m_106.size
    have z_103 := Ext.mod z_100 m_106 (fun q hq => Nat.le_trans (by omega) (OC_97.lt q hq).1)
    have u_111 := fun q hq => (O_107.lt q hq).2
    have q_112 := m_106.size
    refine ug rfl rfl rfl <| ?_
    have OS_611 := OS_611.later (Ext.tr x_75 x_81)
    have OS_611 := OS_611.mod m_86 (fun q hq h => by exfalso; (have := lo_79 q h; (have := u_64 q hq; omega)))
    have OS_611 := OS_611.later (Ext.tr x_95 x_101)
    have OS_611 := OS_611.mod m_106 (fun q hq h => by exfalso; (have := lo_99 q h; (have := u_64 q hq; omega)))
    have hq_113 : (decide (splG W (l ++ m) (l ++ m).length = splG W l (l).length ++ splG W m (m).length)) = true := decide_eq_true (splG_app W l m)
    refine ca OrP_en_slices_Equal_S_api_Go_api_Go_ rfl rfl ((equal_G _ _ _ _ _ _ (splG W (l ++ m) (l ++ m).length) (splG W l (l).length ++ splG W m (m).length) _ OS_611.has O_107.has).mono ?_)
    rintro e w_114 ⟨rfl, x_115⟩
    refine ⟨_, rfl, ?_⟩
    have q_116 := x_115.size
    have z_114 := Ext.tr z_103 x_115
    refine vl (pkT rfl (evb rfl hq_113)) rfl <| vl (mv rfl) rfl <| ug rfl rfl rfl <| vl (mv rfl) rfl <| ug rfl rfl rfl <| vl (mv rfl) rfl <| ug rfl rfl rfl <| ?_
    have OS_82 := OS_82.later (Ext.tr x_26 (Ext.tr x_29 (Ext.tr x_36 (Ext.tr x_41 x_47))))
    have OS_82 := OS_82.mod m_51 (fun q hq h => by exfalso; (have := lo_39 q h; (have := u_13 q hq; omega)))
    have OS_82 := OS_82.later (Ext.tr x_60 (Ext.tr x_69 (Ext.tr x_75 x_81)))
    have OS_82 := OS_82.mod m_86 (fun q hq h => by exfalso; (have := lo_79 q h; (have := u_13 q hq; omega)))
    have OS_82 := OS_82.later (Ext.tr x_95 x_101)
    have OS_82 := OS_82.mod m_106 (fun q hq h => by exfalso; (have := lo_99 q h; (have := u_13 q hq; omega)))
    have OS_82 := OS_82.later x_115
    refine ca OrP_en_slices_Clone_S_api_Deed_api_Deed_ rfl rfl ((clone_D _ _ (splD W l (l).length) _ OS_82.has).mono ?_)
    rintro e w_120 ⟨A_117, c_117, rfl, OC_117, hn_117, x_121⟩
    refine ⟨_, rfl, ?_⟩
    have q_122 := x_121.size
    have z_120 := Ext.tr z_114 x_121
    have u_118 := fun q hq => (OC_117.lt q hq).2
    have lo_119 := fun q hq => (OC_117.lt q hq).1
    refine ug rfl rfl rfl <| vl (mv rfl) rfl <| ug rfl rfl rfl <| ?_
    have OS_182 := OS_182.later (Ext.tr x_29 (Ext.tr x_36 (Ext.tr x_41 x_47)))
    have OS_182 := OS_182.mod m_51 (fun q hq h => by exfalso; (have := lo_39 q h; (have := u_23 q hq; omega)))
    have OS_182 := OS_182.later (Ext.tr x_60 (Ext.tr x_69 (Ext.tr x_75 x_81)))
    have OS_182 := OS_182.mod m_86 (fun q hq h => by exfalso; (have := lo_79 q h; (have := u_23 q hq; omega)))
    have OS_182 := OS_182.later (Ext.tr x_95 x_101)
    have OS_182 := OS_182.mod m_106 (fun q hq h => by exfalso; (have := lo_99 q h; (have := u_23 q hq; omega)))
    have OS_182 := OS_182.later (Ext.tr x_115 x_121)
    refine ap OrP_el_S_api_Deed Rep.flat_bare OC_117 OS_182.has rfl rfl (by have := spl_len W l l.length; have := spl_len W m m.length; omega) (by have := spl_len W l l.length; have := spl_len W m m.length; omega) (by omega) rfl fun w_123 A_124 c_125 m_126 O_127 g_128 n_129 => ?_
    have q_130 := m_126.size
    have z_123 := Ext.mod z_120 m_126 (fun q hq => Nat.le_trans (by omega) (OC_117.lt q hq).1)
    have u_131 := fun q hq => (O_127.lt q hq).2
    have q_132 := m_126.size
    refine ug rfl rfl rfl <| ?_
    have OS_612 := OS_612.later (Ext.tr x_75 x_81)
    have OS_612 := OS_612.mod m_86 (fun q hq h => by exfalso; (have := lo_79 q h; (have := u_66 q hq; omega)))
    have OS_612 := OS_612.later (Ext.tr x_95 x_101)
    have OS_612 := OS_612.mod m_106 (fun q hq h => by exfalso; (have := lo_99 q h; (have := u_66 q hq; omega)))
    have OS_612 := OS_612.later (Ext.tr x_115 x_121)
    have OS_612 := OS_612.mod m_126 (fun q hq h => by exfalso; (have := lo_119 q h; (have := u_66 q hq; omega)))
    have hq_133 : (decide (splD W (l ++ m) (l ++ m).length = splD W l (l).length ++ splD W m (m).length)) = true := decide_eq_true (splD_app W l m)
    refine ca OrP_en_slices_Equal_S_api_Deed_api_Deed_ rfl rfl ((equal_D _ _ _ _ _ _ (splD W (l ++ m) (l ++ m).length) (splD W l (l).length ++ splD W m (m).length) _ OS_612.has O_127.has).mono ?_)
    rintro e w_134 ⟨rfl, x_135⟩
    refine ⟨_, rfl, ?_⟩
    have q_136 := x_135.size
    have z_134 := Ext.tr z_123 x_135
    refine vl (pkT rfl (evb rfl hq_133)) rfl <| vl (as_ rfl) rfl <| nl <| nT <| rt <| tR (.tmp rfl .nil) <| ?_
    exact ⟨rfl, z_134⟩
theorem orderParts_any (a0 : Option Addr) (len0 cap0 : Nat) (a1 : Option Addr) (len1 cap1 : Nat) (c2 : Array Value) (w : World) (h0 : (.slice (.cons (.int .i64) (.cons (.int .i64) (.cons (.int .i64) (.cons (.cons (.int .i64) (.cons (.int .i64) .nil)) (.cons (.int .i64) .nil))))) 48 : Sh).Ok w [.slice a0 len0 cap0]) (h1 : (.slice (.cons (.int .i64) (.cons (.int .i64) (.cons (.int .i64) (.cons (.cons (.int .i64) (.cons (.int .i64) .nil)) (.cons (.int .i64) .nil))))) 48 : Sh).Ok w [.slice a1 len1 cap1]) (h2 : (.cons (.cons (.int .i64) (.cons (.int .i64) (.cons (.slice (.int .i64) 8) .nil))) (.cons (.slice (.cons (.int .i64) (.cons (.int .i64) .nil)) 16) (.cons (.slice (.int .i64) 8) (.cons (.slice (.int .i64) 8) (.cons (.slice (.cons (.int .i64) (.cons (.int .i64) (.cons (.int .i64) (.cons (.cons (.int .i64) (.cons (.int .i64) .nil)) (.cons (.int .i64) (.cons (.int .i64) .nil)))))) 56) (.cons (.int .i64) (.cons (.int .i64) .nil)))))) : Sh).Ok w c2.toList) :
    Calls Try.prog 13 #[.slice a0 len0 cap0, .slice a1 len1 cap1, .agg c2] w fun e w' => e = .returned (.bool true) ∧ Below w.heap.size w w' := by
  obtain ⟨A0, c5, l0, e0, hl0⟩ := Rep.opens_slice (R := Odr.rep) (by_ := 48) Odr.opens rfl (by decide) h0
  simp only [List.cons.injEq, Value.slice.injEq, and_true] at e0
  obtain ⟨rfl, rfl, rfl⟩ := e0

  obtain ⟨A1, c6, l1, e1, hl1⟩ := Rep.opens_slice (R := Odr.rep) (by_ := 48) Odr.opens rfl (by decide) h1
  simp only [List.cons.injEq, Value.slice.injEq, and_true] at e1
  obtain ⟨rfl, rfl, rfl⟩ := e1

  obtain ⟨aw, W, e, hW⟩ := Wd.opens w _ (show Wd.sh.Ok w c2.toList from h2)
  have hc : c2 = (Wd.cells aw W).toArray := by rw [← e]
  subst hc
  by_cases h1 : splE W l0 = 0
  · by_cases h2 : splE W l1 = 0
    · exact orderParts_true_true _ _ _ _ l0 l1 aw W w hl0 hl1 hW h1 h2
    · exact orderParts_true_false _ _ _ _ l0 l1 aw W w hl0 hl1 hW h1 h2
  · by_cases h2 : splE W l1 = 0
    · exact orderParts_false_true _ _ _ _ l0 l1 aw W w hl0 hl1 hW h1 h2
    · exact orderParts_false_false _ _ _ _ l0 l1 aw W w hl0 hl1 hW h1 h2
end Go.Proofs.Ytfabhinehfhndaa
