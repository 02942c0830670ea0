import Derived.Test.YtmpkaphcpaigdaaGolB
import Derived.Test.YtmpkaphcpaigdaaNod
import Derived.Test.YtmpkaphcpaigdaaGol
import Derived.Test.YtmpkaphcpaigdaaBas
import Derived.Handy
set_option linter.unusedVariables false
set_option linter.unusedSimpArgs false
set_option maxRecDepth 100000
set_option maxHeartbeats 4000000
namespace Go.Proofs.Ytmpkaphcpaigdaa
section
open Go.RowKit
theorem Pq_el_path_open : ElT Try.prog Nod.rep 88 147 32 := ElT.mk_ (z := Nod.zero) (k := 4) Try.underlying88 Nod.info rfl rfl (by decide) Nod.zero_raw
theorem hcNo {w : World} {cs : List Value} {a : Nod} (h : Nod.rep.has w cs a) : cs = a.cells := And.left (show cs = a.cells ∧ a.ok from h)
theorem xP_len (A : Option Addr) (n c : Nat) (w : World) :
  Calls Try.prog 88 #[.slice A n c] w (fun e w' => e = .returned (.int .i64 (n : Int)) ∧ Ext w w') := by
 refine calls_W (n := 5) Try.func88 rfl rfl rfl ?_
 refine sq <| rg <| vl (as_ rfl) rfl <| nl <| nT <| sq <| rg <| vl (mv rfl) rfl <| vl (ln Try.underlying88 rfl) rfl <| vl (as_ rfl) rfl <| nl <| nT <| rt <| tR (.tmp rfl .nil) <| ?_
 exact ⟨rfl, (Ext.rf w)⟩
theorem xP_less (A : Option Addr) (n c : Nat) (l : List Nod) (i j : Int) (p q : Nat) (w : World) (hl : Nod.rep.SHas 32 w A c l) (hn : l.length = n) (hi : i = (p : Int)) (hj : j = (q : Int)) (hp : p < n) (hq : q < n) :
  Calls Try.prog 123 #[.slice A n c, .int .i64 i, .int .i64 j] w (fun e w' => e = .returned (.bool (decide ((l.getD p default).all < (l.getD q default).all))) ∧ Ext w w') := by
 refine calls_W (n := 18) Try.func123 rfl rfl rfl ?_
 refine sq <| rg <| vl (as_ rfl) rfl <| nl <| nT <| sq <| ?_
 refine rd [(4, 0), (9, 0)] [0, 1, 2, 3, 4, 5, 6, 7, 8, 9, 10, 11] (by kernel_rfl) (by kernel_rfl) ?_
 refine fw rfl rfl (fun _ => mv rfl) rfl <| fw rfl rfl (fun _ => mv rfl) rfl <| fw rfl rfl (fun _ => iA i.toNat Try.underlying88 eF7 rfl rfl ((hl.keep (Ext.rf w)).adr (Nat.zero_lt_of_lt (show i.toNat < _ from (by omega)))) (by omega) (by omega)) rfl <| fw rfl rfl (fun _ => fa eF8 rfl) rfl <| fq rfl rfl (fun _ x => ld rfl (Rep.SHas.fld hcNo ((hl.keep (Ext.tr (Ext.rf w) x)).adh (Nat.zero_lt_of_lt (show i.toNat < _ from (by omega)))) 3 (get_d (l := l) (u := default) (by omega)) rfl eF1)) rfl <| fw rfl rfl (fun _ => mv rfl) rfl <| fw rfl rfl (fun _ => mv rfl) rfl <| fw rfl rfl (fun _ => iA j.toNat Try.underlying88 eF7 rfl rfl ((hl.keep (Ext.rf w)).adr (Nat.zero_lt_of_lt (show j.toNat < _ from (by omega)))) (by omega) (by omega)) rfl <| fw rfl rfl (fun _ => fa eF8 rfl) rfl <| fq rfl rfl (fun _ x => ld rfl (Rep.SHas.fld hcNo ((hl.keep (Ext.tr (Ext.rf w) x)).adh (Nat.zero_lt_of_lt (show j.toNat < _ from (by omega)))) 3 (get_d (l := l) (u := default) (by omega)) rfl eF1)) rfl <| fw rfl rfl (fun _ => blt rfl rfl) rfl <| fw rfl rfl (fun _ => as_ rfl) rfl <| fn fun w_1 x_2 => ?_
 have q_3 := x_2.size
 have z_1 := Ext.tr (Ext.rf w) x_2
 refine nT <| rt <| tR (.tmp rfl .nil) <| ?_
 subst hi hj; exact ⟨by simp only [Int.toNat_natCast]; rfl, z_1⟩
theorem xP_swap (A : Option Addr) (n c Z : Nat) (l : List Nod) (i j : Int) (p q : Nat) (w : World) (HO : Nod.rep.SOwn 147 32 w Z (Rep.blkOf A) A c (l)) (hok : ∀ y ∈ l, y.ok) (hn : l.length = n) (hi : i = (p : Int)) (hj : j = (q : Int)) (hp : p < n) (hq : q < n) :
  Calls Try.prog 124 #[.slice A n c, .int .i64 i, .int .i64 j] w (fun e w' => e = .returned (.tuple #[]) ∧ Nod.rep.SOwn 147 32 w' Z (Rep.blkOf A) A c (Hp.swp l p q) ∧ Mod (Rep.blkOf A) w w') := by
 have uO := fun q hq => (HO.lt q hq).2
 refine calls_W (n := 20) Try.func124 rfl rfl rfl ?_
 refine rd [(7, 0), (11, 0), (13, 3), (15, 3)] [0, 1, 2, 3, 4, 5, 6, 7, 8, 9, 10, 11, 12, 13, 14, 15] (by kernel_rfl) (by kernel_rfl) ?_
 refine fw rfl rfl (fun _ => mv rfl) rfl <| fw rfl rfl (fun _ => mv rfl) rfl <| fw rfl rfl (fun _ => mv rfl) rfl <| fw rfl rfl (fun _ => mv rfl) rfl <| fw rfl rfl (fun _ => mv rfl) rfl <| fw rfl rfl (fun _ => mv rfl) rfl <| fw rfl rfl (fun _ => iA j.toNat Try.underlying88 eF7 rfl rfl (HO.has.adr (Nat.zero_lt_of_lt (show j.toNat < _ from (by first | omega | (rw [List.length_set]; omega))))) (by omega) (by first | omega | (rw [List.length_set]; omega))) rfl <| fq rfl rfl (fun _ x => ld rfl (Rep.SHas.elt hcNo ((HO.later x).has.adh (Nat.zero_lt_of_lt (show j.toNat < _ from (by first | omega | (rw [List.length_set]; omega))))) (get_d (l := l) (u := default) (by first | omega | (rw [List.length_set]; omega))) eF9 eF7)) rfl <| fw rfl rfl (fun _ => mv rfl) rfl <| fw rfl rfl (fun _ => mv rfl) rfl <| fw rfl rfl (fun _ => iA i.toNat Try.underlying88 eF7 rfl rfl (HO.has.adr (Nat.zero_lt_of_lt (show i.toNat < _ from (by first | omega | (rw [List.length_set]; omega))))) (by omega) (by first | omega | (rw [List.length_set]; omega))) rfl <| fq rfl rfl (fun _ x => ld rfl (Rep.SHas.elt hcNo ((HO.later x).has.adh (Nat.zero_lt_of_lt (show i.toNat < _ from (by first | omega | (rw [List.length_set]; omega))))) (get_d (l := l) (u := default) (by first | omega | (rw [List.length_set]; omega))) eF9 eF7)) rfl <| fw rfl rfl (fun _ => iA i.toNat Try.underlying88 eF7 rfl rfl (HO.has.adr (Nat.zero_lt_of_lt (show i.toNat < _ from (by first | omega | (rw [List.length_set]; omega))))) (by omega) (by first | omega | (rw [List.length_set]; omega))) rfl <| fb rfl rfl rfl fun w_1 x_2 Q hK => soE (q' := l.getD j.toNat default) (i := i.toNat) (es := [.int .i64 ((l.getD j.toNat default).cell.x), .int .i64 ((l.getD j.toNat default).cell.y), .int .i64 ((l.getD j.toNat default).far), .int .i64 ((l.getD j.toNat default).all)]) (HO.later x_2) Rep.flat_bare (by first | omega | (rw [List.length_set]; omega)) rfl rfl rfl rfl (fun _ => ⟨rfl, (hok _ (mem_dd (by omega)))⟩) eF7 fun w_3 m_4 O_5 => hK _ _ ?_
 have q_6 := x_2.size
 have z_1 := (Mod.rf (Rep.blkOf A) w).trans (Mod.of_ext x_2)
 have q_7 := m_4.size
 have z_3 := z_1.md m_4 (fun q hq => .inl hq)
 have q_8 := m_4.size
 refine fw rfl rfl (fun _ => iA j.toNat Try.underlying88 eF7 rfl rfl (O_5.has.adr (Nat.zero_lt_of_lt (show j.toNat < _ from (by first | omega | (rw [List.length_set]; omega))))) (by omega) (by first | omega | (rw [List.length_set]; omega))) rfl <| fb rfl rfl rfl fun w_9 x_10 Q hK => soE (q' := l.getD i.toNat default) (i := j.toNat) (es := [.int .i64 ((l.getD i.toNat default).cell.x), .int .i64 ((l.getD i.toNat default).cell.y), .int .i64 ((l.getD i.toNat default).far), .int .i64 ((l.getD i.toNat default).all)]) (O_5.later x_10) Rep.flat_bare (by first | omega | (rw [List.length_set]; omega)) rfl rfl rfl rfl (fun _ => ⟨rfl, (hok _ (mem_dd (by omega)))⟩) eF7 fun w_11 m_12 O_13 => hK _ _ ?_
 have q_14 := x_10.size
 have z_9 := z_3.trans (Mod.of_ext x_10)
 have q_15 := m_12.size
 have z_11 := z_9.md m_12 (fun q hq => .inl hq)
 have q_16 := m_12.size
 refine fn fun w_17 x_18 => ?_
 have q_19 := x_18.size
 have z_17 := z_11.trans (Mod.of_ext x_18)
 refine ne <| tR .nil <| ?_
 have O_13 := O_13.later x_18
 subst hi hj; simp only [Int.toNat_natCast] at O_13; exact ⟨rfl, O_13, z_17⟩
theorem xP_up (b : Nat) (A : Option Addr) (n c Z : Nat) (l : List Nod) (v0 v1 v2 v3 v4 v5 : Value) (j : Nat) (w : World) (HB : Blk w b [v0, v1, v2, v3, v4, v5, .slice A n c] 90 (0, 0)) (HO : Nod.rep.SOwn 147 32 w Z (Rep.blkOf A) A c (l)) (hok : ∀ y ∈ l, y.ok) (hn : l.length = n) (hd : ∀ q ∈ Rep.blkOf A, q = b → False) (hj : j < n) :
  Calls Try.prog 61 #[.iface 145 (.pointer (some ⟨b, 6, none⟩)), .int .i64 (j : Int)] w (fun e w' => e = .returned (.tuple #[]) ∧ Blk w' b [v0, v1, v2, v3, v4, v5, .slice A n c] 90 (0, 0) ∧ Nod.rep.SOwn 147 32 w' Z (Rep.blkOf A) A c (Hp.upF Nod.all l j) ∧ Mod (Rep.blkOf A) w w') := by
 have uO := fun q hq => (HO.lt q hq).2
 have qB := HB.lt
 have hn63 := HO.has.2.1
 have hn64 := HO.has.len_le
 have hn65 := HO.has.1
 refine calls_W (n := 23) Try.func61 rfl rfl rfl ?_
 refine bk <| ?_
 refine lp (fun mI EI wI => ∃ lm : List Nod, ∃ m : Nat, EI = [(0, .iface 145 (.pointer (some ⟨b, 6, none⟩))), (1, .int .i64 (m : Int))] ∧ mI = (2 * m) ∧ Mod (Rep.blkOf A) w wI ∧ Blk wI b [v0, v1, v2, v3, v4, v5, .slice A n c] 90 (0, 0) ∧ Nod.rep.SOwn 147 32 wI Z (Rep.blkOf A) A c (lm) ∧ (m < n) ∧ (lm.length = n) ∧ (∀ y ∈ lm, y.ok) ∧ (Hp.upF Nod.all lm m = Hp.upF Nod.all l j) ∧ (∀ q ∈ Rep.blkOf A, q = b → False)) _ _ ⟨l, j, rfl, rfl, (Mod.rf (Rep.blkOf A) w), HB, HO, by omega, by omega, hok, rfl, (fun q hq hb => by (exact hd q hq hb))⟩ (.cons rfl (.cons rfl .nil)) ?_
 rintro m_3 E_4 w_2 ⟨lm, m, rfl, rfl, z_2, HB, HOm, hm, hlm, hokm, hup, d_1⟩
 have q_5 := z_2.size
 have q_6 := HB.lt
 have u_7 := fun q hq => (HOm.lt q hq).2
 refine bk <| sq <| rg <| vl (mv rfl) rfl <| vl (bsu rfl rfl (inI (by omega))) rfl <| vl (bquH (r := (((m - 1) / 2 : Nat) : Int)) rfl rfl (by decide) (tdiv_half m) (inI (by omega))) rfl <| vl (as_ rfl) rfl <| nl <| nT <| sq <| sq <| rg <| vl (mv rfl) rfl <| vl (mv rfl) rfl <| vl (beq rfl rfl) rfl <| vl (mv rfl) rfl <| vQ rfl rfl rfl rfl (fun hc => mv rfl) rfl <| vQ rfl rfl rfl rfl (fun hc => mv rfl) rfl <| vQ rfl rfl rfl rfl (fun hc => mv rfl) rfl <| ivC rfl rfl rfl rfl eF11 (fun hc => (gt hc rfl)) (fun hc => ec (gt hc rfl) (ec (gt hc rfl) rfl)) (meth_val (e := 88) (by kernel_rfl) (HB.one eF10 rfl)) (fun hc => xP_less _ _ _ lm (m : Int) ((((m - 1) / 2 : Nat) : Int)) m ((m - 1) / 2) _ HOm.has (by omega) (by omega) (by omega) (by first | omega | (simp only [Bool.or_eq_true, Bool.or_eq_false_iff, Bool.and_eq_true, Bool.and_eq_false_iff, decide_eq_true_eq, decide_eq_false_iff_not, beq_iff_eq, bne_iff_ne, beq_eq_false_iff_ne, bne_eq_false_iff_eq, Bool.not_eq_true', Bool.not_eq_false', Bool.not_eq_true, Bool.not_eq_false, Int.not_lt, Int.not_le, Nat.not_lt, Nat.not_le, ne_eq, Classical.not_not] at hc; omega)) (by first | omega | (simp only [Bool.or_eq_true, Bool.or_eq_false_iff, Bool.and_eq_true, Bool.and_eq_false_iff, decide_eq_true_eq, decide_eq_false_iff_not, beq_iff_eq, bne_iff_ne, beq_eq_false_iff_ne, bne_eq_false_iff_eq, Bool.not_eq_true', Bool.not_eq_false', Bool.not_eq_true, Bool.not_eq_false, Int.not_lt, Int.not_le, Nat.not_lt, Nat.not_le, ne_eq, Classical.not_not] at hc; omega))) rfl fun w_8 x_9 => ?_
 have q_10 := x_9.size
 have z_8 := z_2.trans (Mod.of_ext x_9)
 refine vQ rfl rfl rfl rfl (fun hc => nt (gt hc rfl)) rfl <| vl (pO rfl rfl rfl rfl) rfl <| nl <| nT <| ?_
 refine cb rfl (fun h_11 => ?_) (fun h_11 => ?_)
 ·have hex := Hp.up_exit (key := Nod.all) h_11
  rw [hex] at hup
  refine xt <| xT <| xN rfl <| xK <| xB <| ne <| tR .nil <| ?_
  have HOm := HOm.later x_9
  have HB := HB.later x_9
  exact ⟨rfl, HB, by rw [← hup]; exact HOm, z_8⟩
 ·obtain ⟨hm0, hnx⟩ := Hp.up_more (key := Nod.all) h_11
  refine sk <| nT <| sq <| rg <| vl (mv rfl) rfl <| vl (mv rfl) rfl <| vl (mv rfl) rfl <| ?_
  have HB := HB.later x_9
  have HOm := HOm.later x_9
  refine iv eF12 rfl rfl (meth_val (e := 88) (by kernel_rfl) (HB.one eF10 rfl)) rfl ((xP_swap _ _ _ _ lm ((((m - 1) / 2 : Nat) : Int)) (m : Int) ((m - 1) / 2) m _ HOm hokm (by omega) (by omega) (by omega) (by omega) (by omega)).mono ?_)
  rintro e w_14 ⟨rfl, O_12, m_13⟩
  refine ⟨_, rfl, ?_⟩
  have q_15 := m_13.size
  have z_14 := z_8.md m_13 (fun q hq => .inl hq)
  have hokO_12 : ∀ y ∈ Hp.swp lm ((m - 1) / 2) m, y.ok := fun y hy => hokm y ((Hp.swp_perm (by omega) (by omega)).subset hy)
  have hlenO_12 : (Hp.swp lm ((m - 1) / 2) m).length = n := by rw [Hp.swp_len]; omega
  refine nl <| nT <| rg <| vl (mv rfl) rfl <| vl (as_ rfl) rfl <| nl <| nB <| ?_
  have HB := HB.mod m_13 (fun hq => d_1 _ hq rfl)
  exact nI _ _ ⟨Hp.swp lm ((m - 1) / 2) m, (m - 1) / 2, rfl, rfl, z_14, HB, O_12, by omega, hlenO_12, hokO_12, hnx.symm.trans hup, (fun q hq hb => by (exact d_1 q hq hb))⟩ (by omega) (.cons rfl (.cons (loI rfl (by first | omega | rfl | (simp <;> omega))) .nil))
theorem xP_down (b : Nat) (A : Option Addr) (n c Z : Nat) (l : List Nod) (v0 v1 v2 v3 v4 v5 : Value) (i N : Nat) (w : World) (HB : Blk w b [v0, v1, v2, v3, v4, v5, .slice A n c] 90 (0, 0)) (HO : Nod.rep.SOwn 147 32 w Z (Rep.blkOf A) A c (l)) (hok : ∀ y ∈ l, y.ok) (hn : l.length = n) (hd : ∀ q ∈ Rep.blkOf A, q = b → False) (hi : i < n) (hN : N ≤ n) (hbig : n ≤ 1000000) :
  Calls Try.prog 62 #[.iface 145 (.pointer (some ⟨b, 6, none⟩)), .int .i64 (i : Int), .int .i64 (N : Int)] w (fun e w' => (∃ v, e = .returned (.bool v)) ∧ Blk w' b [v0, v1, v2, v3, v4, v5, .slice A n c] 90 (0, 0) ∧ Nod.rep.SOwn 147 32 w' Z (Rep.blkOf A) A c (Hp.downF Nod.all N l i) ∧ Mod (Rep.blkOf A) w w') := by
 have uO := fun q hq => (HO.lt q hq).2
 have qB := HB.lt
 have hn63 := HO.has.2.1
 have hn64 := HO.has.len_le
 have hn65 := HO.has.1
 refine calls_W (n := 48) Try.func62 rfl rfl rfl ?_
 refine sq <| rg <| vl (as_ rfl) rfl <| nl <| nT <| sq <| rg <| vl (mv rfl) rfl <| vl (as_ rfl) rfl <| nl <| nT <| sq <| bk <| ?_
 refine lp (fun mI EI wI => ∃ lm : List Nod, ∃ m : Nat, EI = [(0, .iface 145 (.pointer (some ⟨b, 6, none⟩))), (1, .int .i64 (i : Int)), (2, .int .i64 (N : Int)), (6, .bool false), (7, .int .i64 (m : Int))] ∧ mI = N - m ∧ Mod (Rep.blkOf A) w wI ∧ Blk wI b [v0, v1, v2, v3, v4, v5, .slice A n c] 90 (0, 0) ∧ Nod.rep.SOwn 147 32 wI Z (Rep.blkOf A) A c (lm) ∧ (m < n) ∧ (lm.length = n) ∧ (∀ y ∈ lm, y.ok) ∧ (Hp.downF Nod.all N lm m = Hp.downF Nod.all N l i) ∧ (∀ q ∈ Rep.blkOf A, q = b → False)) _ _ ⟨l, i, rfl, rfl, (Mod.rf (Rep.blkOf A) w), HB, HO, by omega, by omega, hok, rfl, (fun q hq hb => by (exact hd q hq hb))⟩ (.cons rfl (.cons rfl (.cons rfl (.cons rfl (.cons rfl .nil))))) ?_
 rintro m_3 E_4 w_2 ⟨lm, m, rfl, rfl, z_2, HB, HOm, hm, hlm, hokm, hup, d_1⟩
 have q_5 := z_2.size
 have q_6 := HB.lt
 have u_7 := fun q hq => (HOm.lt q hq).2
 refine bk <| sq <| rg <| vl (mv rfl) rfl <| vl (bmu rfl rfl (inI (by omega))) rfl <| vl (bad rfl rfl (inI (by omega))) rfl <| vl (as_ rfl) rfl <| nl <| nT <| sq <| sq <| rg <| vl (mv rfl) rfl <| vl (mv rfl) rfl <| vl (bge rfl rfl) rfl <| vl (mv rfl) rfl <| vQ rfl rfl rfl rfl (fun hc => mv rfl) rfl <| vQ rfl rfl rfl rfl (fun hc => blt (gt hc rfl) rfl) rfl <| vl (pO rfl rfl rfl rfl) rfl <| nl <| nT <| ?_
 refine cb rfl (fun h_8 => ?_) (fun h_8 => ?_)
 ·have hex := Hp.dn_exit (key := Nod.all) (l := lm) h_8
  rw [hex] at hup
  refine xt <| xT <| xN rfl <| xK <| xB <| nT <| sq <| rg <| vl (mv rfl) rfl <| vl (mv rfl) rfl <| vl (bgt rfl rfl) rfl <| vl (as_ rfl) rfl <| nl <| nT <| rt <| tR (.tmp rfl .nil) <| ?_
  skip
  exact ⟨⟨_, rfl⟩, HB, by rw [← hup]; exact HOm, z_2⟩
 ·have hc1 := Hp.dn_go h_8
  refine sk <| nT <| sq <| rg <| vl (mv rfl) rfl <| vl (as_ rfl) rfl <| nl <| nT <| sq <| sq <| rg <| vl (mv rfl) rfl <| vl (bad rfl rfl (inI (by omega))) rfl <| vl (as_ rfl) rfl <| nl <| nT <| sq <| rg <| vl (mv rfl) rfl <| vl (mv rfl) rfl <| vl (blt rfl rfl) rfl <| vl (mv rfl) rfl <| vQ rfl rfl rfl rfl (fun hc => mv rfl) rfl <| vQ rfl rfl rfl rfl (fun hc => mv rfl) rfl <| ?_
  refine vQ rfl rfl rfl rfl (fun hc => mv rfl) rfl <| ivC rfl rfl rfl rfl eF11 (fun hc => (gt hc rfl)) (fun hc => ec (gt hc rfl) (ec (gt hc rfl) rfl)) (meth_val (e := 88) (by kernel_rfl) (HB.one eF10 rfl)) (fun hc => xP_less _ _ _ lm (((2 * (m : Int)) + 1) + 1) ((2 * (m : Int)) + 1) (((2 * m) + 1) + 1) ((2 * m) + 1) _ HOm.has (by omega) (by omega) (by omega) (by first | omega | (simp only [Bool.or_eq_true, Bool.or_eq_false_iff, Bool.and_eq_true, Bool.and_eq_false_iff, decide_eq_true_eq, decide_eq_false_iff_not, beq_iff_eq, bne_iff_ne, beq_eq_false_iff_ne, bne_eq_false_iff_eq, Bool.not_eq_true', Bool.not_eq_false', Bool.not_eq_true, Bool.not_eq_false, Int.not_lt, Int.not_le, Nat.not_lt, Nat.not_le, ne_eq, Classical.not_not] at hc; omega)) (by first | omega | (simp only [Bool.or_eq_true, Bool.or_eq_false_iff, Bool.and_eq_true, Bool.and_eq_false_iff, decide_eq_true_eq, decide_eq_false_iff_not, beq_iff_eq, bne_iff_ne, beq_eq_false_iff_ne, bne_eq_false_iff_eq, Bool.not_eq_true', Bool.not_eq_false', Bool.not_eq_true, Bool.not_eq_false, Int.not_lt, Int.not_le, Nat.not_lt, Nat.not_le, ne_eq, Classical.not_not] at hc; omega))) rfl fun w_9 x_10 => ?_
  have q_11 := x_10.size
  have z_9 := z_2.trans (Mod.of_ext x_10)
  refine vl (pA rfl rfl rfl rfl) rfl <| nl <| nT <| ?_
  refine cb rfl (fun h_12 => ?_) (fun h_12 => ?_)
  ·have hlow := Hp.low_two (key := Nod.all) (l := lm) (m := m) h_12
   have hc2 := Hp.low_lt h_12
   refine rg <| vl (mv rfl) rfl <| vl (as_ rfl) rfl <| nl <| nT <| sq <| sq <| rg <| vl (mv rfl) rfl <| vl (mv rfl) rfl <| vl (mv rfl) rfl <| ?_
   have HB := HB.later x_10
   have HOm := HOm.later x_10
   refine iv eF11 rfl rfl (meth_val (e := 88) (by kernel_rfl) (HB.one eF10 rfl)) rfl ((xP_less _ _ _ lm (((2 * (m : Int)) + 1) + 1) (m : Int) (((2 * m) + 1) + 1) m _ HOm.has (by omega) (by omega) (by omega) (by first | omega | (simp only [Bool.or_eq_true, Bool.or_eq_false_iff, Bool.and_eq_true, Bool.and_eq_false_iff, decide_eq_true_eq, decide_eq_false_iff_not, beq_iff_eq, bne_iff_ne, beq_eq_false_iff_ne, bne_eq_false_iff_eq, Bool.not_eq_true', Bool.not_eq_false', Bool.not_eq_true, Bool.not_eq_false, Int.not_lt, Int.not_le, Nat.not_lt, Nat.not_le, ne_eq, Classical.not_not] at hc; omega)) (by first | omega | (simp only [Bool.or_eq_true, Bool.or_eq_false_iff, Bool.and_eq_true, Bool.and_eq_false_iff, decide_eq_true_eq, decide_eq_false_iff_not, beq_iff_eq, bne_iff_ne, beq_eq_false_iff_ne, bne_eq_false_iff_eq, Bool.not_eq_true', Bool.not_eq_false', Bool.not_eq_true, Bool.not_eq_false, Int.not_lt, Int.not_le, Nat.not_lt, Nat.not_le, ne_eq, Classical.not_not] at hc; omega))).mono ?_)
   rintro e w_13 ⟨rfl, x_14⟩
   refine ⟨_, rfl, ?_⟩
   have q_15 := x_14.size
   have z_13 := z_9.trans (Mod.of_ext x_14)
   refine vl (nt rfl) rfl <| nl <| nT <| ?_
   refine cb rfl (fun h_16 => ?_) (fun h_16 => ?_)
   ·have hex := Hp.dn_exit2 (key := Nod.all) hc1 hlow h_16
    rw [hex] at hup
    refine xt <| xT <| xN rfl <| xK <| xB <| nT <| sq <| rg <| vl (mv rfl) rfl <| vl (mv rfl) rfl <| vl (bgt rfl rfl) rfl <| vl (as_ rfl) rfl <| nl <| nT <| rt <| tR (.tmp rfl .nil) <| ?_
    skip
    have HOm := HOm.later x_14
    have HB := HB.later x_14
    exact ⟨⟨_, rfl⟩, HB, by rw [← hup]; exact HOm, z_13⟩
   ·have hnx := Hp.dn_more (key := Nod.all) hc1 hlow h_16
    refine sk <| nT <| sq <| rg <| vl (mv rfl) rfl <| vl (mv rfl) rfl <| vl (mv rfl) rfl <| ?_
    have HB := HB.later x_14
    have HOm := HOm.later x_14
    refine iv eF12 rfl rfl (meth_val (e := 88) (by kernel_rfl) (HB.one eF10 rfl)) rfl ((xP_swap _ _ _ _ lm (m : Int) (((2 * (m : Int)) + 1) + 1) m (((2 * m) + 1) + 1) _ HOm hokm (by omega) (by omega) (by omega) (by omega) (by omega)).mono ?_)
    rintro e w_19 ⟨rfl, O_17, m_18⟩
    refine ⟨_, rfl, ?_⟩
    have q_20 := m_18.size
    have z_19 := z_13.md m_18 (fun q hq => .inl hq)
    have hokO_17 : ∀ y ∈ Hp.swp lm m (((2 * m) + 1) + 1), y.ok := fun y hy => hokm y ((Hp.swp_perm (by omega) (by omega)).subset hy)
    have hlenO_17 : (Hp.swp lm m (((2 * m) + 1) + 1)).length = n := by rw [Hp.swp_len]; omega
    refine nl <| nT <| rg <| vl (mv rfl) rfl <| vl (as_ rfl) rfl <| nl <| nB <| ?_
    have HB := HB.mod m_18 (fun hq => d_1 _ hq rfl)
    exact nI _ _ ⟨Hp.swp lm m (((2 * m) + 1) + 1), 2 * m + 2, rfl, rfl, z_19, HB, O_17, by omega, hlenO_17, hokO_17, hnx.symm.trans hup, (fun q hq hb => by (exact d_1 q hq hb))⟩ (by omega) (.cons rfl (.cons rfl (.cons rfl (.cons rfl (.cons (loI rfl (by first | omega | rfl | (simp <;> omega))) .nil)))))
  ·have hlow := Hp.low_one (key := Nod.all) (l := lm) (m := m) h_12
   refine sk <| nT <| sq <| sq <| rg <| vl (mv rfl) rfl <| vl (mv rfl) rfl <| vl (mv rfl) rfl <| ?_
   have HB := HB.later x_10
   have HOm := HOm.later x_10
   refine iv eF11 rfl rfl (meth_val (e := 88) (by kernel_rfl) (HB.one eF10 rfl)) rfl ((xP_less _ _ _ lm ((2 * (m : Int)) + 1) (m : Int) ((2 * m) + 1) m _ HOm.has (by omega) (by omega) (by omega) (by first | omega | (simp only [Bool.or_eq_true, Bool.or_eq_false_iff, Bool.and_eq_true, Bool.and_eq_false_iff, decide_eq_true_eq, decide_eq_false_iff_not, beq_iff_eq, bne_iff_ne, beq_eq_false_iff_ne, bne_eq_false_iff_eq, Bool.not_eq_true', Bool.not_eq_false', Bool.not_eq_true, Bool.not_eq_false, Int.not_lt, Int.not_le, Nat.not_lt, Nat.not_le, ne_eq, Classical.not_not] at hc; omega)) (by first | omega | (simp only [Bool.or_eq_true, Bool.or_eq_false_iff, Bool.and_eq_true, Bool.and_eq_false_iff, decide_eq_true_eq, decide_eq_false_iff_not, beq_iff_eq, bne_iff_ne, beq_eq_false_iff_ne, bne_eq_false_iff_eq, Bool.not_eq_true', Bool.not_eq_false', Bool.not_eq_true, Bool.not_eq_false, Int.not_lt, Int.not_le, Nat.not_lt, Nat.not_le, ne_eq, Classical.not_not] at hc; omega))).mono ?_)
   rintro e w_21 ⟨rfl, x_22⟩
   refine ⟨_, rfl, ?_⟩
   have q_23 := x_22.size
   have z_21 := z_9.trans (Mod.of_ext x_22)
   refine vl (nt rfl) rfl <| nl <| nT <| ?_
   refine cb rfl (fun h_24 => ?_) (fun h_24 => ?_)
   ·have hex := Hp.dn_exit2 (key := Nod.all) hc1 hlow h_24
    rw [hex] at hup
    refine xt <| xT <| xN rfl <| xK <| xB <| nT <| sq <| rg <| vl (mv rfl) rfl <| vl (mv rfl) rfl <| vl (bgt rfl rfl) rfl <| vl (as_ rfl) rfl <| nl <| nT <| rt <| tR (.tmp rfl .nil) <| ?_
    skip
    have HOm := HOm.later x_22
    have HB := HB.later x_22
    exact ⟨⟨_, rfl⟩, HB, by rw [← hup]; exact HOm, z_21⟩
   ·have hnx := Hp.dn_more (key := Nod.all) hc1 hlow h_24
    refine sk <| nT <| sq <| rg <| vl (mv rfl) rfl <| vl (mv rfl) rfl <| vl (mv rfl) rfl <| ?_
    have HB := HB.later x_22
    have HOm := HOm.later x_22
    refine iv eF12 rfl rfl (meth_val (e := 88) (by kernel_rfl) (HB.one eF10 rfl)) rfl ((xP_swap _ _ _ _ lm (m : Int) ((2 * (m : Int)) + 1) m ((2 * m) + 1) _ HOm hokm (by omega) (by omega) (by omega) (by omega) (by omega)).mono ?_)
    rintro e w_27 ⟨rfl, O_25, m_26⟩
    refine ⟨_, rfl, ?_⟩
    have q_28 := m_26.size
    have z_27 := z_21.md m_26 (fun q hq => .inl hq)
    have hokO_25 : ∀ y ∈ Hp.swp lm m ((2 * m) + 1), y.ok := fun y hy => hokm y ((Hp.swp_perm (by omega) (by omega)).subset hy)
    have hlenO_25 : (Hp.swp lm m ((2 * m) + 1)).length = n := by rw [Hp.swp_len]; omega
    refine nl <| nT <| rg <| vl (mv rfl) rfl <| vl (as_ rfl) rfl <| nl <| nB <| ?_
    have HB := HB.mod m_26 (fun hq => d_1 _ hq rfl)
    exact nI _ _ ⟨Hp.swp lm m ((2 * m) + 1), 2 * m + 1, rfl, rfl, z_27, HB, O_25, by omega, hlenO_25, hokO_25, hnx.symm.trans hup, (fun q hq hb => by (exact d_1 q hq hb))⟩ (by omega) (.cons rfl (.cons rfl (.cons rfl (.cons rfl (.cons (loI rfl (by first | omega | rfl | (simp <;> omega))) .nil)))))
theorem xP_qpush (b : Nat) (A : Option Addr) (c Z : Nat) (l : List Nod) (v0 v1 v2 v3 v4 v5 : Value) (x : Nod) (w : World) (HB : Blk w b [v0, v1, v2, v3, v4, v5, .slice A l.length c] 90 (0, 0)) (HO : Nod.rep.SOwn 147 32 w Z (Rep.blkOf A) A c (l)) (hok : ∀ y ∈ l, y.ok) (hd : ∀ q ∈ Rep.blkOf A, q = b → False) (hx : x.ok) (hbig : l.length ≤ 1000000) (hZ : Z ≤ w.heap.size) :
  Calls Try.prog 128 #[.pointer (some ⟨b, 6, none⟩), .iface 147 (.agg #[.int .i64 x.cell.x, .int .i64 x.cell.y, .int .i64 x.far, .int .i64 x.all])] w (fun e w' => ∃ A' c', e = .returned (.tuple #[]) ∧ Blk w' b [v0, v1, v2, v3, v4, v5, .slice A' (l ++ [x]).length c'] 90 (0, 0) ∧ Nod.rep.SOwn 147 32 w' Z (Rep.blkOf A') A' c' (l ++ [x]) ∧ (∀ q ∈ Rep.blkOf A', q ∈ Rep.blkOf A ∨ w.heap.size ≤ q) ∧ Mod (b :: Rep.blkOf A) w w') := by
 have uO := fun q hq => (HO.lt q hq).2
 have qB := HB.lt
 have hn63 := HO.has.2.1
 have hn64 := HO.has.len_le
 have hn65 := HO.has.1
 refine calls_W (n := 13) Try.func128 rfl rfl rfl ?_
 refine rd [(3, 0), (6, 2), (7, 3), (9, 3)] [0, 1, 2, 3, 4, 5, 6, 7, 8, 9] (by kernel_rfl) (by kernel_rfl) ?_
 refine fw rfl rfl (fun _ => mv rfl) rfl <| fw rfl rfl (fun _ => mv rfl) rfl <| fw rfl rfl (fun _ => nc rfl) rfl <| fq rfl rfl (fun _ x => ld rfl ((HB.later x).one eF10 rfl)) rfl <| fw rfl rfl (fun _ => mv rfl) rfl <| fw rfl rfl (fun _ => tyA (fun w => by kernel_rfl) rfl) rfl <| fx rfl rfl rfl fun w_1 x_2 Q hK => bs (e := 147) (cs := [.int .i64 x.cell.x, .int .i64 x.cell.y, .int .i64 x.far, .int .i64 x.all]) rfl (fun _ => by kernel_rfl) rfl fun w_3 b_4 x_5 l_6 B_7 => hK _ _ ⟨Ext.tr x_2 x_5, ?_⟩
 have q_8 := x_2.size
 have z_1 := (Mod.rf (b :: Rep.blkOf A) w).trans (Mod.of_ext x_2)
 have q_9 := x_5.size
 have z_3 := z_1.trans (Mod.of_ext x_5)
 have q_10 := B_7.lt
 have HO := HO.later (Ext.tr x_2 x_5)
 refine fb rfl rfl rfl fun w_11 x_12 Q hK => ap Pq_el_path_open Rep.flat_bare (HO.later x_12) ((Blk.has1 (R := Nod.rep) (by_ := 32) (q := x) B_7 ⟨rfl, hx⟩ (by decide)).keep x_12) rfl rfl (by simp only [List.length_cons, List.length_nil]; omega) (by simp only [List.length_cons, List.length_nil]; omega) (by have := x_12.size; omega) rfl fun w_13 A_14 c_15 m_16 O_17 g_18 n_19 => hK _ _ ?_
 have q_20 := x_12.size
 have z_11 := z_3.trans (Mod.of_ext x_12)
 have q_21 := m_16.size
 have z_13 := z_11.md m_16 (fun q hq => .inl (List.mem_cons_of_mem _ hq))
 have u_22 := fun q hq => (O_17.lt q hq).2
 have q_23 := m_16.size
 refine fw rfl rfl (fun _ => nc rfl) rfl <| ?_
 have HB := HB.later (Ext.tr x_2 (Ext.tr x_5 x_12))
 have HB := HB.mod m_16 (fun hq => hd _ hq rfl)
 refine fb rfl rfl rfl fun w_24 x_25 Q hK => st (new := [v0, v1, v2, v3, v4, v5, .slice A_14 ((l ++ [x]).length) c_15]) rfl rfl (HB.later x_25) rfl eF13 rfl rfl rfl fun w_26 m_27 HB => hK _ _ ?_
 have q_29 := x_25.size
 have z_24 := z_13.trans (Mod.of_ext x_25)
 have q_30 := m_27.size
 have z_26 := z_24.md m_27 (fun q hq => .inl (by rw [List.mem_singleton.1 hq]; exact List.mem_cons_self))
 have q_28 := m_27.size
 refine fn fun w_31 x_32 => ?_
 have q_33 := x_32.size
 have z_31 := z_26.trans (Mod.of_ext x_32)
 refine ne <| tR .nil <| ?_
 have O_17 := O_17.later x_25
 have O_17 := O_17.mod m_27 (fun q hq h => by have hb := List.mem_singleton.1 h; exfalso; (exact Or.elim (g_18 q hq) (fun k_34 => by (exact hd q k_34 hb)) (fun k_34 => by omega)))
 have O_17 := O_17.later x_32
 have HB := HB.later x_32
 exact ⟨A_14, c_15, rfl, HB, O_17, (fun q hq => (g_18 q hq).imp id fun h => by omega), z_31⟩
theorem xP_qpop (b : Nat) (A : Option Addr) (n c Z : Nat) (l : List Nod) (v0 v1 v2 v3 v4 v5 : Value) (w : World) (HB : Blk w b [v0, v1, v2, v3, v4, v5, .slice A n c] 90 (0, 0)) (HO : Nod.rep.SOwn 147 32 w Z (Rep.blkOf A) A c (l)) (hok : ∀ y ∈ l, y.ok) (hn : l.length = n) (hd : ∀ q ∈ Rep.blkOf A, q = b → False) (h0 : 0 < n) :
  Calls Try.prog 127 #[.pointer (some ⟨b, 6, none⟩)] w (fun e w' => e = .returned (.iface 147 (.agg ((l.getD (n - 1) default).cells).toArray)) ∧ Blk w' b [v0, v1, v2, v3, v4, v5, .slice A (n - 1) c] 90 (0, 0) ∧ Nod.rep.SOwn 147 32 w' Z (Rep.blkOf A) A c (l.take (n - 1)) ∧ Mod (b :: Rep.blkOf A) w w') := by
 have uO := fun q hq => (HO.lt q hq).2
 have qB := HB.lt
 have hn63 := HO.has.2.1
 have hn64 := HO.has.len_le
 have hn65 := HO.has.1
 refine calls_W (n := 23) Try.func127 rfl rfl rfl ?_
 refine sq <| rg <| vl (as_ rfl) rfl <| nl <| nT <| sq <| rg <| vl (mv rfl) rfl <| vl (nc rfl) rfl <| vl (ld rfl (HB.one eF10 rfl)) rfl <| vl (as_ rfl) rfl <| nl <| nT <| sq <| rg <| vl (mv rfl) rfl <| vl (mv rfl) rfl <| vl (ln Try.underlying88 rfl) rfl <| vl (bsu rfl rfl (inI (by omega))) rfl <| vl (iA (((n : Int) - 1).toNat) Try.underlying88 eF7 rfl rfl (HO.has.adr (Nat.zero_lt_of_lt (show ((n : Int) - 1).toNat < _ from (by omega)))) (by omega) (by omega)) rfl <| vl (ld rfl (Rep.SHas.elt hcNo (HO.has.adh (Nat.zero_lt_of_lt (show ((n : Int) - 1).toNat < _ from (by omega)))) (get_d (l := l) (u := default) (by omega)) eF9 eF7)) rfl <| al rfl eF14 rfl rfl fun w_1 b_2 x_3 l_4 B_5 => ?_
 have q_6 := x_3.size
 have z_1 := (Mod.rf (b :: Rep.blkOf A) w).trans (Mod.of_ext x_3)
 have q_7 := B_5.lt
 refine st (new := [.int .i64 ((l.getD (((n : Int) - 1).toNat) default).cell.x), .int .i64 ((l.getD (((n : Int) - 1).toNat) default).cell.y), .int .i64 ((l.getD (((n : Int) - 1).toNat) default).far), .int .i64 ((l.getD (((n : Int) - 1).toNat) default).all)]) rfl rfl B_5 rfl eF7 rfl rfl rfl fun w_8 m_9 B_5 => ?_
 have q_11 := m_9.size
 have z_8 := z_1.md m_9 (fun q hq => .inr (by have := List.mem_singleton.1 hq; omega))
 have q_10 := m_9.size
 refine nl <| nT <| sq <| rg <| vl (mv rfl) rfl <| vl (mv rfl) rfl <| vl (mv rfl) rfl <| vl (ln Try.underlying88 rfl) rfl <| vl (bsu rfl rfl (inI (by omega))) rfl <| vl (sP (n - 1) (n - 1) Try.underlying88 eF7 rfl rfl (by omega) (by omega) rfl) rfl <| vl (nc rfl) rfl <| ?_
 have HB := HB.later x_3
 have HB := HB.mod m_9 (nm1 (by omega))
 refine st (new := [v0, v1, v2, v3, v4, v5, .slice A (n - 1) c]) rfl rfl HB rfl eF13 rfl rfl rfl fun w_12 m_13 HB => ?_
 have q_15 := m_13.size
 have z_12 := z_8.md m_13 (fun q hq => .inl (by rw [List.mem_singleton.1 hq]; exact List.mem_cons_self))
 have q_14 := m_13.size
 refine nl <| nT <| sq <| rg <| ?_
 have B_5 := B_5.mod m_13 (nm1 (by omega))
 refine vl (ld rfl (B_5.all eF9 eF7)) rfl <| vl (mkI (fun w => by kernel_rfl) rfl) rfl <| vl (as_ rfl) rfl <| nl <| nT <| rt <| tR (.tmp rfl .nil) <| ?_
 have HO := HO.later x_3
 have HO := HO.mod m_9 (fk1 uO (by omega))
 have HO := HO.mod m_13 (fun q hq h => by have hb := List.mem_singleton.1 h; exfalso; (exact hd q hq hb))
 exact ⟨by rw [show ((n : Int) - 1).toNat = n - 1 by omega]; rfl, HB, Rep.SOwn.cut HO Rep.flat_bare (n - 1) (by omega), z_12⟩
theorem xP_push (b : Nat) (A : Option Addr) (c Z : Nat) (l : List Nod) (v0 v1 v2 v3 v4 v5 : Value) (x : Nod) (w : World) (HB : Blk w b [v0, v1, v2, v3, v4, v5, .slice A l.length c] 90 (0, 0)) (HO : Nod.rep.SOwn 147 32 w Z (Rep.blkOf A) A c (l)) (hok : ∀ y ∈ l, y.ok) (hd : ∀ q ∈ Rep.blkOf A, q = b → False) (hx : x.ok) (hbig : l.length ≤ 1000000) (hZ : Z ≤ w.heap.size) :
  Calls Try.prog 34 #[.iface 145 (.pointer (some ⟨b, 6, none⟩)), .iface 147 (.agg #[.int .i64 x.cell.x, .int .i64 x.cell.y, .int .i64 x.far, .int .i64 x.all])] w (fun e w' => ∃ A' c', e = .returned (.tuple #[]) ∧ Blk w' b [v0, v1, v2, v3, v4, v5, .slice A' (Hp.push Nod.all l x).length c'] 90 (0, 0) ∧ Nod.rep.SOwn 147 32 w' Z (Rep.blkOf A') A' c' (Hp.push Nod.all l x) ∧ (∀ q ∈ Rep.blkOf A', q ∈ Rep.blkOf A ∨ w.heap.size ≤ q) ∧ Mod (b :: Rep.blkOf A) w w') := by
 have uO := fun q hq => (HO.lt q hq).2
 have qB := HB.lt
 have hn63 := HO.has.2.1
 have hn64 := HO.has.len_le
 have hn65 := HO.has.1
 refine calls_W (n := 12) Try.func34 rfl rfl rfl ?_
 refine sq <| rg <| vl (mv rfl) rfl <| vl (mv rfl) rfl <| iv eF15 rfl rfl (by unfold Meth; kernel_rfl) rfl ((xP_qpush b A c Z l v0 v1 v2 v3 v4 v5 x _ HB HO hok hd hx (by omega) hZ).mono ?_)
 rintro e w_2 ⟨A1, c1, rfl, HB1, HO1, hg1, m_1⟩
 refine ⟨_, rfl, ?_⟩
 have q_3 := m_1.size
 have z_2 := (Mod.rf (b :: Rep.blkOf A) w).md m_1 (fun q hq => .inl hq)
 have hll : (l ++ [x]).length = l.length + 1 := by rw [List.length_append]; rfl
 have uO1 := fun q hq => (HO1.lt q hq).2
 have qB1 := HB1.lt
 have hd1 : ∀ q ∈ Rep.blkOf A1, q = b → False := fun q hq e => (hg1 q hq).elim (fun h => hd q h e) (fun h => by omega)
 have hok1 : ∀ y ∈ l ++ [x], y.ok := fun y hy => (List.mem_append.1 hy).elim (hok y) fun h => by rw [List.mem_singleton.1 h]; exact hx
 refine nl <| nT <| rg <| vl (mv rfl) rfl <| vl (mv rfl) rfl <| iv eF16 rfl rfl (meth_val (e := 88) (by kernel_rfl) (HB1.one eF10 rfl)) rfl ((xP_len _ ((l ++ [x]).length) _ _).mono ?_)
 rintro e w_4 ⟨rfl, x_5⟩
 refine ⟨_, rfl, ?_⟩
 have q_6 := x_5.size
 have z_4 := z_2.trans (Mod.of_ext x_5)
 refine vl (bsu rfl rfl (inI (by omega))) rfl <| ?_
 have HO1 := HO1.later x_5
 have HB1 := HB1.later x_5
 refine ca eF17 rfl rfl (((show Calls _ _ #[_, .int .i64 (((l ++ [x]).length : Int) - 1)] _ _ from (by rw [show ((l ++ [x]).length : Int) - 1 = (l.length : Int) by rw [hll]; omega]; exact xP_up b A1 (l ++ [x]).length c1 Z (l ++ [x]) v0 v1 v2 v3 v4 v5 l.length _ HB1 HO1 hok1 rfl hd1 (by omega)))).mono ?_)
 rintro e w_8 ⟨rfl, HB2, HO2, m_7⟩
 refine ⟨_, rfl, ?_⟩
 have q_9 := m_7.size
 have z_8 := z_4.md m_7 (fun q hq => (hg1 q hq).imp (List.mem_cons_of_mem _) fun h => by omega)
 refine nl <| ne <| tR .nil <| ?_
 exact ⟨A1, c1, rfl, by rw [show (Hp.push Nod.all l x).length = (l ++ [x]).length by rw [Hp.push_len, hll]]; exact HB2, HO2, hg1, z_8⟩
theorem xP_pop (b : Nat) (A : Option Addr) (n c Z : Nat) (l : List Nod) (v0 v1 v2 v3 v4 v5 : Value) (w : World) (HB : Blk w b [v0, v1, v2, v3, v4, v5, .slice A n c] 90 (0, 0)) (HO : Nod.rep.SOwn 147 32 w Z (Rep.blkOf A) A c (l)) (hok : ∀ y ∈ l, y.ok) (hn : l.length = n) (hd : ∀ q ∈ Rep.blkOf A, q = b → False) (h0 : 0 < n) (hbig : n ≤ 1000000) :
  Calls Try.prog 36 #[.iface 145 (.pointer (some ⟨b, 6, none⟩))] w (fun e w' => e = .returned (.iface 147 (.agg (l.getD 0 default).cells.toArray)) ∧ Blk w' b [v0, v1, v2, v3, v4, v5, .slice A (Hp.popL Nod.all l).length c] 90 (0, 0) ∧ Nod.rep.SOwn 147 32 w' Z (Rep.blkOf A) A c (Hp.popL Nod.all l) ∧ Mod (b :: Rep.blkOf A) w w') := by
 have uO := fun q hq => (HO.lt q hq).2
 have qB := HB.lt
 have hn63 := HO.has.2.1
 have hn64 := HO.has.len_le
 have hn65 := HO.has.1
 refine calls_W (n := 15) Try.func36 rfl rfl rfl ?_
 refine sq <| rg <| vl (as_ rfl) rfl <| nl <| nT <| sq <| rg <| vl (mv rfl) rfl <| iv eF16 rfl rfl (meth_val (e := 88) (by kernel_rfl) (HB.one eF10 rfl)) rfl ((xP_len _ n _ _).mono ?_)
 rintro e w_1 ⟨rfl, x_2⟩
 refine ⟨_, rfl, ?_⟩
 have q_3 := x_2.size
 have z_1 := (Mod.rf (b :: Rep.blkOf A) w).trans (Mod.of_ext x_2)
 refine vl (bsu rfl rfl (inI (by omega))) rfl <| vl (as_ rfl) rfl <| nl <| nT <| sq <| rg <| vl (mv rfl) rfl <| vl (mv rfl) rfl <| ?_
 have HB := HB.later x_2
 have HO := HO.later x_2
 refine iv eF12 rfl rfl (meth_val (e := 88) (by kernel_rfl) (HB.one eF10 rfl)) rfl ((xP_swap _ _ _ _ l 0 ((n : Int) - 1) 0 (n - 1) _ HO hok (by omega) (by omega) (by omega) (by omega) (by omega)).mono ?_)
 rintro e w_6 ⟨rfl, O_4, m_5⟩
 refine ⟨_, rfl, ?_⟩
 have q_7 := m_5.size
 have z_6 := z_1.md m_5 (fun q hq => .inl (List.mem_cons_of_mem _ hq))
 have hokO_4 : ∀ y ∈ Hp.swp l 0 (n - 1), y.ok := fun y hy => hok y ((Hp.swp_perm (by omega) (by omega)).subset hy)
 have hlenO_4 : (Hp.swp l 0 (n - 1)).length = n := by rw [Hp.swp_len]; omega
 refine nl <| nT <| sq <| rg <| vl (mv rfl) rfl <| vl (mv rfl) rfl <| ?_
 have HB := HB.mod m_5 (fun hq => hd _ hq rfl)
 refine ca eF18 rfl rfl (((show Calls _ _ #[_, .int .i64 0, .int .i64 ((n : Int) - 1)] _ _ from (by rw [show (n : Int) - 1 = ((n - 1 : Nat) : Int) by omega]; exact xP_down b A n c Z (Hp.swp l 0 (n - 1)) v0 v1 v2 v3 v4 v5 0 (n - 1) _ HB O_4 hokO_4 (by omega) hd (by omega) (by omega) hbig))).mono ?_)
 rintro e w_10 ⟨⟨vb_, rfl⟩, HB1, O_8, m_9⟩
 refine ⟨_, rfl, ?_⟩
 have q_11 := m_9.size
 have z_10 := z_6.md m_9 (fun q hq => .inl (List.mem_cons_of_mem _ hq))
 have hokO_8 : ∀ y ∈ Hp.downF Nod.all (n - 1) (Hp.swp l 0 (n - 1)) 0, y.ok := fun y hy => hokO_4 y ((Hp.downF_perm _ _ _ _ (Nat.le_refl _) (by omega) (by omega)).subset hy)
 have hlenO_8 : (Hp.downF Nod.all (n - 1) (Hp.swp l 0 (n - 1)) 0).length = n := by rw [Hp.downF_len _ _ _ _ (Nat.le_refl _)]; omega
 have uO1 := fun q hq => (O_8.lt q hq).2
 refine nl <| nT <| sq <| rg <| vl (mv rfl) rfl <| iv eF19 rfl rfl (by unfold Meth; kernel_rfl) rfl ((xP_qpop b A n c Z (Hp.downF Nod.all (n - 1) (Hp.swp l 0 (n - 1)) 0) v0 v1 v2 v3 v4 v5 _ HB1 O_8 hokO_8 (by omega) hd h0).mono ?_)
 rintro e w_13 ⟨rfl, HB9, HO9, m_12⟩
 refine ⟨_, rfl, ?_⟩
 have q_14 := m_12.size
 have z_13 := z_10.md m_12 (fun q hq => .inl hq)
 refine vl (as_ rfl) rfl <| nl <| nT <| rt <| tR (.tmp rfl .nil) <| ?_
 subst hn; exact ⟨by rw [← Hp.popD_last (key := Nod.all) h0]; rfl, by rw [Hp.popL_len]; exact HB9, HO9, z_13⟩
end
section
open Go.RowKit
theorem ret_bool {a b : Bool} (h : a = b) : Ending.returned (.bool a) = .returned (.bool b) := by rw [h]
theorem below_alloc0 (w : World) (o : Obj) : Below w.heap.size w (w.alloc o) := (Below.refl _ w).alloc (Nat.le_refl _) o
end
end Go.Proofs.Ytmpkaphcpaigdaa
set_option linter.unusedVariables false
set_option linter.unusedSimpArgs false
namespace Go.Proofs.Ytmpkaphcpaigdaa
open Go.RowKit

def Fld.badPlace (p : Int) : Bool := !Fld.placeOk p
theorem badPlace_mk {p : Int} : (p < 0 → Fld.badPlace p = true) ∧ (4 ≤ p → Fld.badPlace p = true) ∧ (0 ≤ p → p < 4 → Fld.badPlace p = false) := by
 unfold Fld.badPlace Fld.placeOk
 refine ⟨fun h => by rw [inB_not (.inl h)]; rfl, fun h => by rw [inB_not (.inr (by omega))]; rfl, fun h1 h2 => by rw [inB_mk h1 (by omega)]; rfl⟩
theorem fcheck1 (p : Int) (w : World) : Calls Try.prog 60 #[.int .i64 p] w fun e w' => e = .returned (.bool (Fld.badPlace p)) ∧ Below w.heap.size w w' := by
 obtain ⟨b1, b2, b3⟩ := badPlace_mk (p := p)
 rcases Int.lt_or_le p 0 with h | h
 ·have hb := b1 h
  have hd : decide (p < 0) = true := by simpa using h
  rw [hb]; clear b1 b2 b3 hb
  go_enter Try.func60, Try.ntmps60
  go_wp2
  go_ret
  exact ⟨rfl, Below.refl _ _⟩
 ·rcases Int.lt_or_le p 4 with h4 | h4
  ·have hb := b3 h h4
   have hd : decide (p < 0) = false := by simpa using h
   rw [hb]; clear b1 b2 b3 hb
   go_enter Try.func60, Try.ntmps60
   go_wp2
   go_ret
   exact ⟨ret_bool (by simp <;> omega), Below.refl _ _⟩
  ·have hb := b2 h4
   have hd : decide (p < 0) = false := by simpa using h
   rw [hb]; clear b1 b2 b3 hb
   go_enter Try.func60, Try.ntmps60
   go_wp2
   go_ret
   exact ⟨ret_bool (by simp <;> omega), Below.refl _ _⟩
theorem idx_place  (A : Option Addr) (c : Nat) (l : List Int) (w : World) (hl : repI.SHas 8 w A c l) :
  Calls Try.prog 80 #[.slice A l.length c, .func (.func 60) #[] #[]] w fun e w' => e = .returned (.int .i64 (idxI (Fld.badPlace) l)) ∧ Below w.heap.size w w' := by
 obtain ⟨n, hn⟩ : ∃ n, l.length = n := ⟨_, rfl⟩
 have hle : n ≤ 9223372036854775807 := by have := hl.1; have := hl.2.1; omega
 rw [hn]
 have HL := Lib.hid hl
 have HN := Lib.hid hn
 clear hl hn
 go_enter Try.func80, Try.ntmps80
 go_wp2_with fail
 go_loopw [5, 8] (fun _ iv wr => ∃ k : Nat, k ≤ n ∧ iv = .int .i64 (k : Int) ∧ Hid (∀ j (hj : j < k) (hj2 : j < l.length), (Fld.badPlace) l[j] = false) ∧ Below w.heap.size w wr) (fun _ iv _ => n - (intOf iv).toNat)
 case atStart => exact ⟨0, Nat.zero_le _, rfl, (fun j hj => by omega), Below.refl _ _⟩
 case round =>
  obtain ⟨k, hk, rfl, HK, hb⟩ := hrel
  by_cases hlt : k < n
  ·have hkl : k < l.length := by rw [HN.out]; exact hlt
   obtain ⟨b, o, rfl, hcell⟩ := repI_at (HL.out.keep hb) (by omega)
   obtain ⟨x, hxe⟩ : ∃ x, l[k]'hkl = x := ⟨_, rfl⟩
   have q0 := hcell k x (by rw [List.getElem?_eq_getElem hkl, hxe])
   have HXE := Lib.hid hxe

   have hc := fcheck1 x wr
   clear hcell hxe
   cases hbad : (Fld.badPlace) x with
   | true =>
    have hres : idxI (Fld.badPlace) l = (k : Int) := idxI_some hkl (by rw [HXE.out]; exact hbad) fun j hj => HK.out j hj (by omega)
    rw [hbad] at hc
    have HRES := Lib.hid hres
    clear hres hbad
    go_wp2_with (go_at_call 60; refine hc.mono ?_; rintro e w' ⟨rfl, hb2⟩)
    go_ret
    exact ⟨by rw [HRES.out]; rfl, hb.trans (hb2.mono hb.size)⟩
   | false =>
    rw [hbad] at hc
    have HK2 : Hid (∀ j (hj : j < k + 1) (hj2 : j < l.length), (Fld.badPlace) l[j] = false) := by
     intro j hj hj2
     by_cases h : j < k
     ·exact HK.out j h hj2
     ·obtain rfl : j = k := by omega
      rw [HXE.out]; exact hbad
    clear hbad
    go_wp2_with (go_at_call 60; refine hc.mono ?_; rintro e w' ⟨rfl, hb2⟩)
    go_roundw
    case rel => exact ⟨k + 1, by omega, by go_num, HK2, hb.trans (hb2.mono hb.size)⟩
    case measure => simp [intOf]; omega
  ·have hres : idxI (Fld.badPlace) l = -1 := idxI_none fun j hj => HK.out j (by have := HN.out; omega) hj
   have HRES := Lib.hid hres
   clear hres
   go_wp2_with fail
   go_ret
   exact ⟨by rw [HRES.out]; rfl, hb⟩
theorem has_place  (A : Option Addr) (c : Nat) (l : List Int) (w : World) (hl : repI.SHas 8 w A c l) :
  Calls Try.prog 59 #[.slice A l.length c, .func (.func 60) #[] #[]] w fun e w' => e = .returned (.bool (l.any (Fld.badPlace))) ∧ Below w.heap.size w w' := by
 have hc := idx_place  A c l w hl 
 rw [← idxI_any]
 generalize idxI (Fld.badPlace) l = r at *
 generalize l.length = n at *
 clear hl 
 go_enter Try.func59, Try.ntmps59
 go_wp2_with (go_at_call 80; refine hc.mono ?_; rintro e w' ⟨rfl, hb2⟩)
 go_ret
 exact ⟨rfl, hb2⟩
theorem side_any (n : Int) (w : World) : Calls Try.prog 58 #[.int .i64 n] w fun e w' => e = .returned (.bool (inB n 1 40)) ∧ w = w' := by
 rcases Int.lt_or_le n 1 with h | h
 ·rw [inB_not (.inl h)]
  go_enter Try.func58, Try.ntmps58
  go_wp2
  go_ret
  exact ⟨rfl, rfl⟩
 ·rcases Int.lt_or_le 40 n with h4 | h4
  ·rw [inB_not (.inr h4)]
   go_enter Try.func58, Try.ntmps58
   go_wp2
   go_ret
   exact ⟨ret_bool (by simp <;> omega), rfl⟩
  ·rw [inB_mk h h4]
   go_enter Try.func58, Try.ntmps58
   go_wp2
   go_ret
   exact ⟨ret_bool (by simp <;> omega), rfl⟩
end Go.Proofs.Ytmpkaphcpaigdaa
set_option linter.unusedVariables false
set_option linter.unusedSimpArgs false
namespace Go.Proofs.Ytmpkaphcpaigdaa
open Go.RowKit

theorem Fld.chk_none {f : Fld} (h1 : inB f.wide 1 40 = true) (h2 : inB f.high 1 40 = true) (h3 : ¬ (f.places.length : Int) = f.wide * f.high) : f.chk = 4 := by
 unfold Fld.chk
 rw [h1, h2, decide_eq_false h3]; rfl
theorem Fld.chk_any {f : Fld} (h1 : inB f.wide 1 40 = true) (h2 : inB f.high 1 40 = true) (h3 : (f.places.length : Int) = f.wide * f.high) : f.chk = if f.places.any Fld.badPlace then 4 else 0 := by
 unfold Fld.chk
 rw [h1, h2, decide_eq_true h3]
 have : f.places.all Fld.placeOk = !f.places.any Fld.badPlace := by
  rw [List.all_eq_not_any_not]; rfl
 rw [this]
 cases f.places.any Fld.badPlace <;> rfl
theorem fldCheck (f : Fld) (A : Option Addr) (c : Nat) (w : World) (hP : repI.SHas 8 w A c f.places) :
  Calls Try.prog 33 #[.agg #[.int .i64 f.wide, .int .i64 f.high, .slice A f.places.length c]] w fun e w' => e = .returned (.int .i64 f.chk) ∧ Below w.heap.size w w' := by
 have hb := below_alloc0 w (.cells #[.int .i64 f.wide, .int .i64 f.high, .slice A f.places.length c] 24)
 have hs1 := side_any f.wide
 have hs2 := side_any f.high
 have hle : f.places.length ≤ 9223372036854775807 := by have := hP.1; have := hP.2.1; omega
 cases h1 : inB f.wide 1 40 with
 | false =>
  rw [h1] at hs1
  rw [Fld.chk_one (by rw [h1]; rfl)]
  clear h1 hs2 hP
  go_enter Try.func33, Try.ntmps33
  go_wp2_with (go_at_call 58; refine (hs1 _).mono ?_; rintro e w' ⟨rfl, rfl⟩)
  go_ret
  exact ⟨rfl, hb⟩
 | true =>
  rw [h1] at hs1
  cases h2 : inB f.high 1 40 with
  | false =>
   rw [h2] at hs2
   rw [Fld.chk_one (by rw [h1, h2]; rfl)]
   clear h1 h2 hP
   go_enter Try.func33, Try.ntmps33
   go_wp2_with fail
   refine (hs1 _).mono ?_; rintro e w' ⟨rfl, rfl⟩
   go_wp2_with fail
   refine (hs2 _).mono ?_; rintro e w' ⟨rfl, rfl⟩
   go_wp2_with fail
   go_ret
   exact ⟨rfl, hb⟩
  | true =>
   rw [h2] at hs2
   have hw := inB_true h1
   have hh := inB_true h2
   have hm0 : 0 ≤ f.wide * f.high := Int.mul_nonneg (by omega) (by omega)
   have hm1 : f.wide * f.high ≤ 40 * 40 := Int.mul_le_mul hw.2 hh.2 (by omega) (by omega)
   by_cases h3 : (f.places.length : Int) = f.wide * f.high
   ·have hc := has_place A c f.places _ (hP.keep hb)
    have hd : ((f.places.length : Int) == f.wide * f.high) = true := by simpa using h3
    have hd2 : ((f.places.length : Int) != f.wide * f.high) = false := by simpa using h3
    rw [Fld.chk_any h1 h2 h3]
    clear h1 h2 h3 hP
    generalize f.places.any Fld.badPlace = r at *
    generalize f.places.length = n at *
    cases r with
    | true =>
     go_enter Try.func33, Try.ntmps33
     go_wp2_with fail
     refine (hs1 _).mono ?_; rintro e w' ⟨rfl, rfl⟩
     go_wp2_with fail
     refine (hs2 _).mono ?_; rintro e w' ⟨rfl, rfl⟩
     go_wp2_with fail
     refine hc.mono ?_; rintro e w' ⟨rfl, hb2⟩
     go_wp2_with fail
     go_ret
     exact ⟨rfl, hb.trans (hb2.mono hb.size)⟩
    | false =>
     go_enter Try.func33, Try.ntmps33
     go_wp2_with fail
     refine (hs1 _).mono ?_; rintro e w' ⟨rfl, rfl⟩
     go_wp2_with fail
     refine (hs2 _).mono ?_; rintro e w' ⟨rfl, rfl⟩
     go_wp2_with fail
     refine hc.mono ?_; rintro e w' ⟨rfl, hb2⟩
     go_wp2_with fail
     go_ret
     exact ⟨rfl, hb.trans (hb2.mono hb.size)⟩
   ·have hd : ((f.places.length : Int) == f.wide * f.high) = false := by simpa using h3
    have hd2 : ((f.places.length : Int) != f.wide * f.high) = true := by simpa using h3
    rw [Fld.chk_none h1 h2 h3]
    clear h1 h2 h3 hP
    generalize f.places.length = n at *
    go_enter Try.func33, Try.ntmps33
    go_wp2_with fail
    refine (hs1 _).mono ?_; rintro e w' ⟨rfl, rfl⟩
    go_wp2_with fail
    refine (hs2 _).mono ?_; rintro e w' ⟨rfl, rfl⟩
    go_wp2_with fail
    go_ret
    exact ⟨rfl, hb⟩
end Go.Proofs.Ytmpkaphcpaigdaa
set_option linter.unusedVariables false
set_option linter.unusedSimpArgs false
namespace Go.Proofs.Ytmpkaphcpaigdaa
open Go.RowKit

theorem ret_two {k k' : IntKind} {a b a' b' : Int} (h1 : a = a') (h2 : b = b') : Ending.returned (.tuple #[.int k a, .int k' b]) = .returned (.tuple #[.int k a', .int k' b']) := by rw [h1, h2]
def AtPost (f : Fld) (c : Cel) (w : World) (e : Ending) (w' : World) : Prop := e = .returned (.tuple #[.int .i64 (f.atV c), .int .i64 (f.atE c)]) ∧ Below w.heap.size w w'
theorem fldAt (f : Fld) (p : Cel) (A : Option Addr) (c : Nat) (w : World) (hP : repI.SHas 8 w A c f.places) :
  Calls Try.prog 21 #[.agg #[.int .i64 f.wide, .int .i64 f.high, .slice A f.places.length c], .agg #[.int .i64 p.x, .int .i64 p.y]] w (AtPost f p w) := by
 have hA := Blk.new w (Wd.fcells A c f) 24 (0, 0)
 have hb := below_alloc0 w (.cells (Wd.fcells A c f).toArray 24 (0, 0))
 have hB := Blk.new (w.alloc (.cells (Wd.fcells A c f).toArray 24 (0, 0))) p.cells 35 (0, 0)
 have hb1 := below_alloc0 (w.alloc (.cells (Wd.fcells A c f).toArray 24 (0, 0))) (.cells p.cells.toArray 35 (0, 0))
 have hA1 := hA.later hb1
 have hbb := hb.trans (hb1.mono hb.size)
 have hc := fldCheck f A c _ (hP.keep hbb)
 have hP1 := hP.keep hbb
 obtain ⟨w1, HW1⟩ : ∃ w1, Hid ((w.alloc (.cells (Wd.fcells A c f).toArray 24 (0, 0))).alloc (.cells p.cells.toArray 35 (0, 0)) = w1) := ⟨_, Lib.hid rfl⟩
 rw [HW1.out] at hA1 hB hc hbb hP1
 rw [World.size_alloc] at hB
 clear hA hb hb1 hP
 have hst : ∀ K : World → Prop, K w1 → K ((w.alloc (.cells #[.int .i64 f.wide, .int .i64 f.high, .slice A f.places.length c] 24)).alloc (.cells #[.int .i64 p.x, .int .i64 p.y] 35)) := fun K h => by
  have := HW1.out
  rw [← this] at h; exact h
 by_cases h0 : f.chk = 0
 ·have hfl := Fld.len_le h0
  obtain ⟨g1, g2, g3, g4, _, _⟩ := Fld.good h0
  rw [h0] at hc
  by_cases hin : 0 ≤ p.x ∧ p.x < f.wide ∧ 0 ≤ p.y ∧ p.y < f.high
  ·obtain ⟨i1, i2, i3, i4⟩ := hin
   have hIn := Fld.isIn_mk i1 i2 i3 i4
   obtain ⟨e1, e2⟩ := Fld.at_in h0 hIn
   obtain ⟨x1, x2, _⟩ := Fld.idx h0 hIn
   have y1 : 0 ≤ p.y * f.wide := Int.mul_nonneg i3 (by omega)
   have y2 : p.y * f.wide ≤ 1600 := by omega
   obtain ⟨b, o, rfl, hcell⟩ := repI_at hP1 (by omega)
   have hce := hcell (p.y * f.wide + p.x).toNat (f.place p) (by
    unfold Fld.place
    rw [List.getD_eq_getElem?_getD, List.getElem?_eq_getElem (show (p.y * f.wide + p.x).toNat < f.places.length by omega)]; rfl)
   have HCE := Lib.hid hce
   have HE := Lib.hid (And.intro e1 e2)
   have HA1 := Lib.hid hA1
   have HB := Lib.hid hB
   have d1 : decide (p.x < 0) = false := by simpa using i1
   have d2 : decide (p.y < 0) = false := by simpa using i3
   clear h0 hIn e1 e2 hcell hce hP1 hA1 hB
   go_enter Try.func21, Try.ntmps21
   go_wp2_with fail
   refine hst (fun W => Calls _ _ _ W _) ?_
   refine hc.mono ?_
   rintro e w2 ⟨rfl, hb2⟩
   obtain ⟨q0, q1, q2⟩ := Wd.fblk (HA1.out.later hb2)
   obtain ⟨r0, r1⟩ := Cel.blk (HB.out.later hb2)
   have hcell2 := cell_later hb2 HCE.out
   go_wp2_with fail
   go_ret2
   exact ⟨ret_two HE.out.2.symm HE.out.1.symm, hbb.trans (hb2.mono hbb.size)⟩
  ·have hout : p.x < 0 ∨ f.wide ≤ p.x ∨ p.y < 0 ∨ f.high ≤ p.y := by omega
   have HE := Lib.hid (Fld.at_out h0 (Fld.isIn_out hout))
   have HA1 := Lib.hid hA1
   have HB := Lib.hid hB
   clear h0 hP1 hA1 hB hin
   have HOUT := Lib.hid hout
   clear hout
   go_enter Try.func21, Try.ntmps21
   go_wp2_with fail
   refine hst (fun W => Calls _ _ _ W _) ?_
   refine hc.mono ?_
   rintro e w2 ⟨rfl, hb2⟩
   obtain ⟨q0, q1, q2⟩ := Wd.fblk (HA1.out.later hb2)
   obtain ⟨r0, r1⟩ := Cel.blk (HB.out.later hb2)
   have key : decide (p.x < 0) = true ∨ (decide (p.x < 0) = false ∧ decide (f.wide ≤ p.x) = true) ∨ (decide (p.x < 0) = false ∧ decide (f.wide ≤ p.x) = false ∧ decide (p.y < 0) = true) ∨ (decide (p.x < 0) = false ∧ decide (f.wide ≤ p.x) = false ∧ decide (p.y < 0) = false ∧ decide (f.high ≤ p.y) = true) := by
    have := HOUT.out
    by_cases k1 : p.x < 0
    ·simp [k1]
    by_cases k2 : f.wide ≤ p.x
    ·simp [k1, k2]
    by_cases k3 : p.y < 0
    ·simp [k1, k2, k3]
    ·simp [k1, k2, k3]; omega
   rcases key with h | ⟨h, h2⟩ | ⟨h, h2, h3⟩ | ⟨h, h2, h3, h4⟩
   all_goals
    go_wp2_with fail
    go_ret2
    exact ⟨ret_two HE.out.2.symm HE.out.1.symm, hbb.trans (hb2.mono hbb.size)⟩
 ·obtain ⟨e1, e2⟩ := Fld.at_bad (c := p) h0
  have HE := Lib.hid (And.intro e1 e2)
  have hne : (f.chk == 0) = false := by simpa using h0
  have hne2 : (f.chk != 0) = true := by simpa using h0
  clear e1 e2 h0 hP1 hA1 hB
  generalize f.chk = k at *
  go_enter Try.func21, Try.ntmps21
  go_wp2_with fail
  refine hst (fun W => Calls _ _ _ W _) ?_
  refine hc.mono ?_
  rintro e w2 ⟨rfl, hb2⟩
  go_wp2_with fail
  go_ret2
  exact ⟨ret_two HE.out.2.symm HE.out.1.symm, hbb.trans (hb2.mono hbb.size)⟩
end Go.Proofs.Ytmpkaphcpaigdaa
set_option linter.unusedVariables false
set_option linter.unusedSimpArgs false
namespace Go.Proofs.Ytmpkaphcpaigdaa
open Go.RowKit

def Cel.is (p x : Cel) : Bool := decide (x = p)
end Go.Proofs.Ytmpkaphcpaigdaa
namespace Go.Proofs.Ytmpkaphcpaigdaa
section
open Go.RowKit
theorem foot_mem {a : Wd.At} {g : Nat} : g ∈ WOwn.foot a ↔ g ∈ Rep.blkOf a.P ∨ g ∈ Rep.blkOf a.B ∨ g ∈ Rep.blkOf a.S ∨ g ∈ Rep.blkOf a.M ∨ g ∈ Rep.blkOf a.T := by
 unfold WOwn.foot
 simp only [List.mem_append]
 constructor
 ·rintro ((((h | h) | h) | h) | h) <;> simp [h]
 ·rintro (h | h | h | h | h) <;> simp [h]
namespace Wd
def priceOf (k : Int) : Int := if k = 1 then 5 else if k = 2 then 12 else 0
end Wd
theorem Below.md {Z : Nat} {w w1 w2 : World} {S : List Nat} (h : Below Z w w1) (m : Mod S w1 w2) (hS : ∀ q ∈ S, Z ≤ q) (hZ : Z ≤ w1.heap.size) : Below Z w w2 := Go.RowKit.Below.trans h (m.below hS hZ)
theorem WOwn.mod {w w1 : World} {Z : Nat} {a : Wd.At} {W : Wd} {S : List Nat} (h : WOwn w Z a W) (m : Mod S w w1) (hd : ∀ x ∈ WOwn.foot a, x ∉ S) : WOwn w1 Z a W :=
 ⟨h.P.mod m fun x hx => hd x (foot_mem.2 (.inl hx)), h.B.mod m fun x hx => hd x (foot_mem.2 (.inr (.inl hx))), h.S.mod m fun x hx => hd x (foot_mem.2 (.inr (.inr (.inl hx)))), h.M.mod m fun x hx => hd x (foot_mem.2 (.inr (.inr (.inr (.inl hx))))), h.T.mod m fun x hx => hd x (foot_mem.2 (.inr (.inr (.inr (.inr hx))))), h.apart, h.nums⟩
def reachOf (k : Int) : Int := if k = 1 then 1 else if k = 2 then 2 else 0
def harmOf (k : Int) : Int := if k = 1 then 1 else if k = 2 then 4 else 0
def kindE (k : Int) : Int := if k = 1 then 0 else if k = 2 then 0 else 1
theorem WOwn.down {w : World} {Z Z' : Nat} {a : Wd.At} {W : Wd} (h : WOwn w Z a W) (hz : Z' ≤ Z) : WOwn w Z' a W := ⟨h.P.down hz, h.B.down hz, h.S.down hz, h.M.down hz, h.T.down hz, h.apart, h.nums⟩
def Wd.zero : Wd := ⟨⟨0, 0, []⟩, [], [], [], [], 0, 0⟩
theorem WOwn.zero (w : World) (Z : Nat) : WOwn w Z ⟨none, none, none, none, none, 0, 0, 0, 0, 0⟩ Wd.zero := ⟨Rep.SOwn.nil w, Rep.SOwn.nil w, Rep.SOwn.nil w, Rep.SOwn.nil w, Rep.SOwn.nil w, by simp [Rep.blkOf], okI_iff.2 (by decide), okI_iff.2 (by decide), okI_iff.2 (by decide), okI_iff.2 (by decide)⟩
theorem atE_zero {f : Fld} {c : Cel} (h : f.chk = 0) (he : f.atE c = 0) : f.isIn c = true := by
 cases hi : f.isIn c with
 | true => rfl
 | false => rw [(Fld.at_out h hi).1] at he; omega
theorem fldAt2 (f : Fld) (p : Cel) (A : Option Addr) (c : Nat) (w : World) (hP : repI.SHas 8 w A c f.places) :
  Calls Try.prog 21 #[.agg #[.int .i64 f.wide, .int .i64 f.high, .slice A f.places.length c], .agg #[.int .i64 p.x, .int .i64 p.y]] w fun e w' => e = .returned (.tuple #[.int .i64 (f.atV p), .int .i64 (f.atE p)]) ∧ Below w.heap.size w w' := fldAt f p A c w hP
structure Pairs (a : Wd.At) : Prop where
 PS : ∀ q ∈ Rep.blkOf a.P, q ∈ Rep.blkOf a.S → False
 PM : ∀ q ∈ Rep.blkOf a.P, q ∈ Rep.blkOf a.M → False
 PB : ∀ q ∈ Rep.blkOf a.P, q ∈ Rep.blkOf a.B → False
 PT : ∀ q ∈ Rep.blkOf a.P, q ∈ Rep.blkOf a.T → False
 SM : ∀ q ∈ Rep.blkOf a.S, q ∈ Rep.blkOf a.M → False
 SB : ∀ q ∈ Rep.blkOf a.S, q ∈ Rep.blkOf a.B → False
 ST : ∀ q ∈ Rep.blkOf a.S, q ∈ Rep.blkOf a.T → False
 MB : ∀ q ∈ Rep.blkOf a.M, q ∈ Rep.blkOf a.B → False
 MT : ∀ q ∈ Rep.blkOf a.M, q ∈ Rep.blkOf a.T → False
 BT : ∀ q ∈ Rep.blkOf a.B, q ∈ Rep.blkOf a.T → False
end
section
open Go.RowKit
def pcK (f : Fld) (c : Cel) : Int := if f.isIn c then costK (f.place c) else 0
theorem cost_ground {f : Fld} {c : Cel} (hf : f.chk = 0) (hc : f.isIn c = true) : (costE (f.place c) == 0) = f.ground c ∧ (f.ground c = true → costK (f.place c) = f.kost c) := by
 obtain ⟨_, _, _, _, _, g6⟩ := Fld.good hf
 have hp := g6 (f.place c) (by unfold Fld.place; exact mem_dd (Fld.at_lt hf hc).1)
 unfold Fld.ground
 rw [hc]
 have : f.place c = 0 ∨ f.place c = 1 ∨ f.place c = 2 ∨ f.place c = 3 := by omega
 unfold Fld.kost costE costK
 rcases this with h | h | h | h <;> rw [h] <;> simp
theorem pc_out {f : Fld} {c : Cel} (hf : f.chk = 0) (h : ¬ f.atE c = 0) : pcK f c = 0 ∧ f.ground c = false := by
 have hc : f.isIn c = false := by
  cases hc : f.isIn c with
  | false => rfl
  | true => exact absurd (Fld.at_in hf hc).1 h
 unfold pcK Fld.ground; rw [hc]; exact ⟨rfl, rfl⟩
theorem pc_in {f : Fld} {c : Cel} (hf : f.chk = 0) (h : f.atE c = 0) : pcK f c = costK (f.atV c) ∧ f.ground c = (costE (f.atV c) == 0) := by
 have hc := atE_zero hf h
 rw [(Fld.at_in hf hc).2]
 unfold pcK; rw [hc]; exact ⟨rfl, (cost_ground hf hc).1.symm⟩
theorem pcK_ground {f : Fld} {c : Cel} (hf : f.chk = 0) (h : f.ground c = true) : pcK f c = f.kost c := by
 have hc := Fld.ground_in h
 unfold pcK; rw [if_pos hc]; exact (cost_ground hf hc).2 h
theorem fcost_any (p : Int) (w : World) :
  Calls Try.prog 16 #[.int .i64 p] w (fun e w' => e = .returned (.tuple #[.int .i64 (costK p), .int .i64 (costE p)]) ∧ Ext w w') := by
 refine calls_W (n := 12) Try.func16 rfl rfl rfl ?_
 refine sq <| rg <| vl (as_ rfl) rfl <| vl (as_ rfl) rfl <| nl <| nT <| sq <| sq <| rg <| vl (mv rfl) rfl <| nl <| nT <| bk <| sq <| sq <| rg <| vl (beq rfl rfl) rfl <| vl (as_ rfl) rfl <| nl <| nT <| ?_
 refine ceq rfl (fun h_1 => ?_) (fun h_1 => ?_)
 ·have k_2 : (p == 0) = true := by simpa using h_1
  refine sk <| nT <| ?_
  refine ceq rfl (fun h_3 => ?_) (fun h_3 => ?_)
  ·have k_4 : (p == 0) = true := by simpa using h_3
   refine sq <| rg <| vl (as_ rfl) rfl <| vl (as_ rfl) rfl <| nl <| nT <| rt <| tB <| tT <| tR (.tmp rfl (.tmp rfl .nil)) <| ?_
   exact ⟨by simp_all [costK, costE, tup], (Ext.rf w)⟩
  ·have k_5 : (p == 0) = false := by simpa using h_3
   refine sq <| rg <| vl (beq rfl rfl) rfl <| vl (as_ rfl) rfl <| nl <| nT <| ?_
   refine ceq rfl (fun h_6 => ?_) (fun h_6 => ?_)
   ·have k_7 : (p == 2) = true := by simpa using h_6
    refine sq <| rg <| vl (as_ rfl) rfl <| vl (as_ rfl) rfl <| nl <| nT <| rt <| tB <| tT <| tR (.tmp rfl (.tmp rfl .nil)) <| ?_
    exact ⟨by simp_all [costK, costE, tup], (Ext.rf w)⟩
   ·have k_8 : (p == 2) = false := by simpa using h_6
    refine sq <| rg <| vl (beq rfl rfl) rfl <| vl (as_ rfl) rfl <| nl <| nT <| ?_
    refine ceq rfl (fun h_9 => ?_) (fun h_9 => ?_)
    ·have k_10 : (p == 1) = true := by simpa using h_9
     refine sq <| rg <| vl (as_ rfl) rfl <| vl (as_ rfl) rfl <| nl <| nT <| rt <| tB <| tT <| tR (.tmp rfl (.tmp rfl .nil)) <| ?_
     exact ⟨by simp_all [costK, costE, tup], (Ext.rf w)⟩
    ·have k_11 : (p == 1) = false := by simpa using h_9
     refine sk <| nB <| nT <| sq <| rg <| vl (as_ rfl) rfl <| vl (as_ rfl) rfl <| nl <| nT <| rt <| tR (.tmp rfl (.tmp rfl .nil)) <| ?_
     exact ⟨by simp_all [costK, costE, tup], (Ext.rf w)⟩
 ·have k_12 : (p == 0) = false := by simpa using h_1
  refine rg <| vl (beq rfl rfl) rfl <| vl (as_ rfl) rfl <| nl <| nT <| ?_
  refine ceq rfl (fun h_13 => ?_) (fun h_13 => ?_)
  ·have k_14 : (p == 3) = true := by simpa using h_13
   refine sq <| rg <| vl (as_ rfl) rfl <| vl (as_ rfl) rfl <| nl <| nT <| rt <| tB <| tT <| tR (.tmp rfl (.tmp rfl .nil)) <| ?_
   exact ⟨by simp_all [costK, costE, tup], (Ext.rf w)⟩
  ·have k_15 : (p == 3) = false := by simpa using h_13
   refine sq <| rg <| vl (beq rfl rfl) rfl <| vl (as_ rfl) rfl <| nl <| nT <| ?_
   refine ceq rfl (fun h_16 => ?_) (fun h_16 => ?_)
   ·have k_17 : (p == 2) = true := by simpa using h_16
    refine sq <| rg <| vl (as_ rfl) rfl <| vl (as_ rfl) rfl <| nl <| nT <| rt <| tB <| tT <| tR (.tmp rfl (.tmp rfl .nil)) <| ?_
    exact ⟨by simp_all [costK, costE, tup], (Ext.rf w)⟩
   ·have k_18 : (p == 2) = false := by simpa using h_16
    refine sq <| rg <| vl (beq rfl rfl) rfl <| vl (as_ rfl) rfl <| nl <| nT <| ?_
    refine ceq rfl (fun h_19 => ?_) (fun h_19 => ?_)
    ·have k_20 : (p == 1) = true := by simpa using h_19
     refine sq <| rg <| vl (as_ rfl) rfl <| vl (as_ rfl) rfl <| nl <| nT <| rt <| tB <| tT <| tR (.tmp rfl (.tmp rfl .nil)) <| ?_
     exact ⟨by simp_all [costK, costE, tup], (Ext.rf w)⟩
    ·have k_21 : (p == 1) = false := by simpa using h_19
     refine sk <| nB <| nT <| sq <| rg <| vl (as_ rfl) rfl <| vl (as_ rfl) rfl <| nl <| nT <| rt <| tR (.tmp rfl (.tmp rfl .nil)) <| ?_
     exact ⟨by simp_all [costK, costE, tup], (Ext.rf w)⟩
theorem pindex_any (w0 : World) (f : Fld) (P F A : Option Addr) (pc cf c b : Nat) (far : List Int) (l : List Nod) (to : Cel) (p : Cel) (w : World) (hx0 : Ext w0 w) (hf : f.chk = 0) (hP : repI.SHas 8 w0 P pc f.places) (HB : Blk w b [.int .i64 f.wide, .int .i64 f.high, .slice P f.places.length pc, .int .i64 to.x, .int .i64 to.y, .slice F far.length cf, .slice A l.length c] 90 (0, 0)) (hp : -500 ≤ p.x ∧ p.x ≤ 500 ∧ -500 ≤ p.y ∧ p.y ≤ 500) :
  Calls Try.prog 42 #[.pointer (some ⟨b, 0, none⟩), .agg #[.int .i64 p.x, .int .i64 p.y]] w (fun e w' => e = .returned (.int .i64 (p.y * f.wide + p.x)) ∧ Ext w w') := by
 have qB := HB.lt
 obtain ⟨g1, g2, g3, g4, g5, g6⟩ := Fld.good hf
 have q0 := hx0.size
 refine calls_W (n := 16) Try.func42 rfl rfl rfl ?_
 refine sq <| rg <| bx rfl rfl rfl rfl fun w_1 b_2 x_3 l_4 B_5 => ?_
 have q_6 := x_3.size
 have z_1 := Ext.tr hx0 x_3
 have q_7 := B_5.lt
 refine vl (as_ rfl) rfl <| nl <| nT <| sq <| ?_
 refine rd [(1, 0), (6, 0), (9, 0)] [0, 1, 2, 3, 4, 5, 6, 7, 8, 9, 10, 11] (by kernel_rfl) (by kernel_rfl) ?_
 refine fw rfl rfl (fun _ => fa eF2 rfl) rfl <| fq rfl rfl (fun _ x => ld rfl ((B_5.later x).one eF1 rfl)) rfl <| fw rfl rfl (fun _ => mv rfl) rfl <| fw rfl rfl (fun _ => nc rfl) rfl <| fw rfl rfl (fun _ => fa eF20 rfl) rfl <| fw rfl rfl (fun _ => fa eF21 rfl) rfl <| ?_
 have HB := HB.later x_3
 refine fq rfl rfl (fun _ x => ld rfl ((HB.later x).one eF1 rfl)) rfl <| fw rfl rfl (fun _ => bmu rfl rfl (inI ((by have := Int.mul_le_mul (show p.y ≤ 500 by omega) g2 (by omega) (by omega); have := Int.mul_le_mul (show -p.y ≤ 500 by omega) g2 (by omega) (by omega); rw [Int.neg_mul] at this; omega)))) rfl <| fw rfl rfl (fun _ => fa eF0 rfl) rfl <| fq rfl rfl (fun _ x => ld rfl ((B_5.later x).one eF1 rfl)) rfl <| fw rfl rfl (fun _ => bad rfl rfl (inI ((by have := Int.mul_le_mul (show p.y ≤ 500 by omega) g2 (by omega) (by omega); have := Int.mul_le_mul (show -p.y ≤ 500 by omega) g2 (by omega) (by omega); rw [Int.neg_mul] at this; omega)))) rfl <| fw rfl rfl (fun _ => as_ rfl) rfl <| fn fun w_8 x_9 => ?_
 have q_10 := x_9.size
 have z_8 := Ext.tr z_1 x_9
 refine nT <| rt <| tR (.tmp rfl .nil) <| ?_
 exact ⟨rfl, Ext.tr x_3 x_9⟩
theorem pcost_any (w0 : World) (f : Fld) (P F A : Option Addr) (pc cf c b : Nat) (far : List Int) (l : List Nod) (to : Cel) (p : Cel) (w : World) (hx0 : Ext w0 w) (hf : f.chk = 0) (hP : repI.SHas 8 w0 P pc f.places) (HB : Blk w b [.int .i64 f.wide, .int .i64 f.high, .slice P f.places.length pc, .int .i64 to.x, .int .i64 to.y, .slice F far.length cf, .slice A l.length c] 90 (0, 0)) :
  Calls Try.prog 40 #[.pointer (some ⟨b, 0, none⟩), .agg #[.int .i64 p.x, .int .i64 p.y]] w (fun e w' => e = .returned (.tuple #[.int .i64 (pcK f p), .bool (f.ground p)]) ∧ Ext w w') := by
 have qB := HB.lt
 obtain ⟨g1, g2, g3, g4, g5, g6⟩ := Fld.good hf
 have q0 := hx0.size
 refine calls_W (n := 28) Try.func40 rfl rfl rfl ?_
 refine sq <| rg <| bx rfl rfl rfl rfl fun w_1 b_2 x_3 l_4 B_5 => ?_
 have q_6 := x_3.size
 have z_1 := Ext.tr hx0 x_3
 have q_7 := B_5.lt
 refine vl (as_ rfl) rfl <| vl (as_ rfl) rfl <| nl <| nT <| sq <| ?_
 refine rd [(3, 0), (4, 0), (5, 0)] [0, 1, 2, 3, 4, 5, 6, 7, 8, 9, 10] (by kernel_rfl) (by kernel_rfl) ?_
 refine fw rfl rfl (fun _ => mv rfl) rfl <| fw rfl rfl (fun _ => nc rfl) rfl <| fw rfl rfl (fun _ => fa eF20 rfl) rfl <| ?_
 have HB := HB.later x_3
 refine fq rfl rfl (fun _ x => ld rfl ((HB.later x).par [.int .i64 f.wide, .int .i64 f.high, .slice P f.places.length pc] eF22 eF23 rfl)) rfl <| fq rfl rfl (fun _ x => ld rfl ((B_5.later x).all eF3 eF4)) rfl <| fc rfl rfl eF24 rfl (fun _ x => fldAt2 f p _ _ _ (hP.keep (Ext.tr z_1 x))) rfl <| fw rfl rfl (fun _ => mv rfl) rfl <| fw rfl rfl (fun _ => ex rfl rfl) rfl <| fw rfl rfl (fun _ => ex rfl rfl) rfl <| fw rfl rfl (fun _ => as_ rfl) rfl <| fw rfl rfl (fun _ => as_ rfl) rfl <| fn fun w_8 x_9 => ?_
 have q_10 := x_9.size
 have z_8 := Ext.tr z_1 x_9
 refine nT <| sq <| sq <| rg <| vl (mv rfl) rfl <| vl (bne rfl rfl) rfl <| nl <| nT <| ?_
 refine cne rfl (fun h_11 => ?_) (fun h_11 => ?_)
 ·have hpc := pc_out hf h_11
  refine sq <| rg <| vl (as_ rfl) rfl <| vl (as_ rfl) rfl <| nl <| nT <| rt <| tT <| tR (.tmp rfl (.tmp rfl .nil)) <| ?_
  exact ⟨by rw [hpc.1, hpc.2]; rfl, Ext.tr x_3 x_9⟩
 ·have hpc := pc_in hf h_11
  refine sk <| nT <| sq <| rg <| vl (mv rfl) rfl <| ca eF25 rfl rfl ((fcost_any (f.atV p) _).mono ?_)
  rintro e w_12 ⟨rfl, x_13⟩
  refine ⟨_, rfl, ?_⟩
  have q_14 := x_13.size
  have z_12 := Ext.tr z_8 x_13
  refine vl (mv rfl) rfl <| vl (ex rfl rfl) rfl <| vl (ex rfl rfl) rfl <| vl (as_ rfl) rfl <| vl (as_ rfl) rfl <| nl <| nT <| sq <| rg <| vl (mv rfl) rfl <| vl (mv rfl) rfl <| vl (beq rfl rfl) rfl <| vl (as_ rfl) rfl <| vl (as_ rfl) rfl <| nl <| nT <| rt <| tR (.tmp rfl (.tmp rfl .nil)) <| ?_
  exact ⟨by rw [hpc.1, hpc.2]; rfl, Ext.tr (Ext.tr x_3 x_9) x_13⟩
theorem psides_any (p : Cel) (w : World) (hp : -100000 ≤ p.x ∧ p.x ≤ 100000 ∧ -100000 ≤ p.y ∧ p.y ≤ 100000) :
  Calls Try.prog 41 #[.agg #[.int .i64 p.x, .int .i64 p.y]] w (fun e w' => e = .returned (.agg #[.int .i64 p.x, .int .i64 (p.y - 1), .int .i64 (p.x - 1), .int .i64 p.y, .int .i64 (p.x + 1), .int .i64 p.y, .int .i64 p.x, .int .i64 (p.y + 1)]) ∧ Ext w w') := by
 refine calls_W (n := 28) Try.func41 rfl rfl rfl ?_
 refine sq <| rg <| bx rfl rfl rfl rfl fun w_1 b_2 x_3 l_4 B_5 => ?_
 have q_6 := x_3.size
 have z_1 := Ext.tr (Ext.rf w) x_3
 have q_7 := B_5.lt
 refine al rfl eF26 rfl rfl fun w_8 b_9 x_10 l_11 B_12 => ?_
 have q_13 := x_10.size
 have z_8 := Ext.tr z_1 x_10
 have q_14 := B_12.lt
 refine nl <| nT <| sq <| rg <| vl (fa eF0 rfl) rfl <| ?_
 have B_5 := B_5.later x_10
 refine vl (ld rfl (B_5.one eF1 rfl)) rfl <| vl (fa eF2 rfl) rfl <| vl (ld rfl (B_5.one eF1 rfl)) rfl <| vl (bsu rfl rfl (inI (by omega))) rfl <| vl (v := .agg #[.int .i64 p.x, .int .i64 (p.y - 1)]) (bd rfl (by kernel_rfl)) rfl <| vl (fa eF0 rfl) rfl <| vl (ld rfl (B_5.one eF1 rfl)) rfl <| vl (bsu rfl rfl (inI (by omega))) rfl <| vl (fa eF2 rfl) rfl <| vl (ld rfl (B_5.one eF1 rfl)) rfl <| vl (v := .agg #[.int .i64 (p.x - 1), .int .i64 p.y]) (bd rfl (by kernel_rfl)) rfl <| vl (fa eF0 rfl) rfl <| vl (ld rfl (B_5.one eF1 rfl)) rfl <| vl (bad rfl rfl (inI (by omega))) rfl <| vl (fa eF2 rfl) rfl <| vl (ld rfl (B_5.one eF1 rfl)) rfl <| vl (v := .agg #[.int .i64 (p.x + 1), .int .i64 p.y]) (bd rfl (by kernel_rfl)) rfl <| vl (fa eF0 rfl) rfl <| vl (ld rfl (B_5.one eF1 rfl)) rfl <| vl (fa eF2 rfl) rfl <| vl (ld rfl (B_5.one eF1 rfl)) rfl <| vl (bad rfl rfl (inI (by omega))) rfl <| vl (v := .agg #[.int .i64 p.x, .int .i64 (p.y + 1)]) (bd rfl (by kernel_rfl)) rfl <| vl (v := .agg #[.int .i64 p.x, .int .i64 (p.y - 1), .int .i64 (p.x - 1), .int .i64 p.y, .int .i64 (p.x + 1), .int .i64 p.y, .int .i64 p.x, .int .i64 (p.y + 1)]) (bd rfl (by kernel_rfl)) rfl <| ?_
 refine st (new := [.int .i64 p.x, .int .i64 (p.y - 1), .int .i64 (p.x - 1), .int .i64 p.y, .int .i64 (p.x + 1), .int .i64 p.y, .int .i64 p.x, .int .i64 (p.y + 1)]) rfl rfl B_12 rfl eF27 rfl rfl rfl fun w_15 m_16 B_12 => ?_
 have q_18 := m_16.size
 have z_15 := Ext.mod z_8 m_16 (ge1 (by omega))
 have q_17 := m_16.size
 refine nl <| nT <| rt <| tR (.cell rfl (B_12.all eF28 eF27) .nil) <| ?_
 exact ⟨rfl, z_15⟩
end
section
open Go.RowKit
theorem fU {P : Program} {n : Nat} {ops : Array Oper} {Q : Exit → Act → World → Prop} {kd : Nat → Nat} {τ : List Nat} {E : List (Nat × Value)} {w0 : World} {i d : Nat} {op : Op} {ty : TypeId} {pos : String} {af : Array Edge} {j : Nat} {q : Bool} {u : Value} {oj : Oper} {dj : Nat} (hi : ops[i]? = some ⟨some d, op, ty, pos, af, some (j, q)⟩) (hk : Nat.ble (kd i) 1 = true) (hj : ops[j]? = some oj) (hdj : oj.dst = some dj) (hb : look E dj = some (gv false u)) (hd : Nat.blt d n = true)
  (h : FL P n ops Q kd τ ((d, undef) :: E) w0) : FL P n ops Q kd (i :: τ) E w0 := fun a ha => by
 have h1 := ha.g _ _ hb
 simp only [gv, Bool.false_eq_true, if_false] at h1
 have hw : Region.wanted ⟨some d, op, ty, pos, af, some (j, q)⟩ (yielded ops a.tmps) = false := by simp [Region.wanted, yielded, hj, hdj, h1, undef]
 have hk := Nat.le_of_ble_eq_true hk
 rcases Nat.lt_or_ge 0 (kd i) with h0 | h0
 ·exact ⟨_, hi, .inr (.inl ⟨by omega, undef, .inr ⟨hw, rfl⟩, h _ (ha.put hd _)⟩)⟩
 ·exact ⟨_, hi, .inl ⟨by omega, undef, .inr ⟨hw, rfl⟩, h _ (ha.put hd _)⟩⟩
end
section
open Go.RowKit
theorem ppush_any (w0 : World) (f : Fld) (P F A : Option Addr) (pc cf c b : Nat) (far : List Int) (l : List Nod) (to : Cel) (p : Cel) (d : Int) (w : World) (hx0 : Ext w0 w) (hf : f.chk = 0) (hP : repI.SHas 8 w0 P pc f.places) (HB : Blk w b [.int .i64 f.wide, .int .i64 f.high, .slice P f.places.length pc, .int .i64 to.x, .int .i64 to.y, .slice F far.length cf, .slice A l.length c] 90 (0, 0)) (hb : w0.heap.size ≤ b) (HQ : Nod.rep.SOwn 147 32 w w0.heap.size (Rep.blkOf A) A c l) (hdQ : ∀ q ∈ Rep.blkOf A, q = b → False) (hok : ∀ y ∈ l, y.ok) (hl : l.length ≤ 1000000) (hp : -500 ≤ p.x ∧ p.x ≤ 500 ∧ -500 ≤ p.y ∧ p.y ≤ 500) (ht : -500 ≤ to.x ∧ to.x ≤ 500 ∧ -500 ≤ to.y ∧ to.y ≤ 500) (hd : 0 ≤ d ∧ d ≤ 100000) :
  Calls Try.prog 67 #[.pointer (some ⟨b, 0, none⟩), .agg #[.int .i64 p.x, .int .i64 p.y], .int .i64 d] w (fun e w' => ∃ A' c', e = .returned (.tuple #[]) ∧ Blk w' b [.int .i64 f.wide, .int .i64 f.high, .slice P f.places.length pc, .int .i64 to.x, .int .i64 to.y, .slice F far.length cf, .slice A' ((Hp.push Nod.all l ⟨p, d, d + Fld.est to p⟩).length) c'] 90 (0, 0) ∧ Nod.rep.SOwn 147 32 w' w0.heap.size (Rep.blkOf A') A' c' (Hp.push Nod.all l ⟨p, d, d + Fld.est to p⟩) ∧ (∀ q ∈ Rep.blkOf A', q = b → False) ∧ (∀ q ∈ Rep.blkOf A', q ∈ Rep.blkOf A ∨ w.heap.size ≤ q) ∧ Mod (b :: Rep.blkOf A) w w') := by
 have qB := HB.lt
 obtain ⟨g1, g2, g3, g4, g5, g6⟩ := Fld.good hf
 have q0 := hx0.size
 have uHQ := fun q hq => (HQ.lt q hq).2
 have hll := HQ.has.len_le
 have hzb : ∀ q ∈ b :: Rep.blkOf A, w0.heap.size ≤ q := fun q hq => (List.mem_cons.1 hq).elim (fun h => by omega) fun h => (HQ.lt q h).1
 have hsz1 := sz_bd (to.x - p.x)
 have hsz2 := sz_bd (to.y - p.y)
 refine calls_W (n := 32) Try.func67 rfl rfl rfl ?_
 refine sq <| rg <| bx rfl rfl rfl rfl fun w_1 b_2 x_3 l_4 B_5 => ?_
 have q_6 := x_3.size
 have z_1 := (Mod.rf (b :: Rep.blkOf A) w).trans (Mod.of_ext x_3)
 have q_7 := B_5.lt
 refine nl <| nT <| sq <| ?_
 refine rd [(0, 0), (4, 0), (5, 0)] [0, 1, 2, 3, 4, 5, 6, 7, 8, 9, 10, 11, 12] (by kernel_rfl) (by kernel_rfl) ?_
 refine fq rfl rfl (fun _ x => ld rfl ((B_5.later x).all eF3 eF4)) rfl <| fw rfl rfl (fun _ => mv rfl) rfl <| fw rfl rfl (fun _ => nc rfl) rfl <| fw rfl rfl (fun _ => fa eF29 rfl) rfl <| ?_
 have HB := HB.later x_3
 refine fq rfl rfl (fun _ x => ld rfl ((HB.later x).par [.int .i64 to.x, .int .i64 to.y] eF3 eF4 rfl)) rfl <| fc rfl rfl eF30 rfl (fun _ x => apart_in p to _ (by omega) (by omega)) rfl <| fw rfl rfl (fun _ => mv rfl) rfl <| fw rfl rfl (fun _ => ex rfl rfl) rfl <| fw rfl rfl (fun _ => ex rfl rfl) rfl <| fw rfl rfl (fun _ => ex rfl rfl) rfl <| fw rfl rfl (fun _ => as_ rfl) rfl <| fw rfl rfl (fun _ => as_ rfl) rfl <| fw rfl rfl (fun _ => as_ rfl) rfl <| fn fun w_8 x_9 => ?_
 have q_10 := x_9.size
 have z_8 := z_1.trans (Mod.of_ext x_9)
 refine nT <| ?_
 refine rd [(4, 0), (12, 3)] [0, 1, 2, 3, 4, 5, 6, 7, 8, 9, 10, 11, 12] (by kernel_rfl) (by kernel_rfl) ?_
 refine fw rfl rfl (fun _ => mv rfl) rfl <| fw rfl rfl (fun _ => nc rfl) rfl <| fw rfl rfl (fun _ => fa eF31 rfl) rfl <| fw rfl rfl (fun _ => mkI (fun w => by kernel_rfl) rfl) rfl <| ?_
 have B_5 := B_5.later x_9
 refine fq rfl rfl (fun _ x => ld rfl ((B_5.later x).all eF3 eF4)) rfl <| fw rfl rfl (fun _ => mv rfl) rfl <| fw rfl rfl (fun _ => mv rfl) rfl <| fw rfl rfl (fun _ => mv rfl) rfl <| fw rfl rfl (fun _ => bmu rfl rfl (inI (by omega))) rfl <| fw rfl rfl (fun _ => bad rfl rfl (inI (by omega))) rfl <| fw (v := .agg #[.int .i64 p.x, .int .i64 p.y, .int .i64 d, .int .i64 (d + (2 * (sz (to.x - p.x) + sz (to.y - p.y))))]) rfl rfl (fun _ => bd rfl (by kernel_rfl)) rfl <| fw rfl rfl (fun _ => mkI (fun w => by kernel_rfl) rfl) rfl <| ?_
 have HQ := HQ.later (Ext.tr x_3 x_9)
 have HB := HB.later x_9
 refine fb rfl rfl rfl fun w_11 x_12 Q hK => ca eF32 rfl rfl ((xP_push b A c w0.heap.size l (.int .i64 f.wide) (.int .i64 f.high) (.slice P f.places.length pc) (.int .i64 to.x) (.int .i64 to.y) (.slice F far.length cf) ((⟨⟨p.x, p.y⟩, d, d + (2 * (sz (to.x - p.x) + sz (to.y - p.y)))⟩ : Nod)) _ (HB.later x_12) (HQ.later x_12) hok hdQ ⟨okI_iff.2 (by dsimp only; omega), okI_iff.2 (by dsimp only; omega), okI_iff.2 (by dsimp only; omega), okI_iff.2 (by dsimp only; omega)⟩ hl (by have := x_12.size; omega)).mono ?_)
 rintro e w_15 ⟨A13, c13, rfl, HB13, HQ13, hg13, m_14⟩
 refine ⟨_, rfl, hK _ _ ?_⟩
 have q_16 := x_12.size
 have z_11 := z_8.trans (Mod.of_ext x_12)
 have q_17 := m_14.size
 have z_15 := z_11.md m_14 (fun q hq => .inl hq)
 have u_18 := fun q hq => (HQ13.lt q hq).2
 refine fn fun w_19 x_20 => ?_
 have q_21 := x_20.size
 have z_19 := z_15.trans (Mod.of_ext x_20)
 refine ne <| tR .nil <| ?_
 have HQ13 := HQ13.later x_20
 have HB13 := HB13.later x_20
 exact ⟨A13, c13, rfl, HB13, HQ13, fun q hq hb => by exfalso; (exact Or.elim (hg13 q hq) (fun k_22 => by (exact hdQ q k_22 hb)) (fun k_22 => by omega)), fun q hq => (hg13 q hq).imp id fun h => by omega, z_19⟩
end
section
open Go.RowKit
abbrev PS (f : Fld) (a b : Cel) (far : List Int) (l : List Nod) (x0 : Cel) (rest : List Cel) : Prop := SI Nod.cell Nod.far Nod.all f (Fld.est b) (fun c => c = a) far l x0 rest
def Vis (f : Fld) (b : Cel) (far : List Int) : Prop := 0 ≤ f.fr far b → ∀ x, 0 ≤ f.fr far x → f.fr far x + Fld.est b x ≤ f.fr far b
structure PEnd (f : Fld) (a b : Cel) (far : List Int) : Prop where
 len : far.length = f.places.length
 spec : Gra.Spec f.adj f.kost (Fld.est b) (fun c => c = a) b (f.fr far)
 bd : ∀ c, f.fr far c ≤ 3 * (f.places.length : Int)
 gr : ∀ c, 0 ≤ f.fr far c → f.ground c = true
section
variable {f : Fld} {a b x0 : Cel} {far : List Int} {l : List Nod} {xn : Nod} {rest : List Cel}
theorem vis_new (s : PS f a b far l x0 []) (hf : f.chk = 0) (h0 : 0 < l.length) (hx : l.getD 0 default = xn) (hd : f.fr far xn.cell < 0) (hv : Vis f b far) (hc : f.fr far b < 0 ∨ xn.all ≤ f.fr far b) : Vis f b (far.set (f.at_ xn.cell) xn.far) := by
 have hm : xn ∈ l := by rw [← hx]; exact mem_dd h0
 obtain ⟨ha, hg⟩ := s.all xn hm
 have hi := Fld.ground_in hg
 have h1 := Fld.fr_set (v := xn.far) hf s.len hi
 have h2 : ∀ z, z ≠ xn.cell → f.fr (far.set (f.at_ xn.cell) xn.far) z = f.fr far z := fun z hz => Fld.fr_set_ne hf hi hz
 have hmono := fun z hz => s.inv.mono z hz (xn.cell, xn.far) (List.mem_map.2 ⟨xn, hm, rfl⟩)
 dsimp only at hmono
 intro hb z hz
 by_cases e : b = xn.cell
 ·have eb : f.fr (far.set (f.at_ xn.cell) xn.far) b = xn.far := by rw [e]; exact h1
  rw [eb]
  have e0 : Fld.est b xn.cell = 0 := by rw [← e]; exact Fld.est_self b
  by_cases ez : z = xn.cell
  ·rw [ez, h1]; omega
  ·rw [h2 z ez] at hz ⊢
   have := hmono z hz
   omega
 ·rw [h2 b e] at hb ⊢
  by_cases ez : z = xn.cell
  ·rw [ez, h1]; omega
  ·rw [h2 z ez] at hz ⊢
   exact hv hb z hz
theorem pend_of (s : PS f a b far l x0 []) (hv : Vis f b far) (he : (0 ≤ f.fr far b ∧ ∀ e ∈ l.map fun n => (n.cell, n.far), f.fr far b < e.2 + Fld.est b e.1) ∨ (l.map fun n => (n.cell, n.far)) = []) : PEnd f a b far :=
 ⟨s.len, s.inv.ends (Fld.okA f b) (Fld.est_self b) hv he, fun c => by have := s.bd c; omega, s.gr⟩
theorem pend_nil (s : PS f a b far l x0 []) (hv : Vis f b far) (h : l.length = 0) : PEnd f a b far := pend_of s hv (.inr (by rw [List.eq_nil_of_length_eq_zero h]; rfl))
theorem pend_more (s : PS f a b far l x0 []) (hv : Vis f b far) (h0 : 0 < l.length) (hb : 0 ≤ f.fr far b) (h : f.fr far b < (l.getD 0 default).all) : PEnd f a b far :=
 pend_of s hv (.inl ⟨hb, fun e he => by
  have h1 := s.least h0 e he
  rw [← (s.all _ (mem_dd h0)).1] at h1; omega⟩)
theorem PS.node (s : PS f a b far l x0 rest) (hf : f.chk = 0) (hb : f.isIn b = true) (hn : xn ∈ l) : 0 ≤ xn.cell.x ∧ xn.cell.x < f.wide ∧ 0 ≤ xn.cell.y ∧ xn.cell.y < f.high ∧ 0 ≤ xn.far ∧ xn.far ≤ 4803 ∧ 0 ≤ xn.all ∧ xn.all ≤ 5000 ∧ xn.ok := by
 obtain ⟨ha, hg⟩ := s.all xn hn
 obtain ⟨_, _, i1, i2, i3, i4⟩ := Fld.idx hf (Fld.ground_in hg)
 obtain ⟨_, _, j1, j2, j3, j4⟩ := Fld.idx hf hb
 obtain ⟨g1, g2, g3, g4, g5, g6⟩ := Fld.good hf
 obtain ⟨h1, h2⟩ := s.fa_bd (Fld.okA f b) hn
 have hl := Fld.len_le hf
 have he : 0 ≤ Fld.est b xn.cell ∧ Fld.est b xn.cell ≤ 160 := by
  refine ⟨Fld.est_nn _ _, ?_⟩
  unfold Fld.est
  have a1 := sz_bd (b.x - xn.cell.x); have a2 := sz_bd (b.y - xn.cell.y)
  rcases (show b.x - xn.cell.x < 0 ∨ 0 ≤ b.x - xn.cell.x by omega) with h | h
  ·have := a1.2.2.2 h
   rcases (show b.y - xn.cell.y < 0 ∨ 0 ≤ b.y - xn.cell.y by omega) with h' | h'
   ·have := a2.2.2.2 h'; omega
   ·have := a2.2.2.1 h'; omega
  ·have := a1.2.2.1 h
   rcases (show b.y - xn.cell.y < 0 ∨ 0 ≤ b.y - xn.cell.y by omega) with h' | h'
   ·have := a2.2.2.2 h'; omega
   ·have := a2.2.2.1 h'; omega
 refine ⟨i1, i2, i3, i4, h1, by omega, by omega, by omega, okI_iff.2 (by omega), okI_iff.2 (by omega), okI_iff.2 (by omega), okI_iff.2 (by omega)⟩
theorem fr_get (hf : f.chk = 0) (hl : far.length = f.places.length) {c : Cel} (hc : f.isIn c = true) : far[(c.y * f.wide + c.x).toNat]? = some (f.fr far c) := by
 rw [Fld.fr_in hc]
 exact get_d (u := -1) (show f.at_ c < far.length by rw [hl]; exact (Fld.at_lt hf hc).1)
theorem fr_lt (hf : f.chk = 0) (hl : far.length = f.places.length) {c : Cel} (hc : f.isIn c = true) : (c.y * f.wide + c.x).toNat < far.length ∧ 0 ≤ c.y * f.wide + c.x ∧ c.y * f.wide + c.x ≤ 1600 := by
 have h1 := Fld.at_lt hf hc
 obtain ⟨a0, a1, _⟩ := Fld.idx hf hc
 have := Fld.len_le hf
 unfold Fld.at_ at h1
 omega
theorem b3g_ (p q : Bool) : p = false ∨ (p = true ∧ q = true) ∨ (p = true ∧ q = false) := by cases p <;> cases q <;> simp
end
end
end Go.Proofs.Ytmpkaphcpaigdaa
