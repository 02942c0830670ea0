/-
  mist.seen. (Printed by bin/mist.py.)
-/
import Derived.Test.YtkijhejjnlmbmaaFnc
import Derived.Test.YtkijhejjnlmbmaaSigP
import Derived.Test.YtkijhejjnlmbmaaFldB
import Derived.Test.YtkijhejjnlmbmaaTroH
import Derived.Test.YtkijhejjnlmbmaaGooM
set_option linter.unusedVariables false
set_option linter.unusedSimpArgs false
namespace Go.Proofs.Ytkijhejjnlmbmaa
open Go.RowKit

theorem Mis_fd_api_World_0 : Fd Try.prog 46 0 0 := fun _ _ _ => by kernel_rfl
theorem Mis_ag_api_Field : Ag Try.prog 24 true := fun _ => by kernel_rfl
theorem Mis_sz_api_Field : Sz Try.prog 24 3 := fun _ => by kernel_rfl
theorem Mis_ag_api_Cell : Ag Try.prog 42 true := fun _ => by kernel_rfl
theorem Mis_sz_api_Cell : Sz Try.prog 42 2 := fun _ => by kernel_rfl
theorem Mis_en_sight_Seen : Enters Try.prog 108 := en Try.func108 (by kernel_rfl) (by kernel_rfl)
theorem Mis_zv_api_Cell : Zv Try.prog 42 (.agg #[.int .i64 0, .int .i64 0]) := fun _ => by kernel_rfl
theorem Mis_ag_S_bool : Ag Try.prog 102 false := fun _ => by kernel_rfl
theorem Mis_fd_api_Cell_1 : Fd Try.prog 42 1 1 := fun _ _ _ => by kernel_rfl
theorem Mis_ag_int : Ag Try.prog 3 false := fun _ => by kernel_rfl
theorem Mis_fd_api_Field_0 : Fd Try.prog 24 0 0 := fun _ _ _ => by kernel_rfl
theorem Mis_fd_api_Cell_0 : Fd Try.prog 42 0 0 := fun _ _ _ => by kernel_rfl
theorem Mis_sz_bool : Sz Try.prog 4 1 := fun _ => by kernel_rfl
theorem Mis_ag_api_World : Ag Try.prog 46 true := fun _ => by kernel_rfl
theorem Mis_sz_api_World : Sz Try.prog 46 9 := fun _ => by kernel_rfl
theorem Mis_en_troop_Check : Enters Try.prog 27 := en Try.func27 (by kernel_rfl) (by kernel_rfl)
theorem Mis_fd_api_World_1 : Fd Try.prog 46 1 3 := fun _ _ _ => by kernel_rfl
theorem Mis_ag_S_api_Cell : Ag Try.prog 43 false := fun _ => by kernel_rfl
theorem Mis_fd_api_Field_2 : Fd Try.prog 24 2 2 := fun _ _ _ => by kernel_rfl
theorem Mis_ag_S_int : Ag Try.prog 22 false := fun _ => by kernel_rfl
theorem Mis_ib_bool : (Try.prog.info? 4).map (fun i => (i.zero, i.size, i.bytes)) = some (some (.bool false), 1, 1) := by kernel_rfl
theorem Mis_zv_S_bool : Zv Try.prog 102 (.slice none 0 0) := fun _ => by kernel_rfl
theorem Mis_sz_S_bool : Sz Try.prog 102 1 := fun _ => by kernel_rfl
theorem Mis_en_mist_seen_1 : Enters Try.prog 107 := en Try.func107 (by kernel_rfl) (by kernel_rfl)
theorem Mis_fd_api_World_4 : Fd Try.prog 46 4 6 := fun _ _ _ => by kernel_rfl
theorem Mis_ag_S_api_Troop : Ag Try.prog 44 false := fun _ => by kernel_rfl
theorem Mis_sz_api_Troop : Sz Try.prog 51 7 := fun _ => by kernel_rfl
theorem Mis_ag_api_Troop : Ag Try.prog 51 true := fun _ => by kernel_rfl
theorem Mis_zv_api_Troop : Zv Try.prog 51 (.agg #[.int .i64 0, .int .i64 0, .int .i64 0, .int .i64 0, .int .i64 0, .int .i64 0, .int .i64 0]) := fun _ => by kernel_rfl
theorem Mis_fd_api_Troop_1 : Fd Try.prog 51 1 1 := fun _ _ _ => by kernel_rfl
theorem Mis_fd_api_Troop_3 : Fd Try.prog 51 3 3 := fun _ _ _ => by kernel_rfl
/-- Places marked. -/
def marks (f : Fld) (out : List Bool) (l : List Cel) : List Bool := l.foldl (fun o c => o.set (c.y * f.wide + c.x).toNat true) out
theorem marks_len (f : Fld) : ∀ (l : List Cel) (out : List Bool), (marks f out l).length = out.length
  | [], _ => rfl
  | c :: l, out => by show (marks f (out.set _ true) l).length = _; rw [marks_len f l, List.length_set]
theorem marks_succ {f : Fld} {out : List Bool} {l : List Cel} {k : Nat} (h : k < l.length) : marks f out (l.take (k + 1)) = (marks f out (l.take k)).set ((l.getD k default).y * f.wide + (l.getD k default).x).toNat true := by
  unfold marks; rw [take_succ_dd (d := default) h, List.foldl_append]; rfl
theorem seen_in {f : Fld} {c n : Cel} {r : Int} (hn : n ∈ seenL f c r) : f.atE n = 0 := by
  by_cases h : seenE f c r = 0
  · exact (seesE_ok (seen_sees h hn).1).2
  · unfold seenL at hn; rw [if_pos h] at hn; simp at hn
theorem seen_idx {f : Fld} {c n : Cel} {r : Int} (hn : n ∈ seenL f c r) : 0 ≤ n.x ∧ n.x < f.wide ∧ 0 ≤ n.y ∧ n.y < f.high ∧ 0 ≤ n.y * f.wide ∧ n.y * f.wide ≤ 1600 ∧ n.y * f.wide + n.x < (f.places.length : Int) ∧ f.wide ≤ 40 := by
  have h0 := seen_in hn
  obtain ⟨hc, h1, h2, h3, h4⟩ := atE_chk h0
  obtain ⟨y1, y2, y3, y4, y5, y6⟩ := Fld.good hc
  have i := Fld.idx hc (atE_zero hc h0)
  have m1 : 0 ≤ n.y * f.wide := Int.mul_nonneg h3 (by omega)
  have m2 : n.y * f.wide ≤ 40 * 40 := Int.mul_le_mul (by omega) y2 (by omega) (by omega)
  omega
def look1 (W : Wd) (p : Int) (o : List Bool) (t : Trp) : List Bool := if t.owner = p then marks W.field o (seenL W.field t.spot 5) else o
def seenK (W : Wd) (p : Int) (k : Nat) : List Bool := (W.troops.take k).foldl (look1 W p) (marks W.field (List.replicate W.field.places.length false) (seenL W.field (W.bases.getD p.toNat default) 3))
theorem look1_len (W : Wd) (p : Int) (o : List Bool) (t : Trp) : (look1 W p o t).length = o.length := by unfold look1; split <;> simp [marks_len]
theorem fold_len (W : Wd) (p : Int) : ∀ (l : List Trp) (o : List Bool), (l.foldl (look1 W p) o).length = o.length
  | [], _ => rfl
  | t :: l, o => by rw [List.foldl_cons, fold_len W p l, look1_len]
theorem seenK_len (W : Wd) (p : Int) (k : Nat) : (seenK W p k).length = W.field.places.length := by unfold seenK; rw [fold_len, marks_len, List.length_replicate]
theorem seenK_succ {W : Wd} {p : Int} {k : Nat} (h : k < W.troops.length) : seenK W p (k + 1) = look1 W p (seenK W p k) (W.troops.getD k default) := by
  unfold seenK; rw [take_succ_dd (d := default) h, List.foldl_append]; rfl
theorem seenK_yes {W : Wd} {p : Int} {k : Nat} (h : k < W.troops.length) (h1 : (W.troops.getD k default).owner = p) : seenK W p (k + 1) = marks W.field (seenK W p k) (seenL W.field (W.troops.getD k default).spot 5) := by
  rw [seenK_succ h]; unfold look1; rw [if_pos h1]
theorem seenK_no {W : Wd} {p : Int} {k : Nat} (h : k < W.troops.length) (h1 : ¬ (W.troops.getD k default).owner = p) : seenK W p (k + 1) = seenK W p k := by
  rw [seenK_succ h]; unfold look1; rw [if_neg h1]
def mistE (W : Wd) (p : Int) : Int := if W.chk ≠ 0 then W.chk else if p < 0 ∨ (W.bases.length : Int) ≤ p then 7 else 0
def mistB (W : Wd) (p : Int) : List Bool := if mistE W p ≠ 0 then [] else seenK W p W.troops.length
theorem mist_no1 {W : Wd} {p : Int} (h : ¬ W.chk = 0) : mistE W p = W.chk ∧ mistB W p = [] := by
  have e : mistE W p = W.chk := by unfold mistE; rw [if_pos h]
  exact ⟨e, by unfold mistB; rw [e, if_pos h]⟩
theorem mist_no2 {W : Wd} {p : Int} (h : W.chk = 0) (hp : p < 0 ∨ (W.bases.length : Int) ≤ p) : mistE W p = 7 ∧ mistB W p = [] := by
  have e : mistE W p = 7 := by unfold mistE; rw [if_neg (by simpa using h), if_pos hp]
  exact ⟨e, by unfold mistB; rw [e]; rfl⟩
theorem mist_ok {W : Wd} {p : Int} (h : W.chk = 0) (hp : 0 ≤ p ∧ p < (W.bases.length : Int)) : mistE W p = 0 ∧ mistB W p = seenK W p W.troops.length := by
  have e : mistE W p = 0 := by unfold mistE; rw [if_neg (by simpa using h), if_neg (by omega)]
  exact ⟨e, by unfold mistB; rw [e]; rfl⟩
set_option maxRecDepth 100000 in
set_option maxHeartbeats 400000 in
theorem look_any (a : Wd.At) (W : Wd) (x : Cel) (r : Int) (b0 bo : Nat) (A : Option Addr) (c : Nat) (out : List Bool) (w0 : World) (w : World) (hW : Wd.Has w0 a W) (hx0 : Ext w0 w) (H0 : Blk w b0 (Wd.cells a W) 46 (0, 0)) (HO : Blk w bo [.slice A out.length c] 102 (0, 0)) (hO : repB.SOwn 4 1 w w0.heap.size (Rep.blkOf A) A c out) (d0 : ∀ q ∈ Rep.blkOf A, q = b0 → False) (dO : ∀ q ∈ Rep.blkOf A, q = bo → False) (hlen : out.length = W.field.places.length) :
    Calls Try.prog 107 #[.agg #[.int .i64 x.x, .int .i64 x.y], .int .i64 r, .pointer (some ⟨b0, 0, none⟩), .pointer (some ⟨bo, 0, none⟩)] w (fun e w' => e = .returned (.tuple #[]) ∧ repB.SOwn 4 1 w' w0.heap.size (Rep.blkOf A) A c (marks W.field out (seenL W.field x r)) ∧ Mod (Rep.blkOf A) w w') := by
  have uA := fun q hq => (hO.lt q hq).2
  have lA : ∀ q ∈ Rep.blkOf A, w0.heap.size ≤ q := fun q hq => (hO.lt q hq).1
  have hx0s := hx0.size
  have hq0 := H0.lt
  have hqo := HO.lt
  refine calls_W (n := 36) Try.func107 rfl rfl rfl ?_
  refine sq <| rg <| bx rfl rfl rfl rfl fun w_1 b_2 x_3 l_4 B_5 => ?_
  have q_6 := x_3.size
  have z_1 := (Mod.rf (Rep.blkOf A) w).trans (Mod.of_ext x_3)
  have q_7 := B_5.lt
  refine nl <| nT <| sq <| rg <| vl (fa Mis_fd_api_World_0 rfl) rfl <| ?_
  have H0 := H0.later x_3
  refine vl (ld rfl (H0.par [.int .i64 W.field.wide, .int .i64 W.field.high, .slice a.P W.field.places.length a.p] Mis_ag_api_Field Mis_sz_api_Field rfl)) rfl <| vl (ld rfl (B_5.all Mis_ag_api_Cell Mis_sz_api_Cell)) rfl <| vl (mv rfl) rfl <| ca Mis_en_sight_Seen rfl rfl ((seen_any W.field x r _ _ _ (hW.P.keep (Ext.mod hx0 z_1 lA))).mono ?_)
  rintro e w_11 ⟨A_8, c_8, rfl, OS_8, x_12⟩
  refine ⟨_, rfl, ?_⟩
  have q_13 := x_12.size
  have z_11 := z_1.trans (Mod.of_ext x_12)
  have u_9 := fun q hq => (OS_8.lt q hq).2
  have lo_10 := fun q hq => (OS_8.lt q hq).1
  refine vl (mv rfl) rfl <| vl (ex rfl rfl) rfl <| vl (ex rfl rfl) rfl <| vl (as_ rfl) rfl <| vl (as_ rfl) rfl <| nl <| nT <| sq <| rg <| vl (mv rfl) rfl <| vl (ln Try.underlying43 rfl) rfl <| vl (mv rfl) rfl <| nl <| nT <| bk <| ?_
  have hO := hO.later (Ext.tr x_3 x_12)
  have H0 := H0.later x_12
  have HO := HO.later (Ext.tr x_3 x_12)
  refine lp (fun mI EI wI => ∃ k : Nat, EI = [(2, .pointer (some ⟨b0, 0, none⟩)), (3, .pointer (some ⟨bo, 0, none⟩)), (18, .slice A_8 ((seenL W.field x r).length) c_8), (19, .int .i64 ((((seenL W.field x r).length : Nat) : Int))), (20, .int .i64 (k : Int))] ∧ mI = (seenL W.field x r).length - k ∧ Mod (Rep.blkOf A) w wI ∧ Blk wI b0 (Wd.cells a W) 46 (0, 0) ∧ Blk wI bo [.slice A out.length c] 102 (0, 0) ∧ Cel.rep.SOwn 42 16 wI w_1.heap.size (Rep.blkOf A_8) A_8 c_8 (seenL W.field x r) ∧ repB.SOwn 4 1 wI w0.heap.size (Rep.blkOf A) A c (marks W.field out ((seenL W.field x r).take k)) ∧ (k ≤ (seenL W.field x r).length) ∧ (∀ q ∈ Rep.blkOf A, q = b0 → False) ∧ (∀ q ∈ Rep.blkOf A, q = bo → False) ∧ (∀ q ∈ Rep.blkOf A, q ∈ Rep.blkOf A_8 → False)) _ _ ⟨0, rfl, rfl, z_11, H0, HO, OS_8, hO, by omega, (fun q hq hb => by (exact d0 q hq hb)), (fun q hq hb => by (exact dO q hq hb)), (fun q hq hb => by (have := lo_10 q hb; (have := uA q hq; omega)))⟩ (.cons rfl (.cons rfl (.cons rfl (.cons rfl (.cons (loI rfl (by first | omega | rfl | (simp <;> omega))) .nil))))) ?_
  rintro m_18 E_19 w_17 ⟨k, rfl, rfl, z_17, H0, HO, OS_8, O1, hk, d_14, d_15, d_16⟩
  have q_20 := z_17.size
  have q_21 := H0.lt
  have q_22 := HO.lt
  have u_23 := fun q hq => (OS_8.lt q hq).2
  have u_24 := fun q hq => (O1.lt q hq).2
  have hol := marks_len W.field ((seenL W.field x r).take k) out
  have hsl := (OS_8).has.len_le
  refine sq <| rg <| vl (blt rfl rfl) rfl <| nl <| nT <| sq <| ?_
  refine clt rfl (fun h_25 => ?_) (fun h_25 => ?_)
  · obtain ⟨n1, n2, n3, n4, n5, n6, n7, n8⟩ := seen_idx (mem_dd (d := default) (show k < (seenL W.field x r).length by omega))
    refine sk <| nT <| sq <| bk <| sq <| rg <| vl (iA k Try.underlying43 Mis_sz_api_Cell rfl rfl (OS_8.has.adr (Nat.zero_lt_of_lt (show k < _ from (by omega)))) rfl (by omega)) rfl <| vl (ld rfl (Rep.SHas.elt hcC (OS_8.has.adh (Nat.zero_lt_of_lt (show k < _ from (by omega)))) (get_d (l := seenL W.field x r) (u := default) (by omega)) Mis_ag_api_Cell Mis_sz_api_Cell)) rfl <| al rfl Mis_zv_api_Cell rfl rfl fun w_26 b_27 x_28 l_29 B_30 => ?_
    have q_31 := x_28.size
    have z_26 := z_17.trans (Mod.of_ext x_28)
    have q_32 := B_30.lt
    refine st (new := [.int .i64 (((seenL W.field x r).getD k default).x), .int .i64 (((seenL W.field x r).getD k default).y)]) rfl rfl B_30 rfl Mis_sz_api_Cell rfl rfl rfl fun w_33 m_34 B_30 => ?_
    have q_36 := m_34.size
    have z_33 := z_26.md m_34 (fun q hq => .inr (by have := List.mem_singleton.1 hq; omega))
    have q_35 := m_34.size
    refine nl <| nT <| rg <| ?_
    have HO := HO.later x_28
    have HO := HO.mod m_34 (by simp only [List.mem_singleton]; omega)
    refine vl (ld rfl (HO.one Mis_ag_S_bool rfl)) rfl <| vl (fa Mis_fd_api_Cell_1 rfl) rfl <| vl (ld rfl (B_30.one Mis_ag_int rfl)) rfl <| vl (fa Mis_fd_api_World_0 rfl) rfl <| vl (fa Mis_fd_api_Field_0 rfl) rfl <| ?_
    have H0 := H0.later x_28
    have H0 := H0.mod m_34 (by simp only [List.mem_singleton]; omega)
    refine vl (ld rfl (H0.one Mis_ag_int rfl)) rfl <| vl (bmu rfl rfl (inI (by omega))) rfl <| vl (fa Mis_fd_api_Cell_0 rfl) rfl <| vl (ld rfl (B_30.one Mis_ag_int rfl)) rfl <| vl (bad rfl rfl (inI (by omega))) rfl <| ?_
    have O1 := O1.later x_28
    have O1 := O1.mod m_34 (fun q hq h => by have hb := List.mem_singleton.1 h; exfalso; (have := u_24 q hq; omega))
    refine vl (iA ((((((seenL W.field x r).getD k default).y) * W.field.wide) + (((seenL W.field x r).getD k default).x)).toNat) Try.underlying102 Mis_sz_bool rfl rfl (O1.has.adr (Nat.zero_lt_of_lt (show (((((seenL W.field x r).getD k default).y) * W.field.wide) + (((seenL W.field x r).getD k default).x)).toNat < _ from (by (try rw [marks_len]); omega)))) (by omega) (by (try rw [marks_len]); omega)) rfl <| so (q' := true) (j := 0) (i := ((((((seenL W.field x r).getD k default).y) * W.field.wide) + (((seenL W.field x r).getD k default).x)).toNat)) O1 Rep.flat_bare (get_d (l := marks W.field out ((seenL W.field x r).take k)) (u := false) (by (try rw [marks_len]); omega)) rfl rfl rfl rfl (fun _ cs h => by have ok_ := (show _ ∧ _ from h).2; obtain rfl := hcB h; exact ⟨rfl, trivial⟩) rfl rfl Mis_sz_bool fun w_37 m_38 O_39 => ?_
    have q_40 := m_38.size
    have z_37 := z_33.md m_38 (fun q hq => .inl hq)
    have q_41 := m_38.size
    refine nl <| nB <| nT <| rg <| vl (bad rfl rfl (inI (by omega))) rfl <| vl (mv rfl) rfl <| nl <| ?_
    have e1 : marks W.field out ((seenL W.field x r).take (k + 1)) = (marks W.field out ((seenL W.field x r).take k)).set ((((((seenL W.field x r).getD k default).y) * W.field.wide) + (((seenL W.field x r).getD k default).x)).toNat) true := marks_succ (by omega)
    have H0 := H0.mod m_38 (fun hq => d_14 _ hq rfl)
    have HO := HO.mod m_38 (fun hq => d_15 _ hq rfl)
    have OS_8 := OS_8.later x_28
    have OS_8 := OS_8.mod m_34 (fun q hq h => by have hb := List.mem_singleton.1 h; exfalso; (have := u_23 q hq; have := u_9 q hq; omega))
    have OS_8 := OS_8.mod m_38 (fun q hq h => by exfalso; (exact d_16 q h hq))
    exact nI _ _ ⟨k + 1, rfl, rfl, z_37, H0, HO, OS_8, (by rw [e1]; exact O_39), by omega, (fun q hq hb => by (exact d_14 q hq hb)), (fun q hq hb => by (exact d_15 q hq hb)), (fun q hq hb => by (exact d_16 q hq hb))⟩ (by omega) (.cons rfl (.cons rfl (.cons rfl (.cons rfl (.cons (loI rfl (by first | omega | rfl | (simp <;> omega))) .nil)))))
  · refine xt <| xT <| xK <| xB <| ne <| tR .nil <| ?_
    have ek : k = (seenL W.field x r).length := by omega
    subst ek
    have hF := O1
    rw [List.take_length] at hF
    exact ⟨rfl, hF, z_17⟩
set_option maxRecDepth 100000 in
set_option maxHeartbeats 400000 in
theorem mseen_any (a : Wd.At) (W : Wd) (p : Int) (w : World) (hW : Wd.Has w a W) :
    Calls Try.prog 64 #[.agg ((Wd.cells a W).toArray), .int .i64 p] w (fun e w' => ∃ A c, e = .returned (.tuple #[.slice A (mistB W p).length c, .int .i64 (mistE W p)]) ∧ repB.SOwn 4 1 w' w.heap.size (Rep.blkOf A) A c (mistB W p) ∧ Ext w w') := by
  refine calls_W (n := 55) Try.func64 rfl rfl rfl ?_
  refine sq <| rg <| bx rfl rfl rfl rfl fun w_1 b_2 x_3 l_4 B_5 => ?_
  have q_6 := x_3.size
  have z_1 := Ext.tr (Ext.rf w) x_3
  have q_7 := B_5.lt
  refine vl (as_ rfl) rfl <| vl (as_ rfl) rfl <| nl <| nT <| sq <| sq <| rg <| vl (ld rfl (B_5.all Mis_ag_api_World Mis_sz_api_World)) rfl <| ca Mis_en_troop_Check rfl rfl ((check_any a W _ (hW.keep z_1)).mono ?_)
  rintro e w_8 ⟨rfl, x_9⟩
  refine ⟨_, rfl, ?_⟩
  have q_10 := x_9.size
  have z_8 := Ext.tr z_1 x_9
  refine vl (as_ rfl) rfl <| nl <| nT <| sq <| rg <| vl (mv rfl) rfl <| vl (bne rfl rfl) rfl <| nl <| nT <| ?_
  refine cne rfl (fun h_11 => ?_) (fun h_11 => ?_)
  · refine sq <| rg <| vl (mv rfl) rfl <| vl (as_ rfl) rfl <| vl (as_ rfl) rfl <| nl <| nT <| rt <| tT <| tR (.tmp rfl (.tmp rfl .nil)) <| ?_
    obtain ⟨e1, e2⟩ := mist_no1 (p := p) h_11
    exact ⟨none, 0, by rw [e1, e2]; rfl, by rw [e2]; exact Rep.SOwn.nil _, z_8⟩
  · have hG := Good.of_chk (by simpa using h_11)
    have hnb := hG.nb
    have hnt := hG.nt
    have hfl := Fld.len_le hG.field
    refine sk <| nT <| sq <| sq <| rg <| vl (mv rfl) rfl <| vl (blt rfl rfl) rfl <| vl (mv rfl) rfl <| vQ rfl rfl rfl rfl (fun hc => mv rfl) rfl <| vQ rfl rfl rfl rfl (fun hc => fa Mis_fd_api_World_1 rfl) rfl <| ?_
    have B_5 := B_5.later x_9
    refine vQ rfl rfl rfl rfl (fun hc => ld (gt hc rfl) (B_5.one Mis_ag_S_api_Cell rfl)) rfl <| vQ rfl rfl rfl rfl (fun hc => ln Try.underlying43 (gt hc rfl)) rfl <| vQ rfl rfl rfl rfl (fun hc => bge (gt hc rfl) (gt hc rfl)) rfl <| vl (pO rfl rfl rfl rfl) rfl <| nl <| nT <| ?_
    refine cb rfl (fun h_12 => ?_) (fun h_12 => ?_)
    · simp only [Bool.or_eq_true, Bool.or_eq_false_iff, Bool.and_eq_true, Bool.and_eq_false_iff, decide_eq_true_eq, decide_eq_false_iff_not, beq_iff_eq, bne_iff_ne, beq_eq_false_iff_ne, bne_eq_false_iff_eq, Bool.not_eq_true', Bool.not_eq_false', Bool.not_eq_true, Bool.not_eq_false, Int.not_lt, Int.not_le, Nat.not_lt, Nat.not_le, ne_eq, Classical.not_not] at h_12
      refine sq <| rg <| vl (as_ rfl) rfl <| vl (as_ rfl) rfl <| nl <| nT <| rt <| tT <| tR (.tmp rfl (.tmp rfl .nil)) <| ?_
      obtain ⟨e1, e2⟩ := mist_no2 h_11 h_12
      exact ⟨none, 0, by rw [e1, e2]; rfl, by rw [e2]; exact Rep.SOwn.nil _, z_8⟩
    · simp only [Bool.or_eq_true, Bool.or_eq_false_iff, Bool.and_eq_true, Bool.and_eq_false_iff, decide_eq_true_eq, decide_eq_false_iff_not, beq_iff_eq, bne_iff_ne, beq_eq_false_iff_ne, bne_eq_false_iff_eq, Bool.not_eq_true', Bool.not_eq_false', Bool.not_eq_true, Bool.not_eq_false, Int.not_lt, Int.not_le, Nat.not_lt, Nat.not_le, ne_eq, Classical.not_not] at h_12
      refine sk <| nT <| sq <| rg <| vl (fa Mis_fd_api_World_0 rfl) rfl <| vl (fa Mis_fd_api_Field_2 rfl) rfl <| vl (ld rfl (B_5.one Mis_ag_S_int rfl)) rfl <| vl (ln Try.underlying22 rfl) rfl <| mO (R := repB) (by_ := 1) (B := w.heap.size) (c := W.field.places.length) (zv := (.bool false)) (q := false) Rep.flat_plain Try.underlying102 Mis_ib_bool rfl rfl (fun j u h => raw0B j u h) (fun _ => ⟨rfl, trivial⟩) rfl rfl rfl (by omega) (by omega) (by omega) fun w_13 b_14 x_15 l_16 O_17 => ?_
      have q_18 := x_15.size
      have z_13 := Ext.tr z_8 x_15
      have u_19 := fun q hq => (O_17.lt q hq).2
      have lo_20 : ∀ q ∈ Rep.blkOf (some ⟨b_14, 0, none⟩), b_14 ≤ q := fun q hq => Nat.le_of_eq (List.mem_singleton.1 hq).symm
      refine al rfl Mis_zv_S_bool rfl rfl fun w_21 b_22 x_23 l_24 B_25 => ?_
      have q_26 := x_23.size
      have z_21 := Ext.tr z_13 x_23
      have q_27 := B_25.lt
      refine st (new := [.slice (some ⟨b_14, 0, none⟩) W.field.places.length W.field.places.length]) rfl rfl B_25 rfl Mis_sz_S_bool rfl rfl rfl fun w_28 m_29 B_25 => ?_
      have q_31 := m_29.size
      have z_28 := Ext.mod z_21 m_29 (by simp only [List.mem_singleton, forall_eq]; omega)
      have q_30 := m_29.size
      refine nl <| nT <| sq <| rg <| vl (mf rfl rfl) rfl <| vl (as_ rfl) rfl <| nl <| nT <| sq <| rg <| vl (mv rfl) rfl <| vl (fa Mis_fd_api_World_1 rfl) rfl <| ?_
      have B_5 := B_5.later (Ext.tr x_15 x_23)
      have B_5 := B_5.mod m_29 (by simp only [List.mem_singleton]; omega)
      refine vl (ld rfl (B_5.one Mis_ag_S_api_Cell rfl)) rfl <| vl (mv rfl) rfl <| vl (iA p.toNat Try.underlying43 Mis_sz_api_Cell rfl rfl ((hW.B.keep z_28).adr (Nat.zero_lt_of_lt (show p.toNat < _ from (by omega)))) (by omega) (by omega)) rfl <| vl (ld rfl (Rep.SHas.elt hcC ((hW.B.keep z_28).adh (Nat.zero_lt_of_lt (show p.toNat < _ from (by omega)))) (get_d (l := W.bases) (u := default) (by omega)) Mis_ag_api_Cell Mis_sz_api_Cell)) rfl <| ?_
      have O_17 := O_17.later x_23
      have O_17 := O_17.mod m_29 (fun q hq h => by have hb := List.mem_singleton.1 h; exfalso; (have := u_19 q hq; omega))
      have d_33 : ∀ q ∈ Rep.blkOf (some ⟨b_14, 0, none⟩), q = b_2 → False := fun q hq hb => by (have := lo_20 q hq; omega)
      have d_34 : ∀ q ∈ Rep.blkOf (some ⟨b_14, 0, none⟩), q = b_22 → False := fun q hq hb => by (have := u_19 q hq; omega)
      refine cv Mis_en_mist_seen_1 rfl rfl rfl ((look_any a W (W.bases.getD p.toNat default) 3 b_2 b_22 _ _ _ w _ hW z_28 B_5 (by simpa [seenK_len] using B_25) O_17 d_33 d_34 (by first | exact seenK_len _ _ _ | simp only [marks_len, List.length_replicate])).mono ?_)
      rintro e w_36 ⟨rfl, O_32, m_35⟩
      refine ⟨_, rfl, ?_⟩
      have q_37 := m_35.size
      have z_36 := Ext.mod z_28 m_35 (fun q hq => (O_17.lt q hq).1)
      refine nl <| nT <| sq <| sq <| rg <| vl (fa Mis_fd_api_World_4 rfl) rfl <| ?_
      have d_38 : ∀ q ∈ Rep.blkOf (some ⟨b_14, 0, none⟩), q = b_2 → False := fun q hq hb => by (have := lo_20 q hq; omega)
      have B_5 := B_5.mod m_35 (fun hq => d_38 _ hq rfl)
      refine vl (ld rfl (B_5.one Mis_ag_S_api_Troop rfl)) rfl <| vl (ln Try.underlying44 rfl) rfl <| vl (mv rfl) rfl <| nl <| nT <| bk <| ?_
      have d_42 : ∀ q ∈ Rep.blkOf (some ⟨b_14, 0, none⟩), q = b_22 → False := fun q hq hb => by (have := u_19 q hq; omega)
      have B_25 := B_25.mod m_35 (fun hq => d_42 _ hq rfl)
      refine lp (fun mI EI wI => ∃ k : Nat, EI = [(1, .int .i64 p), (4, .slice none 0 0), (5, .int .i64 0), (7, .pointer (some ⟨b_22, 0, none⟩)), (8, .func (.func 107) #[] #[.pointer (some ⟨b_2, 0, none⟩), .pointer (some ⟨b_22, 0, none⟩)]), (39, .slice a.T W.troops.length a.t), (40, .int .i64 (W.troops.length : Int)), (41, .int .i64 (k : Int))] ∧ mI = W.troops.length - k ∧ Ext w wI ∧ Blk wI b_2 (Wd.cells a W) 46 (0, 0) ∧ Blk wI b_22 [.slice (some ⟨b_14, 0, none⟩) W.field.places.length W.field.places.length] 102 (0, 0) ∧ repB.SOwn 4 1 wI w.heap.size (Rep.blkOf (some ⟨b_14, 0, none⟩)) (some ⟨b_14, 0, none⟩) W.field.places.length (seenK W p k) ∧ (k ≤ W.troops.length) ∧ (∀ q ∈ Rep.blkOf (some ⟨b_14, 0, none⟩), q = b_2 → False) ∧ (∀ q ∈ Rep.blkOf (some ⟨b_14, 0, none⟩), q = b_22 → False)) _ _ ⟨0, rfl, rfl, z_36, B_5, B_25, O_32, by omega, (fun q hq hb => by (exact d_38 q hq hb)), (fun q hq hb => by (have := u_19 q hq; omega))⟩ (.cons rfl (.cons rfl (.cons rfl (.cons rfl (.cons rfl (.cons rfl (.cons rfl (.cons (loI rfl (by first | omega | rfl | (simp <;> omega))) .nil)))))))) ?_
      rintro m_43 E_44 w_41 ⟨k, rfl, rfl, z_41, B_5, B_25, O1, hk, d_39, d_40⟩
      have q_45 := z_41.size
      have q_46 := B_5.lt
      have q_47 := B_25.lt
      have u_48 := fun q hq => (O1.lt q hq).2
      refine sq <| rg <| vl (blt rfl rfl) rfl <| nl <| nT <| sq <| ?_
      refine clt rfl (fun h_49 => ?_) (fun h_49 => ?_)
      · refine sk <| nT <| sq <| bk <| sq <| rg <| vl (iA k Try.underlying44 Mis_sz_api_Troop rfl rfl ((hW.T.keep z_41).adr (Nat.zero_lt_of_lt (show k < _ from (by omega)))) rfl (by omega)) rfl <| vl (ld rfl (Rep.SHas.elt hcT ((hW.T.keep z_41).adh (Nat.zero_lt_of_lt (show k < _ from (by omega)))) (get_d (l := W.troops) (u := default) (by omega)) Mis_ag_api_Troop Mis_sz_api_Troop)) rfl <| al rfl Mis_zv_api_Troop rfl rfl fun w_50 b_51 x_52 l_53 B_54 => ?_
        have q_55 := x_52.size
        have z_50 := Ext.tr z_41 x_52
        have q_56 := B_54.lt
        refine st (new := [.int .i64 ((W.troops.getD k default).id), .int .i64 ((W.troops.getD k default).owner), .int .i64 ((W.troops.getD k default).kind), .int .i64 ((W.troops.getD k default).spot.x), .int .i64 ((W.troops.getD k default).spot.y), .int .i64 ((W.troops.getD k default).life), .int .i64 ((W.troops.getD k default).load)]) rfl rfl B_54 rfl Mis_sz_api_Troop rfl rfl rfl fun w_57 m_58 B_54 => ?_
        have q_60 := m_58.size
        have z_57 := Ext.mod z_50 m_58 (by simp only [List.mem_singleton, forall_eq]; omega)
        have q_59 := m_58.size
        refine nl <| nT <| sq <| rg <| vl (fa Mis_fd_api_Troop_1 rfl) rfl <| vl (ld rfl (B_54.one Mis_ag_int rfl)) rfl <| vl (mv rfl) rfl <| vl (beq rfl rfl) rfl <| nl <| nT <| ?_
        refine ceq rfl (fun h_61 => ?_) (fun h_61 => ?_)
        · refine rg <| vl (mv rfl) rfl <| vl (fa Mis_fd_api_Troop_3 rfl) rfl <| vl (ld rfl (B_54.par [.int .i64 ((W.troops.getD k default).spot.x), .int .i64 ((W.troops.getD k default).spot.y)] Mis_ag_api_Cell Mis_sz_api_Cell rfl)) rfl <| ?_
          have B_5 := B_5.later x_52
          have B_5 := B_5.mod m_58 (by simp only [List.mem_singleton]; omega)
          have B_25 := B_25.later x_52
          have B_25 := B_25.mod m_58 (by simp only [List.mem_singleton]; omega)
          have O1 := O1.later x_52
          have O1 := O1.mod m_58 (fun q hq h => by have hb := List.mem_singleton.1 h; exfalso; (have := u_48 q hq; omega))
          have d_63 : ∀ q ∈ Rep.blkOf (some ⟨b_14, 0, none⟩), q = b_2 → False := fun q hq hb => by (exact d_39 q hq hb)
          have d_64 : ∀ q ∈ Rep.blkOf (some ⟨b_14, 0, none⟩), q = b_22 → False := fun q hq hb => by (exact d_40 q hq hb)
          refine cv Mis_en_mist_seen_1 rfl rfl rfl ((look_any a W ((⟨(W.troops.getD k default).spot.x, (W.troops.getD k default).spot.y⟩ : Cel)) 5 b_2 b_22 _ _ _ w _ hW z_57 B_5 (by simpa [seenK_len] using B_25) O1 d_63 d_64 (by first | exact seenK_len _ _ _ | simp only [marks_len, List.length_replicate])).mono ?_)
          rintro e w_66 ⟨rfl, O_62, m_65⟩
          refine ⟨_, rfl, ?_⟩
          have q_67 := m_65.size
          have z_66 := Ext.mod z_57 m_65 (fun q hq => (O1.lt q hq).1)
          refine nl <| nB <| nT <| rg <| vl (bad rfl rfl (inI (by omega))) rfl <| vl (mv rfl) rfl <| nl <| ?_
          have e1 : seenK W p (k + 1) = marks W.field (seenK W p k) (seenL W.field ((⟨(W.troops.getD k default).spot.x, (W.troops.getD k default).spot.y⟩ : Cel)) 5) := seenK_yes (by omega) h_61
          have B_5 := B_5.mod m_65 (fun hq => d_39 _ hq rfl)
          have B_25 := B_25.mod m_65 (fun hq => d_40 _ hq rfl)
          exact nI _ _ ⟨k + 1, rfl, rfl, z_66, B_5, B_25, (by rw [e1]; exact O_62), by omega, (fun q hq hb => by (exact d_39 q hq hb)), (fun q hq hb => by (exact d_40 q hq hb))⟩ (by omega) (.cons rfl (.cons rfl (.cons rfl (.cons rfl (.cons rfl (.cons rfl (.cons rfl (.cons (loI rfl (by first | omega | rfl | (simp <;> omega))) .nil))))))))
        · refine sk <| nB <| nT <| rg <| vl (bad rfl rfl (inI (by omega))) rfl <| vl (mv rfl) rfl <| nl <| ?_
          have e1 : seenK W p (k + 1) = seenK W p k := seenK_no (by omega) h_61
          have B_5 := B_5.later x_52
          have B_5 := B_5.mod m_58 (by simp only [List.mem_singleton]; omega)
          have B_25 := B_25.later x_52
          have B_25 := B_25.mod m_58 (by simp only [List.mem_singleton]; omega)
          have O1 := O1.later x_52
          have O1 := O1.mod m_58 (fun q hq h => by have hb := List.mem_singleton.1 h; exfalso; (have := u_48 q hq; omega))
          exact nI _ _ ⟨k + 1, rfl, rfl, z_57, B_5, B_25, (by rw [e1]; exact O1), by omega, (fun q hq hb => by (exact d_39 q hq hb)), (fun q hq hb => by (exact d_40 q hq hb))⟩ (by omega) (.cons rfl (.cons rfl (.cons rfl (.cons rfl (.cons rfl (.cons rfl (.cons rfl (.cons (loI rfl (by first | omega | rfl | (simp <;> omega))) .nil))))))))
      · refine xt <| xT <| xK <| xB <| nT <| sq <| rg <| vl (ld rfl (B_25.one Mis_ag_S_bool rfl)) rfl <| vl (as_ rfl) rfl <| vl (as_ rfl) rfl <| nl <| nT <| rt <| tR (.tmp rfl (.tmp rfl .nil)) <| ?_
        have ek : k = W.troops.length := by omega
        subst ek
        obtain ⟨e1, e2⟩ := mist_ok h_11 h_12
        exact ⟨_, _, by rw [e1, e2, seenK_len]; rfl, by rw [e2]; exact O1, z_41⟩
end Go.Proofs.Ytkijhejjnlmbmaa
