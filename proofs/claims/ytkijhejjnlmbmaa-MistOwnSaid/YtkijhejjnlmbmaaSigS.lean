/-
  sight.Seen. (Printed by bin/sights.py.)
-/
import Derived.Test.YtkijhejjnlmbmaaSigG
set_option linter.unusedVariables false
set_option linter.unusedSimpArgs false
namespace Go.Proofs.Ytkijhejjnlmbmaa
open Go.RowKit

theorem SigS_ag_api_Field : Ag Try.prog 24 true := fun _ => by kernel_rfl
theorem SigS_sz_api_Field : Sz Try.prog 24 3 := fun _ => by kernel_rfl
theorem SigS_ag_api_Cell : Ag Try.prog 42 true := fun _ => by kernel_rfl
theorem SigS_sz_api_Cell : Sz Try.prog 42 2 := fun _ => by kernel_rfl
theorem SigS_en_field_At : Enters Try.prog 24 := en Try.func24 (by kernel_rfl) (by kernel_rfl)
theorem SigS_fd_api_Cell_1 : Fd Try.prog 42 1 1 := fun _ _ _ => by kernel_rfl
theorem SigS_ag_int : Ag Try.prog 3 false := fun _ => by kernel_rfl
theorem SigS_fd_api_Field_1 : Fd Try.prog 24 1 1 := fun _ _ _ => by kernel_rfl
theorem SigS_fd_api_Cell_0 : Fd Try.prog 42 0 0 := fun _ _ _ => by kernel_rfl
theorem SigS_fd_api_Field_0 : Fd Try.prog 24 0 0 := fun _ _ _ => by kernel_rfl
theorem SigS_zv_api_Cell : Zv Try.prog 42 (.agg #[.int .i64 0, .int .i64 0]) := fun _ => by kernel_rfl
theorem SigS_en_sight_bare : Enters Try.prog 146 := en Try.func146 (by kernel_rfl) (by kernel_rfl)
theorem SigS_el_S_api_Cell : ElT Try.prog Cel.rep 43 42 16 := ElT.mk_ (z := Cel.zero) (k := 2) Try.underlying43 Cel.info rfl rfl (by decide) Cel.zero_raw
theorem atE_chk {f : Fld} {c : Cel} (h : f.atE c = 0) : f.chk = 0 ∧ 0 ≤ c.x ∧ c.x < f.wide ∧ 0 ≤ c.y ∧ c.y < f.high := by
  have hc : f.chk = 0 := by
    cases hd : decide (f.chk = 0) with
    | true => simpa using hd
    | false => rw [(Fld.at_bad (by simpa using hd)).1] at h; exact h
  have hi := Fld.idx hc (atE_zero hc h)
  exact ⟨hc, hi.2.2⟩
def seenH (f : Fld) (c : Cel) (r : Int) : Nat := (min (f.high - 1) (c.y + r) - max 0 (c.y - r) + 1).toNat
def seenW (f : Fld) (c : Cel) (r : Int) : Nat := (min (f.wide - 1) (c.x + r) - max 0 (c.x - r) + 1).toNat
def seenAt (c : Cel) (r : Int) (k j : Nat) : Cel := ⟨max 0 (c.x - r) + (j : Int), max 0 (c.y - r) + (k : Int)⟩
def seenB (f : Fld) (c n : Cel) : Bool := bareC f c n || bareC f n c
def seenRow (f : Fld) (c : Cel) (r : Int) (k j : Nat) : List Cel := ((List.range j).map (seenAt c r k)).filter (seenB f c)
def seenTo (f : Fld) (c : Cel) (r : Int) (k : Nat) : List Cel := (List.range k).flatMap fun i => seenRow f c r i (seenW f c r)
theorem seenTo_succ (f : Fld) (c : Cel) (r : Int) (k : Nat) : seenTo f c r (k + 1) = seenTo f c r k ++ seenRow f c r k (seenW f c r) := by unfold seenTo; rw [List.range_succ, List.flatMap_append]; simp
theorem seenRow_0 (f : Fld) (c : Cel) (r : Int) (k : Nat) : seenRow f c r k 0 = [] := rfl
theorem seenRow_yes {f : Fld} {c : Cel} {r : Int} {k j : Nat} (h : seenB f c (seenAt c r k j) = true) : seenRow f c r k (j + 1) = seenRow f c r k j ++ [seenAt c r k j] := by
  unfold seenRow; rw [List.range_succ, List.map_append, List.filter_append, List.map_cons, List.map_nil, List.filter_cons, if_pos h]; rfl
theorem seenRow_no {f : Fld} {c : Cel} {r : Int} {k j : Nat} (h : seenB f c (seenAt c r k j) = false) : seenRow f c r k (j + 1) = seenRow f c r k j := by
  unfold seenRow; rw [List.range_succ, List.map_append, List.filter_append, List.map_cons, List.map_nil, List.filter_cons, if_neg (by rw [h]; decide)]; simp
theorem seenRow_len (f : Fld) (c : Cel) (r : Int) (k j : Nat) : (seenRow f c r k j).length ≤ j := by unfold seenRow; exact Nat.le_trans (List.length_filter_le _ _) (by simp)
theorem seenTo_len (f : Fld) (c : Cel) (r : Int) : ∀ k, (seenTo f c r k).length ≤ k * seenW f c r
  | 0 => Nat.zero_le _
  | k + 1 => by
    have h1 := seenTo_len f c r k
    have h2 := seenRow_len f c r k (seenW f c r)
    rw [seenTo_succ, List.length_append, Nat.succ_mul]; omega
def seenE (f : Fld) (c : Cel) (r : Int) : Int := if f.atE c ≠ 0 then f.atE c else if r < 0 ∨ 12 < r then 1 else 0
def seenL (f : Fld) (c : Cel) (r : Int) : List Cel := if seenE f c r ≠ 0 then [] else seenTo f c r (seenH f c r)
theorem seen_ok {f : Fld} {c : Cel} {r : Int} (h : f.atE c = 0) (hr : 0 ≤ r ∧ r ≤ 12) : seenE f c r = 0 ∧ seenL f c r = seenTo f c r (seenH f c r) := by
  have e : seenE f c r = 0 := by unfold seenE; rw [if_neg (by simpa using h), if_neg (by omega)]
  exact ⟨e, by unfold seenL; rw [if_neg (by simpa using e)]⟩
theorem seen_no1 {f : Fld} {c : Cel} {r : Int} (h : ¬ f.atE c = 0) : seenE f c r = f.atE c ∧ seenL f c r = [] := by
  have e : seenE f c r = f.atE c := by unfold seenE; rw [if_pos h]
  exact ⟨e, by unfold seenL; rw [e, if_pos h]⟩
theorem seen_no2 {f : Fld} {c : Cel} {r : Int} (h : f.atE c = 0) (hr : r < 0 ∨ 12 < r) : seenE f c r = 1 ∧ seenL f c r = [] := by
  have e : seenE f c r = 1 := by unfold seenE; rw [if_neg (by simpa using h), if_pos hr]
  exact ⟨e, by unfold seenL; rw [e]; rfl⟩
set_option maxRecDepth 100000 in
set_option maxHeartbeats 400000 in
theorem seen_any (f : Fld) (c : Cel) (r : Int) (A : Option Addr) (cp : Nat) (w : World) (hP : repI.SHas 8 w A cp f.places) :
    Calls Try.prog 108 #[.agg #[.int .i64 f.wide, .int .i64 f.high, .slice A f.places.length cp], .agg #[.int .i64 c.x, .int .i64 c.y], .int .i64 r] w (fun e w' => ∃ A c', e = .returned (.tuple #[.slice A (seenL f c r).length c', .int .i64 (seenE f c r)]) ∧ Cel.rep.SOwn 42 16 w' w.heap.size (Rep.blkOf A) A c' (seenL f c r) ∧ Ext w w') := by
  refine calls_W (n := 81) Try.func108 rfl rfl rfl ?_
  refine sq <| rg <| bx rfl rfl rfl rfl fun w_1 b_2 x_3 l_4 B_5 => ?_
  have q_6 := x_3.size
  have z_1 := Ext.tr (Ext.rf w) x_3
  have q_7 := B_5.lt
  refine bx rfl rfl rfl rfl fun w_8 b_9 x_10 l_11 B_12 => ?_
  have q_13 := x_10.size
  have z_8 := Ext.tr z_1 x_10
  have q_14 := B_12.lt
  refine vl (as_ rfl) rfl <| vl (as_ rfl) rfl <| nl <| nT <| sq <| sq <| rg <| ?_
  have B_5 := B_5.later x_10
  refine vl (ld rfl (B_5.all SigS_ag_api_Field SigS_sz_api_Field)) rfl <| vl (ld rfl (B_12.all SigS_ag_api_Cell SigS_sz_api_Cell)) rfl <| ca SigS_en_field_At rfl rfl ((fldAt2 f c _ _ _ (hP.keep z_8)).mono ?_)
  rintro e w_15 ⟨rfl, x_16⟩
  refine ⟨_, rfl, ?_⟩
  have q_17 := x_16.size
  have z_15 := Ext.tr z_8 x_16
  refine vl (mv rfl) rfl <| vl (ex rfl rfl) rfl <| vl (ex rfl rfl) rfl <| vl (as_ rfl) rfl <| vl (as_ rfl) rfl <| nl <| nT <| sq <| rg <| vl (mv rfl) rfl <| vl (bne rfl rfl) rfl <| nl <| nT <| ?_
  refine cne rfl (fun h_18 => ?_) (fun h_18 => ?_)
  · refine sq <| rg <| vl (mv rfl) rfl <| vl (as_ rfl) rfl <| vl (as_ rfl) rfl <| nl <| nT <| rt <| tT <| tR (.tmp rfl (.tmp rfl .nil)) <| ?_
    obtain ⟨e1, e2⟩ := seen_no1 (r := r) h_18
    exact ⟨none, 0, by rw [e1, e2]; rfl, by rw [e2]; exact Rep.SOwn.nil _, z_15⟩
  · obtain ⟨hc0, hn⟩ := atE_chk h_18
    obtain ⟨y1, y2, y3, y4, y5, y6⟩ := Fld.good hc0
    refine sk <| nT <| sq <| sq <| rg <| vl (mv rfl) rfl <| vl (blt rfl rfl) rfl <| vl (mv rfl) rfl <| vQ rfl rfl rfl rfl (fun hc => mv rfl) rfl <| vQ rfl rfl rfl rfl (fun hc => bgt (gt hc rfl) rfl) rfl <| vl (pO rfl rfl rfl rfl) rfl <| nl <| nT <| ?_
    refine cb rfl (fun h_19 => ?_) (fun h_19 => ?_)
    · simp only [Bool.or_eq_true, Bool.or_eq_false_iff, Bool.and_eq_true, Bool.and_eq_false_iff, decide_eq_true_eq, decide_eq_false_iff_not, beq_iff_eq, bne_iff_ne, beq_eq_false_iff_ne, bne_eq_false_iff_eq, Bool.not_eq_true', Bool.not_eq_false', Bool.not_eq_true, Bool.not_eq_false, Int.not_lt, Int.not_le, Nat.not_lt, Nat.not_le, ne_eq, Classical.not_not] at h_19
      refine sq <| rg <| vl (as_ rfl) rfl <| vl (as_ rfl) rfl <| nl <| nT <| rt <| tT <| tR (.tmp rfl (.tmp rfl .nil)) <| ?_
      obtain ⟨e1, e2⟩ := seen_no2 h_18 (by omega)
      exact ⟨none, 0, by rw [e1, e2]; rfl, by rw [e2]; exact Rep.SOwn.nil _, z_15⟩
    · simp only [Bool.or_eq_true, Bool.or_eq_false_iff, Bool.and_eq_true, Bool.and_eq_false_iff, decide_eq_true_eq, decide_eq_false_iff_not, beq_iff_eq, bne_iff_ne, beq_eq_false_iff_ne, bne_eq_false_iff_eq, Bool.not_eq_true', Bool.not_eq_false', Bool.not_eq_true, Bool.not_eq_false, Int.not_lt, Int.not_le, Nat.not_lt, Nat.not_le, ne_eq, Classical.not_not] at h_19
      have hH : seenH f c r ≤ 25 ∧ seenH f c r = (min (f.high - 1) (c.y + r) - max 0 (c.y - r) + 1).toNat := by unfold seenH; omega
      have hW : seenW f c r ≤ 25 ∧ seenW f c r = (min (f.wide - 1) (c.x + r) - max 0 (c.x - r) + 1).toNat := by unfold seenW; omega
      have hkb : ∀ k, k ≤ seenH f c r → k * seenW f c r ≤ 625 := fun k hk => Nat.le_trans (Nat.mul_le_mul hk (Nat.le_refl _)) (Nat.le_trans (Nat.mul_le_mul hH.1 hW.1) (by decide))
      refine sk <| nT <| sq <| rg <| vl (as_ rfl) rfl <| nl <| nT <| sq <| sq <| rg <| vl (fa SigS_fd_api_Cell_1 rfl) rfl <| ?_
      have B_12 := B_12.later x_16
      refine vl (ld rfl (B_12.one SigS_ag_int rfl)) rfl <| vl (mv rfl) rfl <| vl (bsu rfl rfl (inI (by omega))) rfl <| vl (mx rfl rfl) rfl <| vl (as_ rfl) rfl <| nl <| nT <| bk <| ?_
      have B_5 := B_5.later x_16
      refine lp (fun mI EI wI => ∃ k : Nat, ∃ AO1 : Option Addr, ∃ cO1 : Nat, EI = [(2, .int .i64 r), (3, .pointer (some ⟨b_2, 0, none⟩)), (4, .pointer (some ⟨b_9, 0, none⟩)), (6, .slice none 0 0), (7, .int .i64 0), (10, .slice AO1 ((seenTo f c r k).length) cO1), (11, .int .i64 ((max 0 (c.y - r)) + (k : Int)))] ∧ mI = seenH f c r - k ∧ Ext w wI ∧ Blk wI b_2 [.int .i64 f.wide, .int .i64 f.high, .slice A f.places.length cp] 24 (0, 0) ∧ Blk wI b_9 [.int .i64 c.x, .int .i64 c.y] 42 (0, 0) ∧ Cel.rep.SOwn 42 16 wI w.heap.size (Rep.blkOf AO1) AO1 cO1 (seenTo f c r k) ∧ (k ≤ seenH f c r) ∧ (∀ q ∈ Rep.blkOf AO1, q = b_2 → False) ∧ (∀ q ∈ Rep.blkOf AO1, q = b_9 → False)) _ _ ⟨0, none, 0, rfl, rfl, z_15, B_5, B_12, (Rep.SOwn.nil _), by omega, (fun q hq hb => by (simp [Rep.blkOf] at hq)), (fun q hq hb => by (simp [Rep.blkOf] at hq))⟩ (.cons rfl (.cons rfl (.cons rfl (.cons rfl (.cons rfl (.cons rfl (.cons (loI rfl (by first | omega | rfl | (simp <;> omega))) .nil))))))) ?_
      rintro m_23 E_24 w_22 ⟨k, AO1, cO1, rfl, rfl, z_22, B_5, B_12, O1, hk, d_20, d_21⟩
      have q_25 := z_22.size
      have q_26 := B_5.lt
      have q_27 := B_12.lt
      have u_28 := fun q hq => (O1.lt q hq).2
      have hl1 := seenTo_len f c r k
      refine sq <| sq <| rg <| vl (mv rfl) rfl <| vl (fa SigS_fd_api_Field_1 rfl) rfl <| vl (ld rfl (B_5.one SigS_ag_int rfl)) rfl <| vl (bsu rfl rfl (inI (by omega))) rfl <| vl (fa SigS_fd_api_Cell_1 rfl) rfl <| vl (ld rfl (B_12.one SigS_ag_int rfl)) rfl <| vl (mv rfl) rfl <| vl (bad rfl rfl (inI (by omega))) rfl <| vl (mn rfl rfl) rfl <| vl (ble rfl rfl) rfl <| nl <| nT <| ?_
      refine cle rfl (fun h_29 => ?_) (fun h_29 => ?_)
      · have hkk := hkb k hk
        refine sk <| nT <| sq <| bk <| sq <| rg <| vl (fa SigS_fd_api_Cell_0 rfl) rfl <| vl (ld rfl (B_12.one SigS_ag_int rfl)) rfl <| vl (mv rfl) rfl <| vl (bsu rfl rfl (inI (by omega))) rfl <| vl (mx rfl rfl) rfl <| vl (as_ rfl) rfl <| nl <| nT <| bk <| ?_
        refine lp (fun mI EI wI => ∃ j : Nat, ∃ AO2 : Option Addr, ∃ cO2 : Nat, EI = [(2, .int .i64 r), (3, .pointer (some ⟨b_2, 0, none⟩)), (4, .pointer (some ⟨b_9, 0, none⟩)), (6, .slice none 0 0), (7, .int .i64 0), (10, .slice AO2 ((seenTo f c r k ++ seenRow f c r k j).length) cO2), (11, .int .i64 ((max 0 (c.y - r)) + (k : Int))), (12, .int .i64 ((max 0 (c.x - r)) + (j : Int))), (34, .int .i64 ((max 0 (c.y - r)) + (k : Int))), (35, .pointer (some ⟨b_2, 1, none⟩)), (36, .int .i64 f.high), (37, .int .i64 (f.high - 1)), (38, .pointer (some ⟨b_9, 1, none⟩)), (39, .int .i64 c.y), (40, .int .i64 r), (41, .int .i64 (c.y + r)), (42, .int .i64 (min (f.high - 1) (c.y + r))), (43, .bool (decide ((max 0 (c.y - r)) + (k : Int) ≤ min (f.high - 1) (c.y + r)))), (46, .pointer (some ⟨b_9, 0, none⟩)), (47, .int .i64 c.x), (48, .int .i64 r), (49, .int .i64 (c.x - r)), (50, .int .i64 (max 0 (c.x - r)))] ∧ mI = seenW f c r - j ∧ Ext w wI ∧ Blk wI b_2 [.int .i64 f.wide, .int .i64 f.high, .slice A f.places.length cp] 24 (0, 0) ∧ Blk wI b_9 [.int .i64 c.x, .int .i64 c.y] 42 (0, 0) ∧ Cel.rep.SOwn 42 16 wI w.heap.size (Rep.blkOf AO2) AO2 cO2 (seenTo f c r k ++ seenRow f c r k j) ∧ (j ≤ seenW f c r) ∧ (∀ q ∈ Rep.blkOf AO2, q = b_2 → False) ∧ (∀ q ∈ Rep.blkOf AO2, q = b_9 → False)) _ _ ⟨0, AO1, cO1, rfl, rfl, z_22, B_5, B_12, (by rw [seenRow_0, List.append_nil]; exact O1), by omega, (fun q hq hb => by (exact d_20 q hq hb)), (fun q hq hb => by (exact d_21 q hq hb))⟩ (.cons rfl (.cons rfl (.cons rfl (.cons rfl (.cons rfl (.cons (by rw [seenRow_0, List.append_nil]; rfl) (.cons rfl (.cons (loI rfl (by first | omega | rfl | (simp <;> omega))) (.cons rfl (.cons rfl (.cons rfl (.cons rfl (.cons rfl (.cons rfl (.cons rfl (.cons rfl (.cons rfl (.cons rfl (.cons rfl (.cons rfl (.cons rfl (.cons rfl (.cons rfl .nil))))))))))))))))))))))) ?_
        rintro m_33 E_34 w_32 ⟨j, AO2, cO2, rfl, rfl, z_32, B_5, B_12, O2, hj, d_30, d_31⟩
        have q_35 := z_32.size
        have q_36 := B_5.lt
        have q_37 := B_12.lt
        have u_38 := fun q hq => (O2.lt q hq).2
        have hl2 := seenRow_len f c r k j
        refine sq <| sq <| rg <| vl (mv rfl) rfl <| vl (fa SigS_fd_api_Field_0 rfl) rfl <| vl (ld rfl (B_5.one SigS_ag_int rfl)) rfl <| vl (bsu rfl rfl (inI (by omega))) rfl <| vl (fa SigS_fd_api_Cell_0 rfl) rfl <| vl (ld rfl (B_12.one SigS_ag_int rfl)) rfl <| vl (mv rfl) rfl <| vl (bad rfl rfl (inI (by omega))) rfl <| vl (mn rfl rfl) rfl <| vl (ble rfl rfl) rfl <| nl <| nT <| ?_
        refine cle rfl (fun h_39 => ?_) (fun h_39 => ?_)
        · refine sk <| nT <| sq <| bk <| sq <| rg <| vl (mv rfl) rfl <| vl (mv rfl) rfl <| vl (v := .agg #[.int .i64 ((max 0 (c.x - r)) + (j : Int)), .int .i64 ((max 0 (c.y - r)) + (k : Int))]) (bd rfl (by kernel_rfl)) rfl <| al rfl SigS_zv_api_Cell rfl rfl fun w_40 b_41 x_42 l_43 B_44 => ?_
          have q_45 := x_42.size
          have z_40 := Ext.tr z_32 x_42
          have q_46 := B_44.lt
          refine st (new := [.int .i64 ((max 0 (c.x - r)) + (j : Int)), .int .i64 ((max 0 (c.y - r)) + (k : Int))]) rfl rfl B_44 rfl SigS_sz_api_Cell rfl rfl rfl fun w_47 m_48 B_44 => ?_
          have q_50 := m_48.size
          have z_47 := Ext.mod z_40 m_48 (by simp only [List.mem_singleton, forall_eq]; omega)
          have q_49 := m_48.size
          refine nl <| nT <| sq <| rg <| ?_
          have B_5 := B_5.later x_42
          have B_5 := B_5.mod m_48 (by simp only [List.mem_singleton]; omega)
          refine vl (ld rfl (B_5.all SigS_ag_api_Field SigS_sz_api_Field)) rfl <| ?_
          have B_12 := B_12.later x_42
          have B_12 := B_12.mod m_48 (by simp only [List.mem_singleton]; omega)
          refine vl (ld rfl (B_12.all SigS_ag_api_Cell SigS_sz_api_Cell)) rfl <| vl (ld rfl (B_44.all SigS_ag_api_Cell SigS_sz_api_Cell)) rfl <| ca SigS_en_sight_bare rfl rfl ((bare_in f c ((⟨(max 0 (c.x - r)) + (j : Int), (max 0 (c.y - r)) + (k : Int)⟩ : Cel)) _ _ _ (hP.keep z_47) (by (try dsimp only); omega) (by (try dsimp only); omega)).mono ?_)
          rintro e w_51 ⟨rfl, x_52⟩
          refine ⟨_, rfl, ?_⟩
          have q_53 := x_52.size
          have z_51 := Ext.tr z_47 x_52
          refine vl (mv rfl) rfl <| ?_
          have B_5 := B_5.later x_52
          refine vQ rfl rfl rfl rfl (fun hc => ld rfl (B_5.all SigS_ag_api_Field SigS_sz_api_Field)) rfl <| ?_
          have B_44 := B_44.later x_52
          refine vQ rfl rfl rfl rfl (fun hc => ld rfl (B_44.all SigS_ag_api_Cell SigS_sz_api_Cell)) rfl <| ?_
          have B_12 := B_12.later x_52
          refine vQ rfl rfl rfl rfl (fun hc => ld rfl (B_12.all SigS_ag_api_Cell SigS_sz_api_Cell)) rfl <| vC rfl rfl rfl rfl SigS_en_sight_bare (fun hc => ec (gt hc rfl) (ec (gt hc rfl) (ec (gt hc rfl) rfl))) (fun hc => bare_in f ((⟨(max 0 (c.x - r)) + (j : Int), (max 0 (c.y - r)) + (k : Int)⟩ : Cel)) c _ _ _ (hP.keep z_51) (by (try dsimp only); omega) (by (try dsimp only); omega)) rfl fun w_54 x_55 => ?_
          have q_56 := x_55.size
          have z_54 := Ext.tr z_51 x_55
          refine vl (pO rfl rfl rfl rfl) rfl <| nl <| nT <| ?_
          refine cb rfl (fun h_57 => ?_) (fun h_57 => ?_)
          · refine rg <| vl (mv rfl) rfl <| ?_
            have B_44 := B_44.later x_55
            refine vl (ld rfl (B_44.all SigS_ag_api_Cell SigS_sz_api_Cell)) rfl <| bs (e := 42) (cs := [.int .i64 ((max 0 (c.x - r)) + (j : Int)), .int .i64 ((max 0 (c.y - r)) + (k : Int))]) rfl (fun _ => by kernel_rfl) rfl fun w_58 b_59 x_60 l_61 B_62 => ?_
            have q_63 := x_60.size
            have z_58 := Ext.tr z_54 x_60
            have q_64 := B_62.lt
            have O2 := O2.later x_42
            have O2 := O2.mod m_48 (fun q hq h => by have hb := List.mem_singleton.1 h; exfalso; (have := u_38 q hq; omega))
            have O2 := O2.later (Ext.tr x_52 (Ext.tr x_55 x_60))
            refine ap SigS_el_S_api_Cell Rep.flat_bare O2 (Blk.has1 (R := Cel.rep) (by_ := 16) (q := (⟨(max 0 (c.x - r)) + (j : Int), (max 0 (c.y - r)) + (k : Int)⟩ : Cel)) B_62 ⟨rfl, ⟨okI_iff.2 (by (try dsimp only); omega), okI_iff.2 (by (try dsimp only); omega)⟩⟩ (by decide)) rfl rfl (by simp only [List.length_append, List.length_cons, List.length_nil]; omega) (by simp only [List.length_append, List.length_cons, List.length_nil]; omega) z_58.size rfl fun w_65 A_66 c_67 m_68 O_69 g_70 n_71 => ?_
            have q_72 := m_68.size
            have z_65 := Ext.mod z_58 m_68 (fun q hq => (O2.lt q hq).1)
            have u_73 := fun q hq => (O_69.lt q hq).2
            have q_74 := m_68.size
            refine vl (as_ rfl) rfl <| nl <| nB <| nT <| rg <| vl (mv rfl) rfl <| vl (bad rfl rfl (inI (by omega))) rfl <| vl (as_ rfl) rfl <| nl <| ?_
            have e2 : seenTo f c r k ++ seenRow f c r k (j + 1) = seenTo f c r k ++ seenRow f c r k j ++ [(⟨(max 0 (c.x - r)) + (j : Int), (max 0 (c.y - r)) + (k : Int)⟩ : Cel)] := by rw [seenRow_yes h_57, ← List.append_assoc]; rfl
            have B_5 := B_5.later (Ext.tr x_55 x_60)
            have B_5 := B_5.mod m_68 (fun hq => d_30 _ hq rfl)
            have B_12 := B_12.later (Ext.tr x_55 x_60)
            have B_12 := B_12.mod m_68 (fun hq => d_31 _ hq rfl)
            exact nI _ _ ⟨j + 1, A_66, c_67, rfl, rfl, z_65, B_5, B_12, (by rw [e2]; exact O_69), by omega, (fun q hq hb => by (exact Or.elim (g_70 q hq) (fun k_75 => by (exact d_30 q k_75 hb)) (fun k_75 => by omega))), (fun q hq hb => by (exact Or.elim (g_70 q hq) (fun k_76 => by (exact d_31 q k_76 hb)) (fun k_76 => by omega)))⟩ (by omega) (.cons rfl (.cons rfl (.cons rfl (.cons rfl (.cons rfl (.cons (by rw [e2]; rfl) (.cons rfl (.cons (loI rfl (by first | omega | rfl | (simp <;> omega))) (.cons rfl (.cons rfl (.cons rfl (.cons rfl (.cons rfl (.cons rfl (.cons rfl (.cons rfl (.cons rfl (.cons rfl (.cons rfl (.cons rfl (.cons rfl (.cons rfl (.cons rfl .nil)))))))))))))))))))))))
          · refine sk <| nB <| nT <| rg <| vl (mv rfl) rfl <| vl (bad rfl rfl (inI (by omega))) rfl <| vl (as_ rfl) rfl <| nl <| ?_
            have e2 : seenTo f c r k ++ seenRow f c r k (j + 1) = seenTo f c r k ++ seenRow f c r k j := by rw [seenRow_no h_57]
            have B_5 := B_5.later x_55
            have B_12 := B_12.later x_55
            have O2 := O2.later x_42
            have O2 := O2.mod m_48 (fun q hq h => by have hb := List.mem_singleton.1 h; exfalso; (have := u_38 q hq; omega))
            have O2 := O2.later (Ext.tr x_52 x_55)
            exact nI _ _ ⟨j + 1, AO2, cO2, rfl, rfl, z_54, B_5, B_12, (by rw [e2]; exact O2), by omega, (fun q hq hb => by (exact d_30 q hq hb)), (fun q hq hb => by (exact d_31 q hq hb))⟩ (by omega) (.cons rfl (.cons rfl (.cons rfl (.cons rfl (.cons rfl (.cons (by rw [e2]; rfl) (.cons rfl (.cons (loI rfl (by first | omega | rfl | (simp <;> omega))) (.cons rfl (.cons rfl (.cons rfl (.cons rfl (.cons rfl (.cons rfl (.cons rfl (.cons rfl (.cons rfl (.cons rfl (.cons rfl (.cons rfl (.cons rfl (.cons rfl (.cons rfl .nil)))))))))))))))))))))))
        · refine xt <| xT <| xK <| xB <| nB <| nT <| rg <| vl (mv rfl) rfl <| vl (bad rfl rfl (inI (by omega))) rfl <| vl (as_ rfl) rfl <| nl <| ?_
          have ej : j = seenW f c r := by omega
          have e1 : seenTo f c r (k + 1) = seenTo f c r k ++ seenRow f c r k j := by rw [ej]; exact seenTo_succ f c r k
          exact nI _ _ ⟨k + 1, AO2, cO2, rfl, rfl, z_32, B_5, B_12, (by rw [e1]; exact O2), by omega, (fun q hq hb => by (exact d_30 q hq hb)), (fun q hq hb => by (exact d_31 q hq hb))⟩ (by omega) (.cons rfl (.cons rfl (.cons rfl (.cons rfl (.cons rfl (.cons (by rw [e1]; rfl) (.cons (loI rfl (by first | omega | rfl | (simp <;> omega))) .nil)))))))
      · refine xt <| xT <| xK <| xB <| nT <| sq <| rg <| vl (mv rfl) rfl <| vl (as_ rfl) rfl <| vl (as_ rfl) rfl <| nl <| nT <| rt <| tR (.tmp rfl (.tmp rfl .nil)) <| ?_
        have ek : k = seenH f c r := by omega
        subst ek
        obtain ⟨e1, e2⟩ := seen_ok h_18 (by omega)
        exact ⟨AO1, cO1, by rw [e1, e2]; rfl, by rw [e2]; exact O1, z_22⟩
end Go.Proofs.Ytkijhejjnlmbmaa
