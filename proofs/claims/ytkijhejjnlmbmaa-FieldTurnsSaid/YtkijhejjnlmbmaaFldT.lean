/-
  field.Turn. (Printed by bin/fieldturn.py.)
-/
import Derived.Test.YtkijhejjnlmbmaaFldB
set_option linter.unusedVariables false
set_option linter.unusedSimpArgs false
namespace Go.Proofs.Ytkijhejjnlmbmaa
open Go.RowKit

theorem FldT_zv_api_Field : Zv Try.prog 24 (.agg #[.int .i64 0, .int .i64 0, .slice none 0 0]) := fun _ => by kernel_rfl
theorem FldT_ag_api_Field : Ag Try.prog 24 true := fun _ => by kernel_rfl
theorem FldT_sz_api_Field : Sz Try.prog 24 3 := fun _ => by kernel_rfl
theorem FldT_en_field_Check : Enters Try.prog 22 := en Try.func22 (by kernel_rfl) (by kernel_rfl)
theorem FldT_fd_api_Field_1 : Fd Try.prog 24 1 1 := fun _ _ _ => by kernel_rfl
theorem FldT_ag_int : Ag Try.prog 3 false := fun _ => by kernel_rfl
theorem FldT_fd_api_Field_0 : Fd Try.prog 24 0 0 := fun _ _ _ => by kernel_rfl
theorem FldT_fd_api_Field_2 : Fd Try.prog 24 2 2 := fun _ _ _ => by kernel_rfl
theorem FldT_ag_S_int : Ag Try.prog 22 false := fun _ => by kernel_rfl
theorem FldT_sz_int : Sz Try.prog 3 1 := fun _ => by kernel_rfl
theorem FldT_el_S_int : ElT Try.prog repI 22 3 8 := ElT.mk_ (z := .int .i64 0) (k := 1) Try.underlying22 info_int rfl rfl (by decide) (fun j u h => raw0I j u h)
theorem FldT_sz_S_int : Sz Try.prog 22 1 := fun _ => by kernel_rfl
def turnAt (f : Fld) (y x : Nat) : Int := f.places.getD ((f.high - 1 - (x : Int)) * f.wide + (y : Int)).toNat 0
def turnRow (f : Fld) (y j : Nat) : List Int := (List.range j).map (turnAt f y)
def turnTo (f : Fld) (k : Nat) : List Int := (List.range k).flatMap fun y => turnRow f y f.high.toNat
theorem turnTo_succ (f : Fld) (k : Nat) : turnTo f (k + 1) = turnTo f k ++ turnRow f k f.high.toNat := by unfold turnTo; rw [List.range_succ, List.flatMap_append]; simp
theorem turnRow_0 (f : Fld) (k : Nat) : turnRow f k 0 = [] := rfl
theorem turnRow_succ (f : Fld) (k j : Nat) : turnRow f k (j + 1) = turnRow f k j ++ [turnAt f k j] := by unfold turnRow; rw [List.range_succ, List.map_append]; rfl
theorem turnRow_len (f : Fld) (k j : Nat) : (turnRow f k j).length = j := by unfold turnRow; simp
theorem turnTo_len (f : Fld) : ∀ k, (turnTo f k).length = k * f.high.toNat
  | 0 => by simp [turnTo]
  | k + 1 => by rw [turnTo_succ, List.length_append, turnTo_len f k, turnRow_len, Nat.succ_mul]
def turnF (f : Fld) : Fld := if f.chk ≠ 0 then ⟨0, 0, []⟩ else ⟨f.high, f.wide, turnTo f f.wide.toNat⟩
theorem turn_bad {f : Fld} (h : ¬ f.chk = 0) : turnF f = ⟨0, 0, []⟩ := by unfold turnF; rw [if_pos h]
theorem turn_ok {f : Fld} (h : f.chk = 0) : turnF f = ⟨f.high, f.wide, turnTo f f.wide.toNat⟩ := by unfold turnF; rw [if_neg (by simpa using h)]
theorem turn_idx {f : Fld} (h : f.chk = 0) {k j : Nat} (hk : (k : Int) < f.wide) (hj : (j : Int) < f.high) : 0 ≤ (f.high - 1 - (j : Int)) * f.wide ∧ (f.high - 1 - (j : Int)) * f.wide ≤ 1600 ∧ (f.high - 1 - (j : Int)) * f.wide + (k : Int) < (f.places.length : Int) := by
  obtain ⟨y1, y2, y3, y4, y5, y6⟩ := Fld.good h
  have h1 : 0 ≤ (f.high - 1 - (j : Int)) * f.wide := Int.mul_nonneg (by omega) (by omega)
  have h2 : (f.high - 1 - (j : Int)) * f.wide ≤ (f.high - 1) * f.wide := Int.mul_le_mul_of_nonneg_right (by omega) (by omega)
  have h3 : (f.high - 1) * f.wide = f.wide * f.high - f.wide := by rw [Int.sub_mul, Int.one_mul, Int.mul_comm]
  have h4 : f.wide * f.high ≤ 40 * 40 := Int.mul_le_mul y2 y4 (by omega) (by omega)
  omega
theorem pl_ok {l : List Int} (h : ∀ p ∈ l, 0 ≤ p ∧ p ≤ 3) {i : Nat} (hi : i < l.length) : okI (l.getD i 0) := by
  have := h _ (List.getElem_mem hi)
  rw [List.getD_eq_getElem?_getD, List.getElem?_eq_getElem hi]
  exact okI_iff.2 (by simp only [Option.getD_some]; omega)
set_option maxRecDepth 100000 in
set_option maxHeartbeats 400000 in
theorem turn_any (f : Fld) (A : Option Addr) (cp : Nat) (w : World) (hP : repI.SHas 8 w A cp f.places) :
    Calls Try.prog 20 #[.agg #[.int .i64 f.wide, .int .i64 f.high, .slice A f.places.length cp]] w (fun e w' => ∃ A c, e = .returned (.tuple #[.agg #[.int .i64 (turnF f).wide, .int .i64 (turnF f).high, .slice A (turnF f).places.length c], .int .i64 f.chk]) ∧ repI.SOwn 3 8 w' w.heap.size (Rep.blkOf A) A c (turnF f).places ∧ Ext w w') := by
  refine calls_W (n := 51) Try.func20 rfl rfl rfl ?_
  refine sq <| rg <| bx rfl rfl rfl rfl fun w_1 b_2 x_3 l_4 B_5 => ?_
  have q_6 := x_3.size
  have z_1 := Ext.tr (Ext.rf w) x_3
  have q_7 := B_5.lt
  refine al rfl FldT_zv_api_Field rfl rfl fun w_8 b_9 x_10 l_11 B_12 => ?_
  have q_13 := x_10.size
  have z_8 := Ext.tr z_1 x_10
  have q_14 := B_12.lt
  refine vl (as_ rfl) rfl <| nl <| nT <| sq <| sq <| rg <| ?_
  have B_5 := B_5.later x_10
  refine vl (ld rfl (B_5.all FldT_ag_api_Field FldT_sz_api_Field)) rfl <| ca FldT_en_field_Check rfl rfl ((fldCheck f _ _ _ (hP.keep z_8)).mono ?_)
  rintro e w_15 ⟨rfl, x_16⟩
  refine ⟨_, rfl, ?_⟩
  have q_17 := x_16.size
  have z_15 := Ext.tr z_8 x_16
  refine vl (as_ rfl) rfl <| nl <| nT <| sq <| rg <| vl (mv rfl) rfl <| vl (bne rfl rfl) rfl <| nl <| nT <| ?_
  refine cne rfl (fun h_18 => ?_) (fun h_18 => ?_)
  · refine sq <| rg <| vl (v := .agg #[.int .i64 0, .int .i64 0, .slice none 0 0]) (bd rfl (by kernel_rfl)) rfl <| vl (mv rfl) rfl <| ?_
    have B_12 := B_12.later x_16
    refine st (new := [.int .i64 0, .int .i64 0, .slice none 0 0]) rfl rfl B_12 rfl FldT_sz_api_Field rfl rfl rfl fun w_19 m_20 B_12 => ?_
    have q_22 := m_20.size
    have z_19 := Ext.mod z_15 m_20 (by simp only [List.mem_singleton, forall_eq]; omega)
    have q_21 := m_20.size
    refine vl (as_ rfl) rfl <| nl <| nT <| rt <| tT <| tR (.cell rfl (B_12.all FldT_ag_api_Field FldT_sz_api_Field) (.tmp rfl .nil)) <| ?_
    have e1 := turn_bad (f := f) (by simpa using h_18)
    exact ⟨none, 0, by rw [e1]; rfl, by rw [e1]; exact Rep.SOwn.nil _, z_19⟩
  · have hc0 : f.chk = 0 := by simpa using h_18
    obtain ⟨y1, y2, y3, y4, y5, y6⟩ := Fld.good hc0
    have hpl := fun (i : Nat) (hi : i < f.places.length) => pl_ok y6 hi
    refine sk <| nT <| sq <| rg <| vl (fa FldT_fd_api_Field_1 rfl) rfl <| ?_
    have B_5 := B_5.later x_16
    refine vl (ld rfl (B_5.one FldT_ag_int rfl)) rfl <| vl (fa FldT_fd_api_Field_0 rfl) rfl <| vl (ld rfl (B_5.one FldT_ag_int rfl)) rfl <| vl (v := .agg #[.int .i64 f.high, .int .i64 f.wide, .slice none 0 0]) (bd rfl (by kernel_rfl)) rfl <| al rfl FldT_zv_api_Field rfl rfl fun w_23 b_24 x_25 l_26 B_27 => ?_
    have q_28 := x_25.size
    have z_23 := Ext.tr z_15 x_25
    have q_29 := B_27.lt
    refine st (new := [.int .i64 f.high, .int .i64 f.wide, .slice none 0 0]) rfl rfl B_27 rfl FldT_sz_api_Field rfl rfl rfl fun w_30 m_31 B_27 => ?_
    have q_33 := m_31.size
    have z_30 := Ext.mod z_23 m_31 (by simp only [List.mem_singleton, forall_eq]; omega)
    have q_32 := m_31.size
    refine nl <| nT <| sq <| sq <| rg <| vl (fa FldT_fd_api_Field_1 rfl) rfl <| vl (ld rfl (B_27.one FldT_ag_int rfl)) rfl <| vl (mv rfl) rfl <| nl <| nT <| bk <| ?_
    have B_5 := B_5.later x_25
    have B_5 := B_5.mod m_31 (by simp only [List.mem_singleton]; omega)
    have B_12 := B_12.later (Ext.tr x_16 x_25)
    have B_12 := B_12.mod m_31 (by simp only [List.mem_singleton]; omega)
    refine lp (fun mI EI wI => ∃ k : Nat, ∃ AO1 : Option Addr, ∃ cO1 : Nat, EI = [(1, .pointer (some ⟨b_2, 0, none⟩)), (2, .pointer (some ⟨b_9, 0, none⟩)), (3, .int .i64 0), (5, .pointer (some ⟨b_24, 0, none⟩)), (20, .int .i64 f.wide), (21, .int .i64 (k : Int))] ∧ mI = f.wide.toNat - k ∧ Ext w wI ∧ Blk wI b_2 [.int .i64 f.wide, .int .i64 f.high, .slice A f.places.length cp] 24 (0, 0) ∧ Blk wI b_9 [.int .i64 0, .int .i64 0, .slice none 0 0] 24 (0, 0) ∧ Blk wI b_24 [.int .i64 f.high, .int .i64 f.wide, .slice AO1 ((turnTo f k).length) cO1] 24 (0, 0) ∧ repI.SOwn 3 8 wI w.heap.size (Rep.blkOf AO1) AO1 cO1 (turnTo f k) ∧ (k ≤ f.wide.toNat) ∧ (∀ q ∈ Rep.blkOf AO1, q = b_2 → False) ∧ (∀ q ∈ Rep.blkOf AO1, q = b_9 → False) ∧ (∀ q ∈ Rep.blkOf AO1, q = b_24 → False)) _ _ ⟨0, none, 0, rfl, rfl, z_30, B_5, B_12, B_27, (Rep.SOwn.nil _), by omega, (fun q hq hb => by (simp [Rep.blkOf] at hq)), (fun q hq hb => by (simp [Rep.blkOf] at hq)), (fun q hq hb => by (simp [Rep.blkOf] at hq))⟩ (.cons rfl (.cons rfl (.cons rfl (.cons rfl (.cons rfl (.cons (loI rfl (by first | omega | rfl | (simp <;> omega))) .nil)))))) ?_
    rintro m_38 E_39 w_37 ⟨k, AO1, cO1, rfl, rfl, z_37, B_5, B_12, B51, O1, hk, d_34, d_35, d_36⟩
    have q_40 := z_37.size
    have q_41 := B_5.lt
    have q_42 := B_12.lt
    have q_43 := B51.lt
    have u_44 := fun q hq => (O1.lt q hq).2
    have hl1 := turnTo_len f k
    have hl3 : k * f.high.toNat ≤ 40 * 40 := Nat.mul_le_mul (by omega) (by omega)
    refine sq <| rg <| vl (blt rfl rfl) rfl <| nl <| nT <| sq <| ?_
    refine clt rfl (fun h_45 => ?_) (fun h_45 => ?_)
    · refine sk <| nT <| sq <| bk <| sq <| rg <| vl (mv rfl) rfl <| vl (as_ rfl) rfl <| nl <| nT <| sq <| rg <| vl (fa FldT_fd_api_Field_0 rfl) rfl <| vl (ld rfl (B51.one FldT_ag_int rfl)) rfl <| vl (mv rfl) rfl <| nl <| nT <| bk <| ?_
      refine lp (fun mI EI wI => ∃ j : Nat, ∃ AO2 : Option Addr, ∃ cO2 : Nat, EI = [(1, .pointer (some ⟨b_2, 0, none⟩)), (2, .pointer (some ⟨b_9, 0, none⟩)), (3, .int .i64 0), (5, .pointer (some ⟨b_24, 0, none⟩)), (6, .int .i64 (k : Int)), (20, .int .i64 f.wide), (21, .int .i64 (k : Int)), (22, .bool (decide ((k : Int) < f.wide))), (23, .int .i64 (k : Int)), (24, .pointer (some ⟨b_24, 0, none⟩)), (25, .int .i64 f.high), (26, .int .i64 (j : Int))] ∧ mI = f.high.toNat - j ∧ Ext w wI ∧ Blk wI b_2 [.int .i64 f.wide, .int .i64 f.high, .slice A f.places.length cp] 24 (0, 0) ∧ Blk wI b_9 [.int .i64 0, .int .i64 0, .slice none 0 0] 24 (0, 0) ∧ Blk wI b_24 [.int .i64 f.high, .int .i64 f.wide, .slice AO2 ((turnTo f k ++ turnRow f k j).length) cO2] 24 (0, 0) ∧ repI.SOwn 3 8 wI w.heap.size (Rep.blkOf AO2) AO2 cO2 (turnTo f k ++ turnRow f k j) ∧ (j ≤ f.high.toNat) ∧ (∀ q ∈ Rep.blkOf AO2, q = b_2 → False) ∧ (∀ q ∈ Rep.blkOf AO2, q = b_9 → False) ∧ (∀ q ∈ Rep.blkOf AO2, q = b_24 → False)) _ _ ⟨0, AO1, cO1, rfl, rfl, z_37, B_5, B_12, (by rw [turnRow_0, List.append_nil]; exact B51), (by rw [turnRow_0, List.append_nil]; exact O1), by omega, (fun q hq hb => by (exact d_34 q hq hb)), (fun q hq hb => by (exact d_35 q hq hb)), (fun q hq hb => by (exact d_36 q hq hb))⟩ (.cons rfl (.cons rfl (.cons rfl (.cons rfl (.cons rfl (.cons rfl (.cons rfl (.cons rfl (.cons rfl (.cons rfl (.cons rfl (.cons (loI rfl (by first | omega | rfl | (simp <;> omega))) .nil)))))))))))) ?_
      rintro m_50 E_51 w_49 ⟨j, AO2, cO2, rfl, rfl, z_49, B_5, B_12, B52, O2, hj, d_46, d_47, d_48⟩
      have q_52 := z_49.size
      have q_53 := B_5.lt
      have q_54 := B_12.lt
      have q_55 := B52.lt
      have u_56 := fun q hq => (O2.lt q hq).2
      have hl2 := turnRow_len f k j
      refine sq <| rg <| vl (blt rfl rfl) rfl <| nl <| nT <| sq <| ?_
      refine clt rfl (fun h_57 => ?_) (fun h_57 => ?_)
      · obtain ⟨i1, i2, i3⟩ := turn_idx hc0 (k := k) (j := j) (by omega) (by omega)
        refine sk <| nT <| sq <| bk <| sq <| rg <| vl (mv rfl) rfl <| vl (as_ rfl) rfl <| nl <| nT <| ?_
        refine rd [(1, 0), (3, 0), (5, 0), (10, 0), (15, 0), (16, 2), (17, 3), (19, 3)] [0, 1, 2, 3, 4, 5, 6, 7, 8, 9, 10, 11, 12, 13, 14, 15, 16, 17, 18, 19] (by kernel_rfl) (by kernel_rfl) ?_
        refine fw rfl rfl (fun _ => fa FldT_fd_api_Field_2 rfl) rfl <| fq rfl rfl (fun _ x => ld rfl ((B52.later x).one FldT_ag_S_int rfl)) rfl <| fw rfl rfl (fun _ => fa FldT_fd_api_Field_2 rfl) rfl <| fq rfl rfl (fun _ x => ld rfl ((B_5.later x).one FldT_ag_S_int rfl)) rfl <| fw rfl rfl (fun _ => fa FldT_fd_api_Field_1 rfl) rfl <| fq rfl rfl (fun _ x => ld rfl ((B_5.later x).one FldT_ag_int rfl)) rfl <| fw rfl rfl (fun _ => bsu rfl rfl (inI (by omega))) rfl <| fw rfl rfl (fun _ => mv rfl) rfl <| fw rfl rfl (fun _ => bsu rfl rfl (inI (by omega))) rfl <| fw rfl rfl (fun _ => fa FldT_fd_api_Field_0 rfl) rfl <| fq rfl rfl (fun _ x => ld rfl ((B_5.later x).one FldT_ag_int rfl)) rfl <| fw rfl rfl (fun _ => bmu rfl rfl (inI (by omega))) rfl <| fw rfl rfl (fun _ => mv rfl) rfl <| fw rfl rfl (fun _ => bad rfl rfl (inI (by omega))) rfl <| fw rfl rfl (fun _ => iA (((((f.high - 1) - (j : Int)) * f.wide) + (k : Int)).toNat) Try.underlying22 FldT_sz_int rfl rfl ((hP.keep z_49).adr (Nat.zero_lt_of_lt (show ((((f.high - 1) - (j : Int)) * f.wide) + (k : Int)).toNat < _ from (by omega)))) (by omega) (by omega)) rfl <| fq rfl rfl (fun _ x => ld rfl (Rep.SHas.one' hcI ((hP.keep (Ext.tr z_49 x)).adh (Nat.zero_lt_of_lt (show ((((f.high - 1) - (j : Int)) * f.wide) + (k : Int)).toNat < _ from (by omega)))) (get_d (l := f.places) (u := 0) (by omega)) rfl FldT_ag_int)) rfl <| fx rfl rfl rfl fun w_58 x_59 Q hK => bs (e := 3) (cs := [.int .i64 (f.places.getD (((((f.high - 1) - (j : Int)) * f.wide) + (k : Int)).toNat) 0)]) rfl (fun _ => by kernel_rfl) rfl fun w_60 b_61 x_62 l_63 B_64 => hK _ _ ⟨Ext.tr x_59 x_62, ?_⟩
        have q_65 := x_59.size
        have z_58 := Ext.tr z_49 x_59
        have q_66 := x_62.size
        have z_60 := Ext.tr z_58 x_62
        have q_67 := B_64.lt
        have O2 := O2.later (Ext.tr x_59 x_62)
        refine fb rfl rfl rfl fun w_68 x_69 Q hK => ap FldT_el_S_int Rep.flat_bare (O2.later x_69) ((Blk.has1 (R := repI) (by_ := 8) (q := f.places.getD (((((f.high - 1) - (j : Int)) * f.wide) + (k : Int)).toNat) 0) B_64 ⟨rfl, hpl _ (by omega)⟩ (by decide)).keep x_69) rfl rfl (by simp only [List.length_append, List.length_cons, List.length_nil]; omega) (by simp only [List.length_append, List.length_cons, List.length_nil]; omega) (Ext.tr z_60 x_69).size rfl fun w_70 A_71 c_72 m_73 O_74 g_75 n_76 => hK _ _ ?_
        have q_77 := x_69.size
        have z_68 := Ext.tr z_60 x_69
        have q_78 := m_73.size
        have z_70 := Ext.mod z_68 m_73 (fun q hq => ((O2.later x_69).lt q hq).1)
        have u_79 := fun q hq => (O_74.lt q hq).2
        have q_80 := m_73.size
        refine fw rfl rfl (fun _ => fa FldT_fd_api_Field_2 rfl) rfl <| ?_
        have B52 := B52.later (Ext.tr x_59 (Ext.tr x_62 x_69))
        have B52 := B52.mod m_73 (fun hq => d_48 _ hq rfl)
        refine fb rfl rfl rfl fun w_81 x_82 Q hK => st (new := [.int .i64 f.high, .int .i64 f.wide, .slice A_71 ((turnTo f k ++ turnRow f k j ++ [f.places.getD (((((f.high - 1) - (j : Int)) * f.wide) + (k : Int)).toNat) 0]).length) c_72]) rfl rfl (B52.later x_82) rfl FldT_sz_S_int rfl rfl rfl fun w_83 m_84 B52 => hK _ _ ?_
        have q_86 := x_82.size
        have z_81 := Ext.tr z_70 x_82
        have q_87 := m_84.size
        have z_83 := Ext.mod z_81 m_84 (by simp only [List.mem_singleton, forall_eq]; omega)
        have q_85 := m_84.size
        refine fn fun w_88 x_89 => ?_
        have q_90 := x_89.size
        have z_88 := Ext.tr z_83 x_89
        refine nB <| nT <| rg <| vl (bad rfl rfl (inI (by omega))) rfl <| vl (mv rfl) rfl <| nl <| ?_
        have e2 : turnTo f k ++ turnRow f k (j + 1) = turnTo f k ++ turnRow f k j ++ [f.places.getD (((((f.high - 1) - (j : Int)) * f.wide) + (k : Int)).toNat) 0] := by rw [turnRow_succ, ← List.append_assoc]; rfl
        have B_5 := B_5.later (Ext.tr x_59 (Ext.tr x_62 x_69))
        have B_5 := B_5.mod m_73 (fun hq => d_46 _ hq rfl)
        have B_5 := B_5.later x_82
        have B_5 := B_5.mod m_84 (by simp only [List.mem_singleton]; omega)
        have B_5 := B_5.later x_89
        have B_12 := B_12.later (Ext.tr x_59 (Ext.tr x_62 x_69))
        have B_12 := B_12.mod m_73 (fun hq => d_47 _ hq rfl)
        have B_12 := B_12.later x_82
        have B_12 := B_12.mod m_84 (by simp only [List.mem_singleton]; omega)
        have B_12 := B_12.later x_89
        have B52 := B52.later x_89
        have O_74 := O_74.later x_82
        have O_74 := O_74.mod m_84 (fun q hq h => by have hb := List.mem_singleton.1 h; exfalso; (exact Or.elim (g_75 q hq) (fun k_91 => by (exact d_48 q k_91 hb)) (fun k_91 => by omega)))
        have O_74 := O_74.later x_89
        exact nI _ _ ⟨j + 1, A_71, c_72, rfl, rfl, z_88, B_5, B_12, (by rw [e2]; exact B52), (by rw [e2]; exact O_74), by omega, (fun q hq hb => by (exact Or.elim (g_75 q hq) (fun k_92 => by (exact d_46 q k_92 hb)) (fun k_92 => by omega))), (fun q hq hb => by (exact Or.elim (g_75 q hq) (fun k_93 => by (exact d_47 q k_93 hb)) (fun k_93 => by omega))), (fun q hq hb => by (exact Or.elim (g_75 q hq) (fun k_94 => by (exact d_48 q k_94 hb)) (fun k_94 => by omega)))⟩ (by omega) (.cons rfl (.cons rfl (.cons rfl (.cons rfl (.cons rfl (.cons rfl (.cons rfl (.cons rfl (.cons rfl (.cons rfl (.cons rfl (.cons (loI rfl (by first | omega | rfl | (simp <;> omega))) .nil))))))))))))
      · refine xt <| xT <| xK <| xB <| nB <| nT <| rg <| vl (bad rfl rfl (inI (by omega))) rfl <| vl (mv rfl) rfl <| nl <| ?_
        have ej : j = f.high.toNat := by omega
        have e1 : turnTo f (k + 1) = turnTo f k ++ turnRow f k j := by rw [ej]; exact turnTo_succ f k
        exact nI _ _ ⟨k + 1, AO2, cO2, rfl, rfl, z_49, B_5, B_12, (by rw [e1]; exact B52), (by rw [e1]; exact O2), by omega, (fun q hq hb => by (exact d_46 q hq hb)), (fun q hq hb => by (exact d_47 q hq hb)), (fun q hq hb => by (exact d_48 q hq hb))⟩ (by omega) (.cons rfl (.cons rfl (.cons rfl (.cons rfl (.cons rfl (.cons (loI rfl (by first | omega | rfl | (simp <;> omega))) .nil))))))
    · refine xt <| xT <| xK <| xB <| nT <| sq <| rg <| vl (ld rfl (B51.all FldT_ag_api_Field FldT_sz_api_Field)) rfl <| st (new := [.int .i64 f.high, .int .i64 f.wide, .slice AO1 ((turnTo f k).length) cO1]) rfl rfl B_12 rfl FldT_sz_api_Field rfl rfl rfl fun w_95 m_96 B_12 => ?_
      have q_98 := m_96.size
      have z_95 := Ext.mod z_37 m_96 (by simp only [List.mem_singleton, forall_eq]; omega)
      have q_97 := m_96.size
      refine vl (as_ rfl) rfl <| nl <| nT <| rt <| tR (.cell rfl (B_12.all FldT_ag_api_Field FldT_sz_api_Field) (.tmp rfl .nil)) <| ?_
      have ek : k = f.wide.toNat := by omega
      subst ek
      have e1 := turn_ok hc0
      have O1 := O1.mod m_96 (fun q hq h => by have hb := List.mem_singleton.1 h; exfalso; (exact d_35 q hq hb))
      exact ⟨AO1, cO1, by rw [e1, hc0]; rfl, by rw [e1]; exact O1, z_95⟩
end Go.Proofs.Ytkijhejjnlmbmaa
