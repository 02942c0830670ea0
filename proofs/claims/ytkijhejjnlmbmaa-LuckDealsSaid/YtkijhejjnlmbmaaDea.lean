/-
  luck.Deal. (Printed by bin/deal.py.)
-/
import Derived.Test.YtkijhejjnlmbmaaFnc
import Derived.Test.YtkijhejjnlmbmaaLuckW
set_option linter.unusedVariables false
set_option linter.unusedSimpArgs false
namespace Go.Proofs.Ytkijhejjnlmbmaa
open Go.RowKit

theorem Dea_sz_int : Sz Try.prog 3 1 := fun _ => by kernel_rfl
theorem Dea_en_luck_Pick : Enters Try.prog 51 := en Try.func51 (by kernel_rfl) (by kernel_rfl)
theorem Dea_ag_int : Ag Try.prog 3 false := fun _ => by kernel_rfl
def swapL (l : List Int) (i j : Nat) : List Int := (l.set i (l.getD j 0)).set j (l.getD i 0)
def rangeI (nn : Nat) : List Int := (List.range nn).map fun (i : Nat) => (i : Int)
def fillK (nn k : Nat) : List Int := rangeI k ++ List.replicate (nn - k) 0
def dealC (pk : Nat → Nat) (nn : Nat) : Nat → List Int
  | 0 => rangeI nn
  | m + 1 => swapL (dealC pk nn m) (nn - 1 - m) (pk m)
theorem fill_0 (nn : Nat) : fillK nn 0 = List.replicate nn 0 := rfl
theorem fill_len (nn k : Nat) (h : k ≤ nn) : (fillK nn k).length = nn := by unfold fillK rangeI; simp; omega
theorem fill_succ {nn k : Nat} (h : k < nn) : fillK nn (k + 1) = (fillK nn k).set k (k : Int) := by
  unfold fillK rangeI
  obtain ⟨r, hr⟩ : ∃ r, nn - k = r + 1 := ⟨nn - k - 1, by omega⟩
  rw [hr, show nn - (k + 1) = r by omega, List.range_succ, List.map_append, List.set_append_right _ _ (by simp)]
  simp [List.replicate_succ]
theorem swap_len (l : List Int) (i j : Nat) : (swapL l i j).length = l.length := by unfold swapL; simp
theorem deal_len (pk : Nat → Nat) (nn : Nat) : ∀ m, (dealC pk nn m).length = nn
  | 0 => by simp [dealC, rangeI]
  | m + 1 => by rw [dealC, swap_len, deal_len pk nn m]
theorem deal_0 (pk : Nat → Nat) (nn : Nat) : dealC pk nn 0 = fillK nn nn := by unfold fillK; simp [dealC]
theorem deal_succ {pk : Nat → Nat} {n : Int} {nn m : Nat} (hn : n = (nn : Int)) (hm : m < nn) : dealC pk nn (m + 1) = ((dealC pk nn m).set ((n - 1) - (m : Int)).toNat ((dealC pk nn m).getD (pk m : Int).toNat 0)).set (pk m : Int).toNat ((dealC pk nn m).getD ((n - 1) - (m : Int)).toNat 0) := by
  have e : ((n - 1) - (m : Int)).toNat = nn - 1 - m := by omega
  rw [e]; rfl
set_option maxRecDepth 100000 in
set_option maxHeartbeats 400000 in
theorem deal_nat (sd : Nat → Luck.W) (pk : Nat → Nat) (nn : Nat) (w : World) (hpk : ∀ m, m < nn → pk m < nn - m) (hP : ∀ m, m < nn → ∀ (w : World) (x : Int), x = ((nn - m : Nat) : Int) → Calls Try.prog 51 #[.int .u32 (Bv.U (sd m)), .int .i64 x] w fun e w' => e = .returned (.tuple #[.int .i64 (pk m : Int), .int .u32 (Bv.U (sd (m + 1))), .int .i64 0]) ∧ w = w') :
    Calls Try.prog 49 #[.int .u32 (Bv.U (sd 0)), .int .i64 (nn : Int)] w (fun e w' => ∃ A c, ((nn ≤ 52 ∧ e = .returned (.tuple #[.slice A (dealC pk nn (nn - 1)).length c, .int .u32 (Bv.U (sd (nn - 1))), .int .i64 0]) ∧ repI.SOwn 3 8 w' w.heap.size (Rep.blkOf A) A c (dealC pk nn (nn - 1))) ∨ (52 < nn ∧ e = .returned (.tuple #[.slice none 0 0, .int .u32 (Bv.U (sd 0)), .int .i64 1]) ∧ True)) ∧ Ext w w') := by
  refine calls_W (n := 60) Try.func49 rfl rfl rfl ?_
  refine sq <| rg <| vl (as_ rfl) rfl <| vl (as_ rfl) rfl <| vl (as_ rfl) rfl <| nl <| nT <| sq <| sq <| rg <| vl (mv rfl) rfl <| vl (blt rfl rfl) rfl <| vl (mv rfl) rfl <| vQ rfl rfl rfl rfl (fun hc => mv rfl) rfl <| vQ rfl rfl rfl rfl (fun hc => bgt (gt hc rfl) rfl) rfl <| vl (pO rfl rfl rfl rfl) rfl <| nl <| nT <| ?_
  refine cb rfl (fun h_1 => ?_) (fun h_1 => ?_)
  · simp only [Bool.or_eq_true, Bool.or_eq_false_iff, Bool.and_eq_true, Bool.and_eq_false_iff, decide_eq_true_eq, decide_eq_false_iff_not, beq_iff_eq, bne_iff_ne, beq_eq_false_iff_ne, bne_eq_false_iff_eq, Bool.not_eq_true', Bool.not_eq_false', Bool.not_eq_true, Bool.not_eq_false, Int.not_lt, Int.not_le, Nat.not_lt, Nat.not_le, ne_eq, Classical.not_not] at h_1
    refine sq <| rg <| vl (mv rfl) rfl <| vl (as_ rfl) rfl <| vl (as_ rfl) rfl <| vl (as_ rfl) rfl <| nl <| nT <| rt <| tT <| tR (.tmp rfl (.tmp rfl (.tmp rfl .nil))) <| ?_
    exact ⟨none, 0, .inr ⟨by omega, rfl, trivial⟩, (Ext.rf w)⟩
  · simp only [Bool.or_eq_true, Bool.or_eq_false_iff, Bool.and_eq_true, Bool.and_eq_false_iff, decide_eq_true_eq, decide_eq_false_iff_not, beq_iff_eq, bne_iff_ne, beq_eq_false_iff_ne, bne_eq_false_iff_eq, Bool.not_eq_true', Bool.not_eq_false', Bool.not_eq_true, Bool.not_eq_false, Int.not_lt, Int.not_le, Nat.not_lt, Nat.not_le, ne_eq, Classical.not_not] at h_1
    refine sk <| nT <| sq <| rg <| vl (mv rfl) rfl <| mO (R := repI) (by_ := 8) (B := w.heap.size) (c := nn) (zv := (.int .i64 0)) (q := 0) Rep.flat_plain Try.underlying22 info_int rfl rfl (fun j u h => raw0I j u h) (fun _ => ⟨rfl, okI_iff.2 (by decide)⟩) rfl rfl rfl (by omega) (by omega) (by omega) fun w_2 b_3 x_4 l_5 O_6 => ?_
    have q_7 := x_4.size
    have z_2 := Ext.tr (Ext.rf w) x_4
    have u_8 := fun q hq => (O_6.lt q hq).2
    have lo_9 : ∀ q ∈ Rep.blkOf (some ⟨b_3, 0, none⟩), b_3 ≤ q := fun q hq => Nat.le_of_eq (List.mem_singleton.1 hq).symm
    refine vl (as_ rfl) rfl <| nl <| nT <| sq <| sq <| rg <| vl (mv rfl) rfl <| vl (ln Try.underlying22 rfl) rfl <| vl (mv rfl) rfl <| nl <| nT <| bk <| ?_
    refine lp (fun mI EI wI => ∃ k : Nat, EI = [(0, .int .u32 (Bv.U (sd 0))), (1, .int .i64 (nn : Int)), (4, .slice none 0 0), (5, .int .u32 0), (6, .int .i64 0), (7, .slice (some ⟨b_3, 0, none⟩) nn nn), (21, .int .i64 (nn : Int)), (22, .int .i64 (k : Int))] ∧ mI = nn - k ∧ Ext w wI ∧ repI.SOwn 3 8 wI w.heap.size (Rep.blkOf (some ⟨b_3, 0, none⟩)) (some ⟨b_3, 0, none⟩) nn (fillK nn k) ∧ (k ≤ nn)) _ _ ⟨0, rfl, rfl, z_2, (by rw [fill_0]; exact O_6), by omega⟩ (.cons rfl (.cons rfl (.cons rfl (.cons rfl (.cons rfl (.cons rfl (.cons rfl (.cons (loI rfl (by first | omega | rfl | (simp <;> omega))) .nil)))))))) ?_
    rintro m_11 E_12 w_10 ⟨k, rfl, rfl, z_10, O1, hk⟩
    have q_13 := z_10.size
    have u_14 := fun q hq => (O1.lt q hq).2
    have hfl := fill_len nn k hk
    refine sq <| rg <| vl (blt rfl rfl) rfl <| nl <| nT <| sq <| ?_
    refine clt rfl (fun h_15 => ?_) (fun h_15 => ?_)
    · refine sk <| nT <| sq <| bk <| sq <| rg <| vl (mv rfl) rfl <| vl (as_ rfl) rfl <| nl <| nT <| rg <| vl (mv rfl) rfl <| vl (mv rfl) rfl <| vl (mv rfl) rfl <| vl (iA k Try.underlying22 Dea_sz_int rfl rfl (O1.has.adr (Nat.zero_lt_of_lt (show k < _ from (by (try rw [List.length_set]); omega)))) rfl (by (try rw [List.length_set]); omega)) rfl <| so (q' := (k : Int)) (j := 0) (i := k) O1 Rep.flat_bare (get_d (l := fillK nn k) (u := 0) (by (try rw [List.length_set]); omega)) rfl rfl rfl rfl (fun _ cs h => by have ok_ := (show _ ∧ _ from h).2; obtain rfl := hcI h; exact ⟨rfl, okI_iff.2 (by omega)⟩) rfl rfl Dea_sz_int fun w_16 m_17 O_18 => ?_
      have q_19 := m_17.size
      have z_16 := Ext.mod z_10 m_17 (fun q hq => (O1.lt q hq).1)
      have q_20 := m_17.size
      refine nl <| nB <| nT <| rg <| vl (bad rfl rfl (inI (by omega))) rfl <| vl (mv rfl) rfl <| nl <| ?_
      have e1 : fillK nn (k + 1) = (fillK nn k).set k (k : Int) := fill_succ (by omega)
      exact nI _ _ ⟨k + 1, rfl, rfl, z_16, (by rw [e1]; exact O_18), by omega⟩ (by omega) (.cons rfl (.cons rfl (.cons rfl (.cons rfl (.cons rfl (.cons rfl (.cons rfl (.cons (loI rfl (by first | omega | rfl | (simp <;> omega))) .nil))))))))
    · refine xt <| xT <| xK <| xB <| nT <| sq <| sq <| rg <| vl (mv rfl) rfl <| vl (bsu rfl rfl (inI (by omega))) rfl <| vl (as_ rfl) rfl <| nl <| nT <| bk <| ?_
      have ek : nn = k := by omega
      subst ek
      refine lp (fun mI EI wI => ∃ m : Nat, EI = [(0, .int .u32 (Bv.U (sd m))), (4, .slice none 0 0), (5, .int .u32 0), (6, .int .i64 0), (7, .slice (some ⟨b_3, 0, none⟩) nn nn), (9, .int .i64 (((nn : Int) - 1) - (m : Int)))] ∧ mI = nn - m ∧ Ext w wI ∧ repI.SOwn 3 8 wI w.heap.size (Rep.blkOf (some ⟨b_3, 0, none⟩)) (some ⟨b_3, 0, none⟩) nn (dealC pk nn m) ∧ (m ≤ nn - 1)) _ _ ⟨0, rfl, rfl, z_10, (by rw [deal_0]; exact O1), by omega⟩ (.cons rfl (.cons rfl (.cons rfl (.cons rfl (.cons rfl (.cons (loI rfl (by omega)) .nil)))))) ?_
      rintro m_22 E_23 w_21 ⟨m, rfl, rfl, z_21, O2, hm⟩
      have q_24 := z_21.size
      have u_25 := fun q hq => (O2.lt q hq).2
      have hdl := deal_len pk nn m
      have hoks := repI_ok O2.has
      refine sq <| sq <| rg <| vl (mv rfl) rfl <| vl (bgt rfl rfl) rfl <| nl <| nT <| ?_
      refine clt rfl (fun h_26 => ?_) (fun h_26 => ?_)
      · have hp1 := hpk m (by omega)
        refine sk <| nT <| sq <| bk <| sq <| rg <| vl (as_ rfl) rfl <| nl <| nT <| sq <| rg <| vl (mv rfl) rfl <| vl (mv rfl) rfl <| vl (bad rfl rfl (inI (by omega))) rfl <| ca Dea_en_luck_Pick rfl rfl ((hP m (by omega) _ _ (by omega)).mono ?_)
        rintro e w_27 ⟨rfl, rfl⟩
        refine ⟨_, rfl, ?_⟩
        refine vl (mv rfl) rfl <| vl (ex rfl rfl) rfl <| vl (ex rfl rfl) rfl <| vl (ex rfl rfl) rfl <| vl (as_ rfl) rfl <| vl (as_ rfl) rfl <| nl <| nT <| ?_
        refine rd [(7, 0), (11, 0), (13, 3), (15, 3)] [0, 1, 2, 3, 4, 5, 6, 7, 8, 9, 10, 11, 12, 13, 14, 15] (by kernel_rfl) (by kernel_rfl) ?_
        refine fw rfl rfl (fun _ => mv rfl) rfl <| fw rfl rfl (fun _ => mv rfl) rfl <| fw rfl rfl (fun _ => mv rfl) rfl <| fw rfl rfl (fun _ => mv rfl) rfl <| fw rfl rfl (fun _ => mv rfl) rfl <| fw rfl rfl (fun _ => mv rfl) rfl <| fw rfl rfl (fun _ => iA ((pk m : Int).toNat) Try.underlying22 Dea_sz_int rfl rfl (O2.has.adr (Nat.zero_lt_of_lt (show (pk m : Int).toNat < _ from (by (try rw [List.length_set]); omega)))) (by omega) (by (try rw [List.length_set]); omega)) rfl <| fq rfl rfl (fun _ x => ld rfl (Rep.SHas.one' hcI ((O2.later x).has.adh (Nat.zero_lt_of_lt (show (pk m : Int).toNat < _ from (by (try rw [List.length_set]); omega)))) (get_d (l := dealC pk nn m) (u := 0) (by (try rw [List.length_set]); omega)) rfl Dea_ag_int)) rfl <| fw rfl rfl (fun _ => mv rfl) rfl <| fw rfl rfl (fun _ => mv rfl) rfl <| fw rfl rfl (fun _ => iA ((((nn : Int) - 1) - (m : Int)).toNat) Try.underlying22 Dea_sz_int rfl rfl (O2.has.adr (Nat.zero_lt_of_lt (show (((nn : Int) - 1) - (m : Int)).toNat < _ from (by (try rw [List.length_set]); omega)))) (by omega) (by (try rw [List.length_set]); omega)) rfl <| fq rfl rfl (fun _ x => ld rfl (Rep.SHas.one' hcI ((O2.later x).has.adh (Nat.zero_lt_of_lt (show (((nn : Int) - 1) - (m : Int)).toNat < _ from (by (try rw [List.length_set]); omega)))) (get_d (l := dealC pk nn m) (u := 0) (by (try rw [List.length_set]); omega)) rfl Dea_ag_int)) rfl <| fw rfl rfl (fun _ => iA ((((nn : Int) - 1) - (m : Int)).toNat) Try.underlying22 Dea_sz_int rfl rfl (O2.has.adr (Nat.zero_lt_of_lt (show (((nn : Int) - 1) - (m : Int)).toNat < _ from (by (try rw [List.length_set]); omega)))) (by omega) (by (try rw [List.length_set]); omega)) rfl <| fb rfl rfl rfl fun w_29 x_30 Q hK => so (q' := (dealC pk nn m).getD ((pk m : Int).toNat) 0) (j := 0) (i := ((((nn : Int) - 1) - (m : Int)).toNat)) (O2.later x_30) Rep.flat_bare (get_d (l := dealC pk nn m) (u := 0) (by (try rw [List.length_set]); omega)) rfl rfl rfl rfl (fun _ cs h => by have ok_ := (show _ ∧ _ from h).2; obtain rfl := hcI h; exact ⟨rfl, (hoks _ (mem_dd (by omega)))⟩) rfl rfl Dea_sz_int fun w_31 m_32 O_33 => hK _ _ ?_
        have q_34 := x_30.size
        have z_29 := Ext.tr z_21 x_30
        have q_35 := m_32.size
        have z_31 := Ext.mod z_29 m_32 (fun q hq => ((O2.later x_30).lt q hq).1)
        have q_36 := m_32.size
        refine fw rfl rfl (fun _ => iA ((pk m : Int).toNat) Try.underlying22 Dea_sz_int rfl rfl (O_33.has.adr (Nat.zero_lt_of_lt (show (pk m : Int).toNat < _ from (by (try rw [List.length_set]); omega)))) (by omega) (by (try rw [List.length_set]); omega)) rfl <| fb rfl rfl rfl fun w_37 x_38 Q hK => so (q' := (dealC pk nn m).getD ((((nn : Int) - 1) - (m : Int)).toNat) 0) (j := 0) (i := ((pk m : Int).toNat)) (O_33.later x_38) Rep.flat_bare (get_d (l := (dealC pk nn m).set ((((nn : Int) - 1) - (m : Int)).toNat) ((dealC pk nn m).getD ((pk m : Int).toNat) 0)) (u := 0) (by (try rw [List.length_set]); omega)) rfl rfl rfl rfl (fun _ cs h => by have ok_ := (show _ ∧ _ from h).2; obtain rfl := hcI h; exact ⟨rfl, (hoks _ (mem_dd (by omega)))⟩) rfl rfl Dea_sz_int fun w_39 m_40 O_41 => hK _ _ ?_
        have q_42 := x_38.size
        have z_37 := Ext.tr z_31 x_38
        have q_43 := m_40.size
        have z_39 := Ext.mod z_37 m_40 (fun q hq => ((O_33.later x_38).lt q hq).1)
        have q_44 := m_40.size
        refine fn fun w_45 x_46 => ?_
        have q_47 := x_46.size
        have z_45 := Ext.tr z_39 x_46
        refine nB <| nT <| rg <| vl (mv rfl) rfl <| vl (bsu rfl rfl (inI (by omega))) rfl <| vl (as_ rfl) rfl <| nl <| ?_
        have e2 : dealC pk nn (m + 1) = ((dealC pk nn m).set ((((nn : Int) - 1) - (m : Int)).toNat) ((dealC pk nn m).getD ((pk m : Int).toNat) 0)).set ((pk m : Int).toNat) ((dealC pk nn m).getD ((((nn : Int) - 1) - (m : Int)).toNat) 0) := deal_succ rfl (by omega)
        have O_41 := O_41.later x_46
        exact nI _ _ ⟨m + 1, rfl, rfl, z_45, (by rw [e2]; exact O_41), by omega⟩ (by omega) (.cons rfl (.cons rfl (.cons rfl (.cons rfl (.cons rfl (.cons (loI rfl (by first | omega | rfl | (simp <;> omega))) .nil))))))
      · refine xt <| xT <| xK <| xB <| nT <| sq <| rg <| vl (mv rfl) rfl <| vl (mv rfl) rfl <| vl (as_ rfl) rfl <| vl (as_ rfl) rfl <| vl (as_ rfl) rfl <| nl <| nT <| rt <| tR (.tmp rfl (.tmp rfl (.tmp rfl .nil))) <| ?_
        have em : m = nn - 1 := by omega
        subst em
        exact ⟨_, _, .inl ⟨by omega, by rw [deal_len]; rfl, O2⟩, z_21⟩
set_option maxRecDepth 100000 in
set_option maxHeartbeats 400000 in
theorem deal_neg (x n : Int) (w : World) (hn : n < 0 ∨ 52 < n) :
    Calls Try.prog 49 #[.int .u32 x, .int .i64 n] w (fun e w' => e = .returned (.tuple #[.slice none 0 0, .int .u32 x, .int .i64 1]) ∧ Ext w w') := by
  refine calls_W (n := 60) Try.func49 rfl rfl rfl ?_
  refine sq <| rg <| vl (as_ rfl) rfl <| vl (as_ rfl) rfl <| vl (as_ rfl) rfl <| nl <| nT <| sq <| sq <| rg <| vl (mv rfl) rfl <| vl (blt rfl rfl) rfl <| vl (mv rfl) rfl <| vQ rfl rfl rfl rfl (fun hc => mv rfl) rfl <| vQ rfl rfl rfl rfl (fun hc => bgt (gt hc rfl) rfl) rfl <| vl (pO rfl rfl rfl rfl) rfl <| nl <| nT <| ?_
  have h_1 : ((decide (n < 0)) || (decide (52 < n))) = true := by rcases hn with hn | hn <;> simp [hn]
  refine cT (by rw [← h_1]; rfl) <| sq <| rg <| vl (mv rfl) rfl <| vl (as_ rfl) rfl <| vl (as_ rfl) rfl <| vl (as_ rfl) rfl <| nl <| nT <| rt <| tT <| tR (.tmp rfl (.tmp rfl (.tmp rfl .nil))) <| ?_
  exact ⟨rfl, (Ext.rf w)⟩
end Go.Proofs.Ytkijhejjnlmbmaa
