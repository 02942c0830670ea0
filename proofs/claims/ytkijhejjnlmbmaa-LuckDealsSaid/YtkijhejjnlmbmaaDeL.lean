/-
  LuckDeals. (Printed by bin/deallaw.py.)
-/
import Derived.Test.YtkijhejjnlmbmaaDea
import Derived.Test.YtkijhejjnlmbmaaSrt
import Derived.Test.YtkijhejjnlmbmaaClone
set_option linter.unusedVariables false
set_option linter.unusedSimpArgs false
namespace Go.Proofs.Ytkijhejjnlmbmaa
open Go.RowKit

theorem DeL_en_luck_Deal : Enters Try.prog 49 := en Try.func49 (by kernel_rfl) (by kernel_rfl)
theorem DeL_en_mustkeep_luckLives : Enters Try.prog 50 := en Try.func50 (by kernel_rfl) (by kernel_rfl)
theorem DeL_en_slices_Clone_S_int_int_ : Enters Try.prog 19 := en Try.func19 (by kernel_rfl) (by kernel_rfl)
theorem DeL_en_slices_Sort_S_int_int_ : Enters Try.prog 23 := en Try.func23 (by kernel_rfl) (by kernel_rfl)
theorem DeL_en_luck_Pick : Enters Try.prog 51 := en Try.func51 (by kernel_rfl) (by kernel_rfl)
theorem DeL_el_S_int : ElT Try.prog repI 22 3 8 := ElT.mk_ (z := .int .i64 0) (k := 1) Try.underlying22 info_int rfl rfl (by decide) (fun j u h => raw0I j u h)
theorem DeL_sz_int : Sz Try.prog 3 1 := fun _ => by kernel_rfl
theorem DeL_ag_int : Ag Try.prog 3 false := fun _ => by kernel_rfl
theorem wf_u32 {x : Int} (h : (Lit.int .u32 x).wf = true) : 0 ≤ x ∧ x < 4294967296 := by
  have h2 : IntKind.u32.min ≤ x ∧ x ≤ IntKind.u32.max := by simpa [Lit.wf] using h
  have e1 : IntKind.u32.min = 0 := rfl
  have e2 : IntKind.u32.max = 4294967295 := rfl
  omega
theorem Luck.pick_lt (s : Luck.W) (n : Nat) (h : 1 ≤ n) : Luck.pickN s n < n := by
  have h0 := s.isLt
  unfold Luck.pickN
  have h1 : s.toNat / 65536 < 65536 := by omega
  have h2 : s.toNat / 65536 * n ≤ 65535 * n := Nat.mul_le_mul_right _ (by omega)
  omega
theorem deal_in (sd : Nat → Luck.W) (pk : Nat → Nat) (nn : Nat) (w : World) (hpk : ∀ m, m < nn → pk m < nn - m) (hP : ∀ m, m < nn → ∀ (w : World) (x : Int), x = ((nn - m : Nat) : Int) → Calls Try.prog 51 #[.int .u32 (Bv.U (sd m)), .int .i64 x] w fun e w' => e = .returned (.tuple #[.int .i64 (pk m : Int), .int .u32 (Bv.U (sd (m + 1))), .int .i64 0]) ∧ w = w') (hn : nn ≤ 52) : Calls Try.prog 49 #[.int .u32 (Bv.U (sd 0)), .int .i64 (nn : Int)] w (fun e w' => ∃ A c, e = .returned (.tuple #[.slice A (dealC pk nn (nn - 1)).length c, .int .u32 (Bv.U (sd (nn - 1))), .int .i64 0]) ∧ repI.SOwn 3 8 w' w.heap.size (Rep.blkOf A) A c (dealC pk nn (nn - 1)) ∧ Ext w w') := by
  refine (deal_nat sd pk nn w hpk hP).mono fun e w' he => ?_
  obtain ⟨A, c, (⟨_, h1, h2⟩ | ⟨h0, _⟩), h3⟩ := he
  · exact ⟨A, c, h1, h2, h3⟩
  · omega
theorem deal_out (x n : Int) (w : World) (hn : n < 0 ∨ 52 < n) : Calls Try.prog 49 #[.int .u32 x, .int .i64 n] w (fun e w' => e = .returned (.tuple #[.slice none 0 0, .int .u32 x, .int .i64 1]) ∧ Ext w w') := deal_neg x n w hn
def picksK (pk : Nat → Nat) (m : Nat) : List Int := (List.range m).map fun (i : Nat) => (pk i : Int)
theorem picks_len (pk : Nat → Nat) (m : Nat) : (picksK pk m).length = m := by unfold picksK; simp
theorem picks_succ (pk : Nat → Nat) (m : Nat) : picksK pk (m + 1) = picksK pk m ++ [(pk m : Int)] := by unfold picksK; rw [List.range_succ, List.map_append]; rfl
theorem picks_get {pk : Nat → Nat} {m j : Nat} (h : j < m) : (picksK pk m)[j]? = some (pk j : Int) := by unfold picksK; simp [h]
theorem sorted_len (l : List Int) : (sorted l).length = l.length := (sorted_perm l).length_eq
theorem swap_perm {l : List Int} {i j : Nat} (hi : i < l.length) (hj : j < l.length) : (swapL l i j).Perm l := by
  unfold swapL; rw [getD_dd hi, getD_dd hj]; exact List.set_set_perm hi hj
theorem swap_swap {l : List Int} {i j : Nat} (hi : i < l.length) (hj : j < l.length) : swapL (swapL l i j) i j = l := by
  unfold swapL
  rw [getD_dd hi, getD_dd hj, getD_dd (by simp only [List.length_set]; omega), getD_dd (by simp only [List.length_set]; omega)]
  refine List.ext_getElem (by simp) fun q h1 h2 => ?_
  simp only [List.getElem_set]
  by_cases e1 : i = j
  · subst e1; by_cases e2 : i = q
    · subst e2; simp
    · simp [e2]
  · by_cases e2 : j = q
    · subst e2; simp [e1]; intro h; exact absurd h.symm e1
    · by_cases e3 : i = q
      · subst e3; simp [e1, Ne.symm e1, e2]
      · simp [e2, e3]
theorem deal_perm {pk : Nat → Nat} {nn : Nat} (hpk : ∀ m, m < nn → pk m < nn - m) : ∀ m, m ≤ nn → (dealC pk nn m).Perm (rangeI nn)
  | 0, _ => List.Perm.refl _
  | m + 1, h => by
    have h1 := hpk m (by omega)
    exact (swap_perm (by rw [deal_len]; omega) (by rw [deal_len]; omega)).trans (deal_perm hpk m (by omega))
theorem rangeI_pw (nn : Nat) : (rangeI nn).Pairwise (fun a b => a ≤ b) := by
  unfold rangeI
  rw [List.pairwise_map]
  exact List.pairwise_lt_range.imp fun h => by omega
theorem sorted_range {pk : Nat → Nat} {nn : Nat} (hpk : ∀ m, m < nn → pk m < nn - m) : sorted (dealC pk nn (nn - 1)) = rangeI nn := by
  have h1 : (sorted (dealC pk nn (nn - 1))).Pairwise (fun a b => (decide (a ≤ b)) = true) := List.pairwise_mergeSort (fun a b c h1 h2 => by simp at *; omega) (fun a b => by simp; omega) _
  exact List.Perm.eq_of_pairwise (fun a b _ _ h1 h2 => by omega) (h1.imp fun h => by simpa using h) (rangeI_pw nn) ((sorted_perm _).trans (deal_perm hpk _ (by omega)))
theorem range_get {nn i : Nat} (h : i < nn) : (rangeI nn).getD i 0 = (i : Int) := by
  rw [getD_dd (by unfold rangeI; simpa using h)]; unfold rangeI; simp
theorem deal_back {pk : Nat → Nat} {nn r : Nat} (hr : r + 1 < nn) (hpk : ∀ m, m < nn → pk m < nn - m) : dealC pk nn (nn - 1 - (r + 1)) = ((dealC pk nn (nn - 1 - r)).set ((r : Int) + 1).toNat ((dealC pk nn (nn - 1 - r)).getD (pk ((((nn : Int) - 1) - ((r : Int) + 1)).toNat) : Int).toNat 0)).set (pk ((((nn : Int) - 1) - ((r : Int) + 1)).toNat) : Int).toNat ((dealC pk nn (nn - 1 - r)).getD ((r : Int) + 1).toNat 0) := by
  have e1 : ((r : Int) + 1).toNat = r + 1 := by omega
  have e2 : (((nn : Int) - 1) - ((r : Int) + 1)).toNat = nn - 1 - (r + 1) := by omega
  rw [e1, e2, Int.toNat_natCast]
  generalize hm : nn - 1 - (r + 1) = m
  have e3 : nn - 1 - r = m + 1 := by omega
  rw [e3]
  have h1 := hpk m (by omega)
  have h2 := swap_swap (l := dealC pk nn m) (i := nn - 1 - m) (j := pk m) (by rw [deal_len]; omega) (by rw [deal_len]; omega)
  rw [show nn - 1 - m = r + 1 by omega] at h2
  rw [dealC, show nn - 1 - m = r + 1 by omega]
  exact h2.symm
theorem deal_end {pk : Nat → Nat} {nn r i : Nat} (hpk : ∀ m, m < nn → pk m < nn - m) (er : nn - 1 - r = 0) (hi : i < nn) : (((dealC pk nn (nn - 1 - r)).getD i 0 != (i : Int)) || ((sorted (dealC pk nn (nn - 1))).getD i 0 != (i : Int))) = false := by
  rw [er, sorted_range hpk]
  show (((rangeI nn).getD i 0 != (i : Int)) || ((rangeI nn).getD i 0 != (i : Int))) = false
  rw [range_get hi]; simp
set_option maxRecDepth 100000 in
set_option maxHeartbeats 400000 in
theorem luckDeals_in (sd : Nat → Luck.W) (pk : Nat → Nat) (nn : Nat) (w : World) (hpk : ∀ m, m < nn → pk m < nn - m) (hP : ∀ m, m < nn → ∀ (w : World) (x : Int), x = ((nn - m : Nat) : Int) → Calls Try.prog 51 #[.int .u32 (Bv.U (sd m)), .int .i64 x] w fun e w' => e = .returned (.tuple #[.int .i64 (pk m : Int), .int .u32 (Bv.U (sd (m + 1))), .int .i64 0]) ∧ w = w') (hn : nn ≤ 52) :
    Calls Try.prog 12 #[.int .u32 (Bv.U (sd 0)), .int .i64 (nn : Int)] w (fun e w' => e = .returned (.bool true) ∧ Ext w w') := by
  refine calls_W (n := 129) Try.func12 rfl rfl rfl ?_
  refine sq <| rg <| vl (as_ rfl) rfl <| nl <| nT <| sq <| rg <| vl (mv rfl) rfl <| vl (mv rfl) rfl <| ca DeL_en_luck_Deal rfl rfl ((deal_in sd pk nn _ hpk hP hn).mono ?_)
  rintro e w_4 ⟨A_1, c_1, rfl, OD_1, x_5⟩
  refine ⟨_, rfl, ?_⟩
  have q_6 := x_5.size
  have z_4 := Ext.tr (Ext.rf w) x_5
  have u_2 := fun q hq => (OD_1.lt q hq).2
  have lo_3 := fun q hq => (OD_1.lt q hq).1
  refine vl (mv rfl) rfl <| vl (ex rfl rfl) rfl <| vl (ex rfl rfl) rfl <| vl (ex rfl rfl) rfl <| vl (as_ rfl) rfl <| vl (as_ rfl) rfl <| vl (as_ rfl) rfl <| nl <| nT <| sq <| sq <| rg <| ca DeL_en_mustkeep_luckLives rfl rfl ((Luck.lives_any _).mono ?_)
  rintro e w_7 ⟨rfl, rfl⟩
  refine ⟨_, rfl, ?_⟩
  refine vl (nt rfl) rfl <| vl (mv rfl) rfl <| ug rfl rfl rfl <| vl (mv rfl) rfl <| ug rfl rfl rfl <| vl (bne rfl rfl) rfl <| vl (pkF rfl rfl) rfl <| nl <| nT <| cF rfl <| sk <| nT <| sq <| rg <| vl (mv rfl) rfl <| ca DeL_en_slices_Clone_S_int_int_ rfl rfl ((clone_I _ _ (dealC pk nn (nn - 1)) _ OD_1.has).mono ?_)
  rintro e w_12 ⟨A_9, c_9, rfl, OC_9, hn_9, x_13⟩
  refine ⟨_, rfl, ?_⟩
  have q_14 := x_13.size
  have z_12 := Ext.tr z_4 x_13
  have u_10 := fun q hq => (OC_9.lt q hq).2
  have lo_11 := fun q hq => (OC_9.lt q hq).1
  refine vl (as_ rfl) rfl <| nl <| nT <| sq <| rg <| vl (mv rfl) rfl <| ca DeL_en_slices_Sort_S_int_int_ rfl rfl ((sortI_any _ OC_9).mono ?_)
  rintro e w_17 ⟨rfl, OZ_15, m_16⟩
  refine ⟨_, rfl, ?_⟩
  have q_18 := m_16.size
  have z_17 := Ext.mod z_12 m_16 (fun q hq => by have := (OC_9.lt q hq).1; omega)
  refine nl <| nT <| sq <| rg <| vl (as_ rfl) rfl <| nl <| nT <| sq <| rg <| vl (mv rfl) rfl <| vl (as_ rfl) rfl <| nl <| nT <| sq <| sq <| rg <| vl (mv rfl) rfl <| vl (bsu rfl rfl (inI (by omega))) rfl <| vl (as_ rfl) rfl <| nl <| nT <| bk <| ?_
  have OD_1 := OD_1.later x_13
  have OD_1 := OD_1.mod m_16 (fun q hq h => by exfalso; (have := lo_11 q h; (have := u_2 q hq; omega)))
  refine lp (fun mI EI wI => ∃ m : Nat, ∃ Ap : Option Addr, ∃ cp_ : Nat, EI = [(1, .int .i64 (nn : Int)), (5, .slice A_1 ((dealC pk nn (nn - 1)).length) c_1), (6, .int .u32 (Bv.U (sd (nn - 1)))), (8, .slice A_9 ((dealC pk nn (nn - 1)).length) c_9), (9, .slice Ap ((picksK pk m).length) cp_), (10, .int .u32 (Bv.U (sd m))), (11, .int .i64 (((nn : Int) - 1) - (m : Int)))] ∧ mI = nn - m ∧ Ext w wI ∧ repI.SOwn 3 8 wI w.heap.size (Rep.blkOf A_1) A_1 c_1 (dealC pk nn (nn - 1)) ∧ repI.SOwn 3 8 wI w_4.heap.size (Rep.blkOf A_9) A_9 c_9 (sorted (dealC pk nn (nn - 1))) ∧ repI.SOwn 3 8 wI w.heap.size (Rep.blkOf Ap) Ap cp_ (picksK pk m) ∧ (m ≤ nn - 1) ∧ (∀ q ∈ Rep.blkOf Ap, q ∈ Rep.blkOf A_1 → False) ∧ (∀ q ∈ Rep.blkOf Ap, q ∈ Rep.blkOf A_9 → False)) _ _ ⟨0, none, 0, rfl, rfl, z_17, OD_1, OZ_15, (Rep.SOwn.nil _), by omega, (fun q hq hb => by (simp [Rep.blkOf] at hq)), (fun q hq hb => by (simp [Rep.blkOf] at hq))⟩ (.cons rfl (.cons rfl (.cons rfl (.cons rfl (.cons rfl (.cons rfl (.cons (loI rfl (by omega)) .nil))))))) ?_
  rintro m_22 E_23 w_21 ⟨m, Ap, cp_, rfl, rfl, z_21, OD_1, OZ_15, OP, hm, d_19, d_20⟩
  have q_24 := z_21.size
  have u_25 := fun q hq => (OD_1.lt q hq).2
  have u_26 := fun q hq => (OZ_15.lt q hq).2
  have u_27 := fun q hq => (OP.lt q hq).2
  have hpl := picks_len pk m
  refine sq <| sq <| rg <| vl (mv rfl) rfl <| vl (bgt rfl rfl) rfl <| nl <| nT <| ?_
  refine clt rfl (fun h_28 => ?_) (fun h_28 => ?_)
  · have hp1 := fun h => hpk m h
    refine sk <| nT <| sq <| bk <| sq <| rg <| vl (mv rfl) rfl <| vl (mv rfl) rfl <| vl (bad rfl rfl (inI (by omega))) rfl <| ca DeL_en_luck_Pick rfl rfl ((hP m (by omega) _ _ (by omega)).mono ?_)
    rintro e w_29 ⟨rfl, rfl⟩
    refine ⟨_, rfl, ?_⟩
    refine vl (mv rfl) rfl <| vl (ex rfl rfl) rfl <| vl (ex rfl rfl) rfl <| vl (ex rfl rfl) rfl <| vl (as_ rfl) rfl <| vl (as_ rfl) rfl <| vl (as_ rfl) rfl <| nl <| nT <| sq <| sq <| rg <| vl (mv rfl) rfl <| vl (bne rfl rfl) rfl <| nl <| nT <| cF rfl <| sk <| nT <| rg <| vl (mv rfl) rfl <| vl (mv rfl) rfl <| bs (e := 3) (cs := [.int .i64 (pk m : Int)]) rfl (fun _ => by kernel_rfl) rfl fun w_31 b_32 x_33 l_34 B_35 => ?_
    have q_36 := x_33.size
    have z_31 := Ext.tr z_21 x_33
    have q_37 := B_35.lt
    have OP := OP.later x_33
    refine ap DeL_el_S_int Rep.flat_bare OP (Blk.has1 (R := repI) (by_ := 8) (q := (pk m : Int)) B_35 ⟨rfl, okI_iff.2 (by have := hpk m (by omega); omega)⟩ (by decide)) rfl rfl (by simp only [List.length_cons, List.length_nil]; omega) (by simp only [List.length_cons, List.length_nil]; omega) z_31.size rfl fun w_38 A_39 c_40 m_41 O_42 g_43 n_44 => ?_
    have q_45 := m_41.size
    have z_38 := Ext.mod z_31 m_41 (fun q hq => (OP.lt q hq).1)
    have u_46 := fun q hq => (O_42.lt q hq).2
    have q_47 := m_41.size
    refine vl (mv rfl) rfl <| vl (as_ rfl) rfl <| vl (as_ rfl) rfl <| nl <| nB <| nT <| rg <| vl (mv rfl) rfl <| vl (bsu rfl rfl (inI (by omega))) rfl <| vl (as_ rfl) rfl <| nl <| ?_
    have e1 : picksK pk (m + 1) = picksK pk m ++ [(pk m : Int)] := picks_succ pk m
    have OD_1 := OD_1.later x_33
    have OD_1 := OD_1.mod m_41 (fun q hq h => by exfalso; (exact d_19 q h hq))
    have OZ_15 := OZ_15.later x_33
    have OZ_15 := OZ_15.mod m_41 (fun q hq h => by exfalso; (exact d_20 q h hq))
    exact nI _ _ ⟨m + 1, A_39, c_40, rfl, rfl, z_38, OD_1, OZ_15, (by rw [e1]; exact O_42), by omega, (fun q hq hb => by (exact Or.elim (g_43 q hq) (fun k_48 => by (exact d_19 q k_48 hb)) (fun k_48 => by (have := u_25 q hb; have := u_2 q hb; omega)))), (fun q hq hb => by (exact Or.elim (g_43 q hq) (fun k_49 => by (exact d_20 q k_49 hb)) (fun k_49 => by (have := u_26 q hb; have := u_10 q hb; omega))))⟩ (by omega) (.cons rfl (.cons rfl (.cons rfl (.cons rfl (.cons (by rw [e1]; rfl) (.cons rfl (.cons (loI rfl (by first | omega | rfl | (simp <;> omega))) .nil)))))))
  · refine xt <| xT <| xK <| xB <| nT <| sq <| rg <| vl (mv rfl) rfl <| ca DeL_en_slices_Clone_S_int_int_ rfl rfl ((clone_I _ _ (dealC pk nn (nn - 1)) _ OD_1.has).mono ?_)
    rintro e w_53 ⟨A_50, c_50, rfl, OC_50, hn_50, x_54⟩
    refine ⟨_, rfl, ?_⟩
    have q_55 := x_54.size
    have z_53 := Ext.tr z_21 x_54
    have u_51 := fun q hq => (OC_50.lt q hq).2
    have lo_52 := fun q hq => (OC_50.lt q hq).1
    refine vl (as_ rfl) rfl <| nl <| nT <| sq <| sq <| rg <| vl (as_ rfl) rfl <| nl <| nT <| bk <| ?_
    have em : m = nn - 1 := by omega
    subst em
    have OD_1 := OD_1.later x_54
    have OZ_15 := OZ_15.later x_54
    have OP := OP.later x_54
    refine lp (fun mI EI wI => ∃ r : Nat, EI = [(1, .int .i64 (nn : Int)), (5, .slice A_1 ((dealC pk nn (nn - 1)).length) c_1), (6, .int .u32 (Bv.U (sd (nn - 1)))), (8, .slice A_9 ((dealC pk nn (nn - 1)).length) c_9), (9, .slice Ap ((picksK pk (nn - 1)).length) cp_), (10, .int .u32 (Bv.U (sd (nn - 1)))), (15, .slice A_50 ((dealC pk nn (nn - 1)).length) c_50), (16, .int .i64 ((r : Int) + 1))] ∧ mI = nn - r ∧ Ext w wI ∧ repI.SOwn 3 8 wI w.heap.size (Rep.blkOf A_1) A_1 c_1 (dealC pk nn (nn - 1)) ∧ repI.SOwn 3 8 wI w_4.heap.size (Rep.blkOf A_9) A_9 c_9 (sorted (dealC pk nn (nn - 1))) ∧ repI.SOwn 3 8 wI w.heap.size (Rep.blkOf Ap) Ap cp_ (picksK pk (nn - 1)) ∧ repI.SOwn 3 8 wI w_21.heap.size (Rep.blkOf A_50) A_50 c_50 (dealC pk nn (nn - 1 - r)) ∧ (r ≤ nn - 1) ∧ (∀ q ∈ Rep.blkOf A_50, q ∈ Rep.blkOf A_1 → False) ∧ (∀ q ∈ Rep.blkOf A_50, q ∈ Rep.blkOf A_9 → False) ∧ (∀ q ∈ Rep.blkOf A_50, q ∈ Rep.blkOf Ap → False)) _ _ ⟨0, rfl, rfl, z_53, OD_1, OZ_15, OP, OC_50, by omega, (fun q hq hb => by (have := lo_52 q hq; (have := u_25 q hb; have := u_2 q hb; omega))), (fun q hq hb => by (have := lo_52 q hq; (have := u_26 q hb; have := u_10 q hb; omega))), (fun q hq hb => by (have := lo_52 q hq; (have := u_27 q hb; omega)))⟩ (.cons rfl (.cons rfl (.cons rfl (.cons rfl (.cons rfl (.cons rfl (.cons rfl (.cons rfl .nil)))))))) ?_
    rintro m_60 E_61 w_59 ⟨r, rfl, rfl, z_59, OD_1, OZ_15, OP, OBK, hr, d_56, d_57, d_58⟩
    have q_62 := z_59.size
    have u_63 := fun q hq => (OD_1.lt q hq).2
    have u_64 := fun q hq => (OZ_15.lt q hq).2
    have u_65 := fun q hq => (OP.lt q hq).2
    have u_66 := fun q hq => (OBK.lt q hq).2
    have hdl := deal_len pk nn (nn - 1 - r)
    have hpl := picks_len pk (nn - 1)
    have hoks := repI_ok OBK.has
    refine sq <| sq <| rg <| vl (mv rfl) rfl <| vl (mv rfl) rfl <| vl (ln Try.underlying22 rfl) rfl <| vl (blt rfl rfl) rfl <| vl (mv rfl) rfl <| vQ rfl rfl rfl rfl (fun hc => mv rfl) rfl <| vQ rfl rfl rfl rfl (fun hc => ln Try.underlying22 (gt hc rfl)) rfl <| vQ rfl rfl rfl rfl (fun hc => mv rfl) rfl <| vQ rfl rfl rfl rfl (fun hc => bsu (gt hc rfl) rfl (inI (by (try simp only [Bool.or_eq_true, Bool.or_eq_false_iff, Bool.and_eq_true, Bool.and_eq_false_iff, decide_eq_true_eq, decide_eq_false_iff_not, beq_iff_eq, bne_iff_ne, beq_eq_false_iff_ne, bne_eq_false_iff_eq, Bool.not_eq_true', Bool.not_eq_false', Bool.not_eq_true, Bool.not_eq_false, Int.not_lt, Int.not_le, Nat.not_lt, Nat.not_le, ne_eq, Classical.not_not] at hc); omega))) rfl <| vQ rfl rfl rfl rfl (fun hc => beq (gt hc rfl) (gt hc rfl)) rfl <| vl (pA rfl rfl rfl rfl) rfl <| nl <| nT <| ?_
    refine cb rfl (fun h_67 => ?_) (fun h_67 => ?_)
    · simp only [Bool.or_eq_true, Bool.or_eq_false_iff, Bool.and_eq_true, Bool.and_eq_false_iff, decide_eq_true_eq, decide_eq_false_iff_not, beq_iff_eq, bne_iff_ne, beq_eq_false_iff_ne, bne_eq_false_iff_eq, Bool.not_eq_true', Bool.not_eq_false', Bool.not_eq_true, Bool.not_eq_false, Int.not_lt, Int.not_le, Nat.not_lt, Nat.not_le, ne_eq, Classical.not_not, deal_len, picks_len] at h_67
      have hp1 := hpk ((((nn : Int) - 1) - ((r : Int) + 1)).toNat) (by omega)
      refine sk <| nT <| sq <| bk <| sq <| rg <| vl (mv rfl) rfl <| vl (mv rfl) rfl <| vl (bsu rfl rfl (inI (by omega))) rfl <| vl (mv rfl) rfl <| vl (bsu rfl rfl (inI (by omega))) rfl <| vl (iA ((((nn : Int) - 1) - ((r : Int) + 1)).toNat) Try.underlying22 DeL_sz_int rfl rfl (OP.has.adr (Nat.zero_lt_of_lt (show (((nn : Int) - 1) - ((r : Int) + 1)).toNat < _ from (by simp only [List.length_set, deal_len, picks_len, sorted_len]; omega)))) (by omega) (by simp only [List.length_set, deal_len, picks_len, sorted_len]; omega)) rfl <| vl (ld rfl (Rep.SHas.one' hcI (OP.has.adh (Nat.zero_lt_of_lt (show (((nn : Int) - 1) - ((r : Int) + 1)).toNat < _ from (by simp only [List.length_set, deal_len, picks_len, sorted_len]; omega)))) (picks_get (by omega)) rfl DeL_ag_int)) rfl <| vl (as_ rfl) rfl <| nl <| nT <| ?_
      refine rd [(7, 0), (11, 0), (13, 3), (15, 3)] [0, 1, 2, 3, 4, 5, 6, 7, 8, 9, 10, 11, 12, 13, 14, 15] (by kernel_rfl) (by kernel_rfl) ?_
      refine fw rfl rfl (fun _ => mv rfl) rfl <| fw rfl rfl (fun _ => mv rfl) rfl <| fw rfl rfl (fun _ => mv rfl) rfl <| fw rfl rfl (fun _ => mv rfl) rfl <| fw rfl rfl (fun _ => mv rfl) rfl <| fw rfl rfl (fun _ => mv rfl) rfl <| fw rfl rfl (fun _ => iA (((pk ((((nn : Int) - 1) - ((r : Int) + 1)).toNat) : Int)).toNat) Try.underlying22 DeL_sz_int rfl rfl (OBK.has.adr (Nat.zero_lt_of_lt (show ((pk ((((nn : Int) - 1) - ((r : Int) + 1)).toNat) : Int)).toNat < _ from (by simp only [List.length_set, deal_len, picks_len, sorted_len]; omega)))) (by omega) (by simp only [List.length_set, deal_len, picks_len, sorted_len]; omega)) rfl <| fq rfl rfl (fun _ x => ld rfl (Rep.SHas.one' hcI ((OBK.later x).has.adh (Nat.zero_lt_of_lt (show ((pk ((((nn : Int) - 1) - ((r : Int) + 1)).toNat) : Int)).toNat < _ from (by simp only [List.length_set, deal_len, picks_len, sorted_len]; omega)))) (get_d (l := dealC pk nn (nn - 1 - r)) (u := 0) (by simp only [List.length_set, deal_len, picks_len, sorted_len]; omega)) rfl DeL_ag_int)) rfl <| fw rfl rfl (fun _ => mv rfl) rfl <| fw rfl rfl (fun _ => mv rfl) rfl <| fw rfl rfl (fun _ => iA (((r : Int) + 1).toNat) Try.underlying22 DeL_sz_int rfl rfl (OBK.has.adr (Nat.zero_lt_of_lt (show ((r : Int) + 1).toNat < _ from (by simp only [List.length_set, deal_len, picks_len, sorted_len]; omega)))) (by omega) (by simp only [List.length_set, deal_len, picks_len, sorted_len]; omega)) rfl <| fq rfl rfl (fun _ x => ld rfl (Rep.SHas.one' hcI ((OBK.later x).has.adh (Nat.zero_lt_of_lt (show ((r : Int) + 1).toNat < _ from (by simp only [List.length_set, deal_len, picks_len, sorted_len]; omega)))) (get_d (l := dealC pk nn (nn - 1 - r)) (u := 0) (by simp only [List.length_set, deal_len, picks_len, sorted_len]; omega)) rfl DeL_ag_int)) rfl <| fw rfl rfl (fun _ => iA (((r : Int) + 1).toNat) Try.underlying22 DeL_sz_int rfl rfl (OBK.has.adr (Nat.zero_lt_of_lt (show ((r : Int) + 1).toNat < _ from (by simp only [List.length_set, deal_len, picks_len, sorted_len]; omega)))) (by omega) (by simp only [List.length_set, deal_len, picks_len, sorted_len]; omega)) rfl <| fb rfl rfl rfl fun w_68 x_69 Q hK => so (q' := (dealC pk nn (nn - 1 - r)).getD (((pk ((((nn : Int) - 1) - ((r : Int) + 1)).toNat) : Int)).toNat) 0) (j := 0) (i := (((r : Int) + 1).toNat)) (OBK.later x_69) Rep.flat_bare (get_d (l := dealC pk nn (nn - 1 - r)) (u := 0) (by simp only [List.length_set, deal_len, picks_len, sorted_len]; omega)) rfl rfl rfl rfl (fun _ cs h => by have ok_ := (show _ ∧ _ from h).2; obtain rfl := hcI h; exact ⟨rfl, (hoks _ (mem_dd (by omega)))⟩) rfl rfl DeL_sz_int fun w_70 m_71 O_72 => hK _ _ ?_
      have q_73 := x_69.size
      have z_68 := Ext.tr z_59 x_69
      have q_74 := m_71.size
      have z_70 := Ext.mod z_68 m_71 (fun q hq => Nat.le_trans (by omega) ((OBK.later x_69).lt q hq).1)
      have q_75 := m_71.size
      refine fw rfl rfl (fun _ => iA (((pk ((((nn : Int) - 1) - ((r : Int) + 1)).toNat) : Int)).toNat) Try.underlying22 DeL_sz_int rfl rfl (O_72.has.adr (Nat.zero_lt_of_lt (show ((pk ((((nn : Int) - 1) - ((r : Int) + 1)).toNat) : Int)).toNat < _ from (by simp only [List.length_set, deal_len, picks_len, sorted_len]; omega)))) (by omega) (by simp only [List.length_set, deal_len, picks_len, sorted_len]; omega)) rfl <| fb rfl rfl rfl fun w_76 x_77 Q hK => so (q' := (dealC pk nn (nn - 1 - r)).getD (((r : Int) + 1).toNat) 0) (j := 0) (i := (((pk ((((nn : Int) - 1) - ((r : Int) + 1)).toNat) : Int)).toNat)) (O_72.later x_77) Rep.flat_bare (get_d (l := (dealC pk nn (nn - 1 - r)).set (((r : Int) + 1).toNat) ((dealC pk nn (nn - 1 - r)).getD (((pk ((((nn : Int) - 1) - ((r : Int) + 1)).toNat) : Int)).toNat) 0)) (u := 0) (by simp only [List.length_set, deal_len, picks_len, sorted_len]; omega)) rfl rfl rfl rfl (fun _ cs h => by have ok_ := (show _ ∧ _ from h).2; obtain rfl := hcI h; exact ⟨rfl, (hoks _ (mem_dd (by omega)))⟩) rfl rfl DeL_sz_int fun w_78 m_79 O_80 => hK _ _ ?_
      have q_81 := x_77.size
      have z_76 := Ext.tr z_70 x_77
      have q_82 := m_79.size
      have z_78 := Ext.mod z_76 m_79 (fun q hq => Nat.le_trans (by omega) ((O_72.later x_77).lt q hq).1)
      have q_83 := m_79.size
      refine fn fun w_84 x_85 => ?_
      have q_86 := x_85.size
      have z_84 := Ext.tr z_78 x_85
      refine nB <| nT <| rg <| vl (mv rfl) rfl <| vl (bad rfl rfl (inI (by omega))) rfl <| vl (as_ rfl) rfl <| nl <| ?_
      have e2 : dealC pk nn (nn - 1 - (r + 1)) = ((dealC pk nn (nn - 1 - r)).set (((r : Int) + 1).toNat) ((dealC pk nn (nn - 1 - r)).getD (((pk ((((nn : Int) - 1) - ((r : Int) + 1)).toNat) : Int)).toNat) 0)).set (((pk ((((nn : Int) - 1) - ((r : Int) + 1)).toNat) : Int)).toNat) ((dealC pk nn (nn - 1 - r)).getD (((r : Int) + 1).toNat) 0) := deal_back (by omega) hpk
      have OD_1 := OD_1.later x_69
      have OD_1 := OD_1.mod m_71 (fun q hq h => by exfalso; (exact d_56 q h hq))
      have OD_1 := OD_1.later x_77
      have OD_1 := OD_1.mod m_79 (fun q hq h => by exfalso; (exact d_56 q h hq))
      have OD_1 := OD_1.later x_85
      have OZ_15 := OZ_15.later x_69
      have OZ_15 := OZ_15.mod m_71 (fun q hq h => by exfalso; (exact d_57 q h hq))
      have OZ_15 := OZ_15.later x_77
      have OZ_15 := OZ_15.mod m_79 (fun q hq h => by exfalso; (exact d_57 q h hq))
      have OZ_15 := OZ_15.later x_85
      have OP := OP.later x_69
      have OP := OP.mod m_71 (fun q hq h => by exfalso; (exact d_58 q h hq))
      have OP := OP.later x_77
      have OP := OP.mod m_79 (fun q hq h => by exfalso; (exact d_58 q h hq))
      have OP := OP.later x_85
      have O_80 := O_80.later x_85
      exact nI _ _ ⟨r + 1, rfl, rfl, z_84, OD_1, OZ_15, OP, (by rw [e2]; exact O_80), by omega, (fun q hq hb => by (exact d_56 q hq hb)), (fun q hq hb => by (exact d_57 q hq hb)), (fun q hq hb => by (exact d_58 q hq hb))⟩ (by omega) (.cons rfl (.cons rfl (.cons rfl (.cons rfl (.cons rfl (.cons rfl (.cons rfl (.cons (loI rfl (by omega)) .nil))))))))
    · simp only [Bool.or_eq_true, Bool.or_eq_false_iff, Bool.and_eq_true, Bool.and_eq_false_iff, decide_eq_true_eq, decide_eq_false_iff_not, beq_iff_eq, bne_iff_ne, beq_eq_false_iff_ne, bne_eq_false_iff_eq, Bool.not_eq_true', Bool.not_eq_false', Bool.not_eq_true, Bool.not_eq_false, Int.not_lt, Int.not_le, Nat.not_lt, Nat.not_le, ne_eq, Classical.not_not, deal_len, picks_len] at h_67
      refine xt <| xT <| xK <| xB <| nT <| sq <| sq <| rg <| vl (mv rfl) rfl <| vl (ln Try.underlying22 rfl) rfl <| vl (mv rfl) rfl <| nl <| nT <| bk <| ?_
      have er : nn - 1 - r = 0 := by omega
      refine lp (fun mI EI wI => ∃ i : Nat, EI = [(1, .int .i64 (nn : Int)), (5, .slice A_1 ((dealC pk nn (nn - 1)).length) c_1), (6, .int .u32 (Bv.U (sd (nn - 1)))), (8, .slice A_9 ((dealC pk nn (nn - 1)).length) c_9), (10, .int .u32 (Bv.U (sd (nn - 1)))), (15, .slice A_50 ((dealC pk nn (nn - 1)).length) c_50), (101, .int .i64 ((((dealC pk nn (nn - 1)).length : Nat) : Int))), (102, .int .i64 (i : Int))] ∧ mI = nn - i ∧ Ext w wI ∧ repI.SOwn 3 8 wI w.heap.size (Rep.blkOf A_1) A_1 c_1 (dealC pk nn (nn - 1)) ∧ repI.SOwn 3 8 wI w_4.heap.size (Rep.blkOf A_9) A_9 c_9 (sorted (dealC pk nn (nn - 1))) ∧ repI.SOwn 3 8 wI w_21.heap.size (Rep.blkOf A_50) A_50 c_50 (dealC pk nn (nn - 1 - r)) ∧ (i ≤ nn)) _ _ ⟨0, rfl, rfl, z_59, OD_1, OZ_15, OBK, by omega⟩ (.cons rfl (.cons rfl (.cons rfl (.cons rfl (.cons rfl (.cons rfl (.cons rfl (.cons (loI rfl (by first | omega | rfl | (simp <;> omega))) .nil)))))))) ?_
      rintro m_88 E_89 w_87 ⟨i, rfl, rfl, z_87, OD_1, OZ_15, OBK, hi⟩
      have q_90 := z_87.size
      have u_91 := fun q hq => (OD_1.lt q hq).2
      have u_92 := fun q hq => (OZ_15.lt q hq).2
      have u_93 := fun q hq => (OBK.lt q hq).2
      have hdl0 := deal_len pk nn (nn - 1)
      have hsl := sorted_len (dealC pk nn (nn - 1))
      refine sq <| rg <| vl (blt rfl rfl) rfl <| nl <| nT <| sq <| ?_
      refine clt rfl (fun h_94 => ?_) (fun h_94 => ?_)
      · refine sk <| nT <| sq <| bk <| sq <| rg <| vl (mv rfl) rfl <| vl (as_ rfl) rfl <| nl <| nT <| sq <| rg <| vl (mv rfl) rfl <| vl (mv rfl) rfl <| vl (iA i Try.underlying22 DeL_sz_int rfl rfl (OBK.has.adr (Nat.zero_lt_of_lt (show i < _ from (by simp only [List.length_set, deal_len, picks_len, sorted_len]; omega)))) rfl (by simp only [List.length_set, deal_len, picks_len, sorted_len]; omega)) rfl <| vl (ld rfl (Rep.SHas.one' hcI (OBK.has.adh (Nat.zero_lt_of_lt (show i < _ from (by simp only [List.length_set, deal_len, picks_len, sorted_len]; omega)))) (get_d (l := dealC pk nn (nn - 1 - r)) (u := 0) (by simp only [List.length_set, deal_len, picks_len, sorted_len]; omega)) rfl DeL_ag_int)) rfl <| vl (mv rfl) rfl <| vl (bne rfl rfl) rfl <| vl (mv rfl) rfl <| vQ rfl rfl rfl rfl (fun hc => mv rfl) rfl <| vQ rfl rfl rfl rfl (fun hc => mv rfl) rfl <| vQ rfl rfl rfl rfl (fun hc => iA i Try.underlying22 DeL_sz_int (gt hc rfl) (gt hc rfl) (OZ_15.has.adr (Nat.zero_lt_of_lt (show i < _ from (by simp only [List.length_set, deal_len, picks_len, sorted_len]; omega)))) rfl (by simp only [List.length_set, deal_len, picks_len, sorted_len]; omega)) rfl <| vQ rfl rfl rfl rfl (fun hc => ld (gt hc rfl) (Rep.SHas.one' hcI (OZ_15.has.adh (Nat.zero_lt_of_lt (show i < _ from (by simp only [List.length_set, deal_len, picks_len, sorted_len]; omega)))) (get_d (l := sorted (dealC pk nn (nn - 1))) (u := 0) (by simp only [List.length_set, deal_len, picks_len, sorted_len]; omega)) rfl DeL_ag_int)) rfl <| vQ rfl rfl rfl rfl (fun hc => mv rfl) rfl <| ?_
        refine vQ rfl rfl rfl rfl (fun hc => bne (gt hc rfl) (gt hc rfl)) rfl <| vl (pO rfl rfl rfl rfl) rfl <| nl <| nT <| ?_
        have h_95 : ((((dealC pk nn (nn - 1 - r)).getD i 0) != (i : Int)) || (((sorted (dealC pk nn (nn - 1))).getD i 0) != (i : Int))) = false := by exact deal_end hpk er (by omega)
        refine cF (by rw [← h_95]; rfl) <| sk <| nB <| nT <| rg <| vl (bad rfl rfl (inI (by omega))) rfl <| vl (mv rfl) rfl <| nl <| ?_
        exact nI _ _ ⟨i + 1, rfl, rfl, z_87, OD_1, OZ_15, OBK, by omega⟩ (by omega) (.cons rfl (.cons rfl (.cons rfl (.cons rfl (.cons rfl (.cons rfl (.cons rfl (.cons (loI rfl (by first | omega | rfl | (simp <;> omega))) .nil))))))))
      · refine xt <| xT <| xK <| xB <| nT <| sq <| rg <| vl (mv rfl) rfl <| vl (ln Try.underlying22 rfl) rfl <| vl (mv rfl) rfl <| vl (beq rfl rfl) rfl <| vl (mv rfl) rfl <| vQ rfl rfl rfl rfl (fun hc => mv rfl) rfl <| vQ rfl rfl rfl rfl (fun hc => mv rfl) rfl <| vQ rfl rfl rfl rfl (fun hc => beq (gt hc rfl) (gt hc rfl)) rfl <| vl (pA rfl rfl rfl rfl) rfl <| vl (as_ rfl) rfl <| nl <| nT <| rt <| tR (.tmp rfl .nil) <| ?_
        exact ⟨ret_true (by simp [deal_len]), z_87⟩
set_option maxRecDepth 100000 in
set_option maxHeartbeats 400000 in
theorem luckDeals_out (x n : Int) (w : World) (hn : n < 0 ∨ 52 < n) :
    Calls Try.prog 12 #[.int .u32 x, .int .i64 n] w (fun e w' => e = .returned (.bool true) ∧ Ext w w') := by
  refine calls_W (n := 129) Try.func12 rfl rfl rfl ?_
  refine sq <| rg <| vl (as_ rfl) rfl <| nl <| nT <| sq <| rg <| vl (mv rfl) rfl <| vl (mv rfl) rfl <| ca DeL_en_luck_Deal rfl rfl ((deal_out x n _ hn).mono ?_)
  rintro e w_1 ⟨rfl, x_2⟩
  refine ⟨_, rfl, ?_⟩
  have q_3 := x_2.size
  have z_1 := Ext.tr (Ext.rf w) x_2
  refine vl (mv rfl) rfl <| vl (ex rfl rfl) rfl <| vl (ex rfl rfl) rfl <| vl (ex rfl rfl) rfl <| vl (as_ rfl) rfl <| vl (as_ rfl) rfl <| vl (as_ rfl) rfl <| nl <| nT <| sq <| sq <| rg <| ca DeL_en_mustkeep_luckLives rfl rfl ((Luck.lives_any _).mono ?_)
  rintro e w_4 ⟨rfl, rfl⟩
  refine ⟨_, rfl, ?_⟩
  refine vl (nt rfl) rfl <| vl (mv rfl) rfl <| ug rfl rfl rfl <| vl (mv rfl) rfl <| ug rfl rfl rfl <| vl (bne rfl rfl) rfl <| vl (pkF rfl rfl) rfl <| nl <| nT <| cT rfl <| sq <| rg <| ca DeL_en_mustkeep_luckLives rfl rfl ((Luck.lives_any _).mono ?_)
  rintro e w_6 ⟨rfl, rfl⟩
  refine ⟨_, rfl, ?_⟩
  refine vl (mv rfl) rfl <| ug rfl rfl rfl <| vl (mv rfl) rfl <| ug rfl rfl rfl <| vl (ln Try.underlying22 rfl) rfl <| ug rfl rfl rfl <| vl (beq rfl rfl) rfl <| vl (pkT rfl rfl) rfl <| vl (as_ rfl) rfl <| nl <| nT <| rt <| tT <| tR (.tmp rfl .nil) <| ?_
  exact ⟨rfl, z_1⟩
theorem luckDeals_any (a0 : Int) (a1 : Int) (w : World) (w0 : (Lit.int .u32 a0).wf = true) (w1 : (Lit.int .i64 a1).wf = true) :
    Calls Try.prog 12 #[.int .u32 a0, .int .i64 a1] w fun e w' => e = .returned (.bool true) ∧ Below w.heap.size w w' := by
  by_cases hn : a1 < 0 ∨ 52 < a1
  · exact luckDeals_out a0 a1 w hn
  · obtain ⟨k, rfl⟩ : ∃ k : Nat, a1 = (k : Int) := ⟨a1.toNat, by omega⟩
    have h0 := wf_u32 w0
    have hs : a0 = Bv.U (BitVec.ofInt 32 a0) := (Bv.U_of32 a0 h0.1 h0.2).symm
    obtain ⟨s, hs⟩ : ∃ s : Luck.W, a0 = Bv.U s := ⟨_, hs⟩
    subst hs
    exact luckDeals_in (fun m => Luck.iter Luck.next m s) (fun m => Luck.pickN (Luck.iter Luck.next (m + 1) s) (k - m)) k w (fun m hm => Luck.pick_lt _ _ (by omega)) (fun m hm w x hx => by
      have := Luck.pick_ok (Luck.iter Luck.next m s) (k - m) (by omega) (by omega) x hx w
      rw [← Luck.iter_succ' Luck.next m s] at this
      exact this) (by omega)
end Go.Proofs.Ytkijhejjnlmbmaa
