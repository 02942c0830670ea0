/-
  HitRight. (Printed by bin/hitlaw1.py.)
-/
import Derived.Test.YticfnngppcmidaaHitM
import Derived.Test.YticfnngppcmidaaHitP
set_option linter.unusedVariables false
set_option linter.unusedSimpArgs false
namespace Go.Proofs.Yticfnngppcmidaa
open Go.RowKit

theorem HitR_ag_api_World : Ag Try.prog 28 true := fun _ => by kernel_rfl
theorem HitR_sz_api_World : Sz Try.prog 28 9 := fun _ => by kernel_rfl
theorem HitR_en_hit_Struck : Enters Try.prog 39 := en Try.func39 (by kernel_rfl) (by kernel_rfl)
theorem HitR_zv_api_World : Zv Try.prog 28 (.agg #[.int .i64 0, .int .i64 0, .slice none 0 0, .slice none 0 0, .slice none 0 0, .slice none 0 0, .slice none 0 0, .int .i64 0, .int .i64 0]) := fun _ => by kernel_rfl
theorem HitR_en_mustkeep_hitLives : Enters Try.prog 34 := en Try.func34 (by kernel_rfl) (by kernel_rfl)
theorem HitR_en_troop_Check : Enters Try.prog 17 := en Try.func17 (by kernel_rfl) (by kernel_rfl)
theorem HitR_fd_api_World_4 : Fd Try.prog 28 4 6 := fun _ _ _ => by kernel_rfl
theorem HitR_ag_S_api_Troop : Ag Try.prog 26 false := fun _ => by kernel_rfl
theorem HitR_en_slices_IsSorted_S_int_int_ : Enters Try.prog 43 := en Try.func43 (by kernel_rfl) (by kernel_rfl)
theorem HitR_sz_api_Troop : Sz Try.prog 39 7 := fun _ => by kernel_rfl
theorem HitR_ag_api_Troop : Ag Try.prog 39 true := fun _ => by kernel_rfl
theorem HitR_zv_api_Troop : Zv Try.prog 39 (.agg #[.int .i64 0, .int .i64 0, .int .i64 0, .int .i64 0, .int .i64 0, .int .i64 0, .int .i64 0]) := fun _ => by kernel_rfl
theorem HitR_fd_api_Troop_0 : Fd Try.prog 39 0 0 := fun _ _ _ => by kernel_rfl
theorem HitR_ag_int : Ag Try.prog 3 false := fun _ => by kernel_rfl
theorem HitR_en_mustref_TroopOf : Enters Try.prog 44 := en Try.func44 (by kernel_rfl) (by kernel_rfl)
theorem HitR_en_slices_Contains_S_int_int_ : Enters Try.prog 45 := en Try.func45 (by kernel_rfl) (by kernel_rfl)
theorem HitR_fd_api_Troop_4 : Fd Try.prog 39 4 5 := fun _ _ _ => by kernel_rfl
theorem HitR_sz_int : Sz Try.prog 3 1 := fun _ => by kernel_rfl
theorem HitR_eqs_api_Troop : EqS Try.prog Trp.cells 39 := by
  intro a b w
  obtain ⟨a0, a1, a2, ⟨a3, a4⟩, a5, a6⟩ := a
  obtain ⟨b0, b1, b2, ⟨b3, b4⟩, b5, b6⟩ := b
  simp only [Trp.cells, Trp.mk.injEq, Cel.mk.injEq]
  constructor
  · go_simp
    repeat' split
    all_goals simp_all
  · go_simp
    repeat' split
    all_goals simp_all
theorem HitR_eqg_api_Troop : (Try.prog).eqGuardType (Try.prog).depth 39 = false := by kernel_rfl
theorem HitR_sz_S_api_Troop : Sz Try.prog 26 1 := fun _ => by kernel_rfl
theorem HitR_en_mustref_SameWorld : Enters Try.prog 21 := en Try.func21 (by kernel_rfl) (by kernel_rfl)
set_option maxRecDepth 100000 in
set_option maxHeartbeats 400000 in
theorem hitRight_walk (a : Wd.At) (W : Wd) (A : Option Addr) (c : Nat) (l : List Blw) (w : World) (hW : Wd.Has w a W) (hl : Blw.rep.SHas 16 w A c l) :
    Calls Try.prog 11 #[.agg ((Wd.cells a W).toArray), .slice A l.length c] w (fun e w' => e = .returned (.bool true) ∧ Ext w w') := by
  refine calls_W (n := 92) Try.func11 rfl rfl rfl ?_
  refine sq <| rg <| bx rfl rfl rfl rfl fun w_1 b_2 x_3 l_4 B_5 => ?_
  have q_6 := x_3.size
  have z_1 := Ext.tr (Ext.rf w) x_3
  have q_7 := B_5.lt
  refine vl (as_ rfl) rfl <| nl <| nT <| sq <| rg <| vl (ld rfl (B_5.all HitR_ag_api_World HitR_sz_api_World)) rfl <| vl (mv rfl) rfl <| ca HitR_en_hit_Struck rfl rfl ((struck_any l _ _ a W _ (hW.keep z_1) (hl.keep z_1)).mono ?_)
  rintro e w_13 ⟨a_8, A_8, c_8, rfl, HO_8, OG_8, hd_8, x_14⟩
  refine ⟨_, rfl, ?_⟩
  have q_15 := x_14.size
  have z_13 := Ext.tr z_1 x_14
  have u_9 := fun q hq => (HO_8.lt q hq).2
  have lo_10 := fun q hq => (HO_8.lt q hq).1
  have u_11 := fun q hq => (OG_8.lt q hq).2
  have lo_12 := fun q hq => (OG_8.lt q hq).1
  have dd_8 : ∀ q ∈ Rep.blkOf A_8, q ∈ WOwn.foot a_8 → False := hd_8
  have dw_8 : ∀ q ∈ WOwn.foot a_8, q ∈ Rep.blkOf A_8 → False := fun q h1 h2 => hd_8 q h2 h1
  refine vl (mv rfl) rfl <| vl (ex rfl rfl) rfl <| vl (ex rfl rfl) rfl <| vl (ex rfl rfl) rfl <| al rfl HitR_zv_api_World rfl rfl fun w_16 b_17 x_18 l_19 B_20 => ?_
  have q_21 := x_18.size
  have z_16 := Ext.tr z_13 x_18
  have q_22 := B_20.lt
  refine st rfl rfl B_20 rfl HitR_sz_api_World rfl rfl rfl fun w_23 m_24 B_20 => ?_
  have q_26 := m_24.size
  have z_23 := Ext.mod z_16 m_24 (by simp only [List.mem_singleton, forall_eq]; omega)
  have q_25 := m_24.size
  refine vl (as_ rfl) rfl <| vl (as_ rfl) rfl <| nl <| nT <| sq <| sq <| rg <| ca HitR_en_mustkeep_hitLives rfl rfl ((hitLives_any _).mono ?_)
  rintro e w_27 ⟨rfl, x_28⟩
  refine ⟨_, rfl, ?_⟩
  have q_29 := x_28.size
  have z_27 := Ext.tr z_23 x_28
  refine vl (nt rfl) rfl <| vl (mv rfl) rfl <| ug rfl rfl rfl <| vl (mv rfl) rfl <| ug rfl rfl rfl <| vl (bne rfl rfl) rfl <| vl (pkF rfl rfl) rfl <| nl <| nT <| ?_
  refine cne rfl (fun h_30 => ?_) (fun h_30 => ?_)
  · refine sq <| rg <| ca HitR_en_mustkeep_hitLives rfl rfl ((hitLives_any _).mono ?_)
    rintro e w_31 ⟨rfl, x_32⟩
    refine ⟨_, rfl, ?_⟩
    have q_33 := x_32.size
    have z_31 := Ext.tr z_27 x_32
    refine vl (as_ rfl) rfl <| nl <| nT <| rt <| tT <| tR (.tmp rfl .nil) <| ?_
    exact ⟨rfl, z_31⟩
  · have hS := struck_of (W := W) (l := l) (by simpa using h_30)
    have hV := hS.right
    have hso := hS.sorted
    have hct := hS.count
    have hra := fun k (hk : k < W.troops.length) => hS.each hk
    have hnt := hS.good.nt
    have hb1 := hS.hW
    refine sk <| nT <| sq <| sq <| rg <| ?_
    have B_20 := B_20.later x_28
    refine vl (ld rfl (B_20.all HitR_ag_api_World HitR_sz_api_World)) rfl <| ?_
    have HO_8 := HO_8.later x_18
    have HO_8 := HO_8.mod m_24 (fun q hq h => by have hb := List.mem_singleton.1 h; exfalso; (have := u_9 q hq; omega))
    have HO_8 := HO_8.later x_28
    refine ca HitR_en_troop_Check rfl rfl ((check_any a_8 (struckW W l) _ HO_8.has).mono ?_)
    rintro e w_34 ⟨rfl, x_35⟩
    refine ⟨_, rfl, ?_⟩
    have q_36 := x_35.size
    have z_34 := Ext.tr z_27 x_35
    refine vl (bne rfl rfl) rfl <| vl (mv rfl) rfl <| vQ rfl rfl rfl rfl (fun hc => fa HitR_fd_api_World_4 rfl) rfl <| ?_
    have B_20 := B_20.later x_35
    refine vQ rfl rfl rfl rfl (fun hc => ld (gt hc rfl) (B_20.one HitR_ag_S_api_Troop rfl)) rfl <| vQ rfl rfl rfl rfl (fun hc => ln Try.underlying26 (gt hc rfl)) rfl <| vQ rfl rfl rfl rfl (fun hc => mv rfl) rfl <| vQ rfl rfl rfl rfl (fun hc => ln Try.underlying22 (gt hc rfl)) rfl <| vQ rfl rfl rfl rfl (fun hc => bad (gt hc rfl) (gt hc rfl) (inI (by (try simp only [Bool.or_eq_true, Bool.or_eq_false_iff, Bool.and_eq_true, Bool.and_eq_false_iff, decide_eq_true_eq, decide_eq_false_iff_not, beq_iff_eq, bne_iff_ne, beq_eq_false_iff_ne, bne_eq_false_iff_eq, Bool.not_eq_true', Bool.not_eq_false', Bool.not_eq_true, Bool.not_eq_false, Int.not_lt, Int.not_le, Nat.not_lt, Nat.not_le, ne_eq, Classical.not_not] at hc); omega))) rfl <| vQ rfl rfl rfl rfl (fun hc => fa HitR_fd_api_World_4 rfl) rfl <| ?_
    have B_5 := B_5.later (Ext.tr x_14 x_18)
    have B_5 := B_5.mod m_24 (by simp only [List.mem_singleton]; omega)
    have B_5 := B_5.later (Ext.tr x_28 x_35)
    refine vQ rfl rfl rfl rfl (fun hc => ld (gt hc rfl) (B_5.one HitR_ag_S_api_Troop rfl)) rfl <| vQ rfl rfl rfl rfl (fun hc => ln Try.underlying26 (gt hc rfl)) rfl <| vQ rfl rfl rfl rfl (fun hc => bne (gt hc rfl) (gt hc rfl)) rfl <| vl (pO rfl rfl rfl rfl) rfl <| vl (mv rfl) rfl <| vQ rfl rfl rfl rfl (fun hc => mv rfl) rfl <| ?_
    have OG_8 := OG_8.later x_18
    have OG_8 := OG_8.mod m_24 (fun q hq h => by have hb := List.mem_singleton.1 h; exfalso; (have := u_11 q hq; omega))
    have OG_8 := OG_8.later (Ext.tr x_28 x_35)
    refine vC rfl rfl rfl rfl HitR_en_slices_IsSorted_S_int_int_ (fun hc => ec (gt hc rfl) rfl) (fun hc => isSorted_I _ _ (struckG W l) _ OG_8.has) rfl fun w_37 x_38 => ?_
    have q_39 := x_38.size
    have z_37 := Ext.tr z_34 x_38
    refine vQ rfl rfl rfl rfl (fun hc => nt (gt hc rfl)) rfl <| vl (pO rfl rfl rfl rfl) rfl <| nl <| nT <| ?_
    have h_40 : (((((struckW W l).chk) != 0) || ((((((struckW W l).troops.length : Nat) : Int)) + ((((struckG W l).length : Nat) : Int))) != (W.troops.length : Int))) || (!(sortedI (struckG W l)))) = false := by simp only [Bool.or_eq_true, Bool.or_eq_false_iff, Bool.and_eq_true, Bool.and_eq_false_iff, decide_eq_true_eq, decide_eq_false_iff_not, beq_iff_eq, bne_iff_ne, beq_eq_false_iff_ne, bne_eq_false_iff_eq, Bool.not_eq_true', Bool.not_eq_false', Bool.not_eq_true, Bool.not_eq_false, Int.not_lt, Int.not_le, Nat.not_lt, Nat.not_le, ne_eq, Classical.not_not]; exact ⟨⟨hV.chk0, by omega⟩, hso⟩
    refine cF (by rw [← h_40]; rfl) <| sk <| nT <| sq <| sq <| rg <| vl (fa HitR_fd_api_World_4 rfl) rfl <| ?_
    have B_5 := B_5.later x_38
    refine vl (ld rfl (B_5.one HitR_ag_S_api_Troop rfl)) rfl <| vl (ln Try.underlying26 rfl) rfl <| vl (mv rfl) rfl <| nl <| nT <| bk <| ?_
    have HO_8 := HO_8.later (Ext.tr x_35 x_38)
    have OG_8 := OG_8.later x_38
    have B_20 := B_20.later x_38
    refine lp (fun mI EI wI => ∃ k : Nat, EI = [(2, .pointer (some ⟨b_2, 0, none⟩)), (5, .pointer (some ⟨b_17, 0, none⟩)), (6, .slice A_8 ((struckG W l).length) c_8), (47, .slice a.T W.troops.length a.t), (48, .int .i64 (W.troops.length : Int)), (49, .int .i64 (k : Int))] ∧ mI = W.troops.length - k ∧ Ext w wI ∧ Blk wI b_2 (Wd.cells a W) 28 (0, 0) ∧ WOwn wI w_1.heap.size a_8 (struckW W l) ∧ repI.SOwn 3 8 wI w_1.heap.size (Rep.blkOf A_8) A_8 c_8 (struckG W l) ∧ Blk wI b_17 ((Wd.cells a_8 (struckW W l))) 28 (0, 0) ∧ (k ≤ W.troops.length)) _ _ ⟨0, rfl, rfl, z_37, B_5, HO_8, OG_8, B_20, by omega⟩ (.cons rfl (.cons rfl (.cons rfl (.cons rfl (.cons rfl (.cons (loI rfl (by first | omega | rfl | (simp <;> omega))) .nil)))))) ?_
    rintro m_42 E_43 w_41 ⟨k, rfl, rfl, z_41, B_5, HO_8, OG_8, B_20, hk⟩
    have q_44 := z_41.size
    have q_45 := B_5.lt
    have u_46 := fun q hq => (HO_8.lt q hq).2
    have u_47 := fun q hq => (OG_8.lt q hq).2
    have q_48 := B_20.lt
    refine sq <| rg <| vl (blt rfl rfl) rfl <| nl <| nT <| sq <| ?_
    refine clt rfl (fun h_49 => ?_) (fun h_49 => ?_)
    · refine sk <| nT <| sq <| bk <| sq <| rg <| vl (iA k Try.underlying26 HitR_sz_api_Troop rfl rfl ((hW.T.keep z_41).adr (Nat.zero_lt_of_lt (show k < _ from (by omega)))) rfl (by omega)) rfl <| vl (ld rfl (Rep.SHas.elt hcT ((hW.T.keep z_41).adh (Nat.zero_lt_of_lt (show k < _ from (by omega)))) (get_d (l := W.troops) (u := default) (by omega)) HitR_ag_api_Troop HitR_sz_api_Troop)) rfl <| al rfl HitR_zv_api_Troop rfl rfl fun w_50 b_51 x_52 l_53 B_54 => ?_
      have q_55 := x_52.size
      have z_50 := Ext.tr z_41 x_52
      have q_56 := B_54.lt
      refine st (new := [.int .i64 ((W.troops.getD k default).id), .int .i64 ((W.troops.getD k default).owner), .int .i64 ((W.troops.getD k default).kind), .int .i64 ((W.troops.getD k default).spot.x), .int .i64 ((W.troops.getD k default).spot.y), .int .i64 ((W.troops.getD k default).life), .int .i64 ((W.troops.getD k default).load)]) rfl rfl B_54 rfl HitR_sz_api_Troop rfl rfl rfl fun w_57 m_58 B_54 => ?_
      have q_60 := m_58.size
      have z_57 := Ext.mod z_50 m_58 (by simp only [List.mem_singleton, forall_eq]; omega)
      have q_59 := m_58.size
      refine nl <| nT <| sq <| rg <| ?_
      have B_20 := B_20.later x_52
      have B_20 := B_20.mod m_58 (by simp only [List.mem_singleton]; omega)
      refine vl (ld rfl (B_20.all HitR_ag_api_World HitR_sz_api_World)) rfl <| vl (fa HitR_fd_api_Troop_0 rfl) rfl <| vl (ld rfl (B_54.one HitR_ag_int rfl)) rfl <| ?_
      have HO_8 := HO_8.later x_52
      have HO_8 := HO_8.mod m_58 (fun q hq h => by have hb := List.mem_singleton.1 h; exfalso; (have := u_46 q hq; have := u_9 q hq; omega))
      refine ca HitR_en_mustref_TroopOf rfl rfl ((troopOf_any ((W.troops.getD k default).id) a_8 (struckW W l) _ HO_8.has).mono ?_)
      rintro e w_61 ⟨rfl, x_62⟩
      refine ⟨_, rfl, ?_⟩
      have q_63 := x_62.size
      have z_61 := Ext.tr z_57 x_62
      refine vl (mv rfl) rfl <| vl (ex rfl rfl) rfl <| vl (ex rfl rfl) rfl <| al rfl HitR_zv_api_Troop rfl rfl fun w_64 b_65 x_66 l_67 B_68 => ?_
      have q_69 := x_66.size
      have z_64 := Ext.tr z_61 x_66
      have q_70 := B_68.lt
      refine st (new := [.int .i64 ((((trOfD (struckW W l).troops ((W.troops.getD k default).id)).getD default)).id), .int .i64 ((((trOfD (struckW W l).troops ((W.troops.getD k default).id)).getD default)).owner), .int .i64 ((((trOfD (struckW W l).troops ((W.troops.getD k default).id)).getD default)).kind), .int .i64 ((((trOfD (struckW W l).troops ((W.troops.getD k default).id)).getD default)).spot.x), .int .i64 ((((trOfD (struckW W l).troops ((W.troops.getD k default).id)).getD default)).spot.y), .int .i64 ((((trOfD (struckW W l).troops ((W.troops.getD k default).id)).getD default)).life), .int .i64 ((((trOfD (struckW W l).troops ((W.troops.getD k default).id)).getD default)).load)]) rfl rfl B_68 rfl HitR_sz_api_Troop rfl rfl rfl fun w_71 m_72 B_68 => ?_
      have q_74 := m_72.size
      have z_71 := Ext.mod z_64 m_72 (by simp only [List.mem_singleton, forall_eq]; omega)
      have q_73 := m_72.size
      refine vl (as_ rfl) rfl <| nl <| nT <| sq <| sq <| ?_
      rcases hra k (by omega) with ⟨m, hm, r1, r2⟩ | ⟨r1, r2⟩
      · have k1 : (trOfD (struckW W l).troops ((W.troops.getD k default).id)).isSome = true := by rw [r1]; rfl
        have k2 : (struckG W l).any (fun y => (W.troops.getD k default).id == y) = false := r2
        refine rg <| vl (mv (evb rfl k1)) rfl <| vl (mv rfl) rfl <| vl (fa HitR_fd_api_Troop_0 rfl) rfl <| ?_
        have B_54 := B_54.later (Ext.tr x_62 x_66)
        have B_54 := B_54.mod m_72 (by simp only [List.mem_singleton]; omega)
        refine vl (ld rfl (B_54.one HitR_ag_int rfl)) rfl <| ?_
        have OG_8 := OG_8.later x_52
        have OG_8 := OG_8.mod m_58 (fun q hq h => by have hb := List.mem_singleton.1 h; exfalso; (have := u_47 q hq; have := u_11 q hq; omega))
        have OG_8 := OG_8.later (Ext.tr x_62 x_66)
        have OG_8 := OG_8.mod m_72 (fun q hq h => by have hb := List.mem_singleton.1 h; exfalso; (have := u_47 q hq; have := u_11 q hq; omega))
        refine ca HitR_en_slices_Contains_S_int_int_ rfl rfl ((contains_I ((W.troops.getD k default).id) _ _ (struckG W l) _ OG_8.has).mono ?_)
        rintro e w_75 ⟨rfl, x_76⟩
        refine ⟨_, rfl, ?_⟩
        have q_77 := x_76.size
        have z_75 := Ext.tr z_71 x_76
        refine vl (bqB Try.underlying4 rfl (evb rfl k2)) rfl <| vl (mv rfl) rfl <| ug rfl rfl rfl <| vl (mv (evb rfl k1)) rfl <| ug rfl rfl rfl <| vl (mv rfl) rfl <| ug rfl rfl rfl <| vl (fa HitR_fd_api_Troop_4 rfl) rfl <| ug rfl rfl rfl <| ?_
        have B_68 := B_68.later x_76
        refine vl (ld rfl (B_68.one HitR_ag_int rfl)) rfl <| ug rfl rfl rfl <| vl (fa HitR_fd_api_Troop_4 rfl) rfl <| ug rfl rfl rfl <| ?_
        have B_54 := B_54.later x_76
        refine vl (ld rfl (B_54.one HitR_ag_int rfl)) rfl <| ug rfl rfl rfl <| vl (bgt rfl rfl) rfl <| ug rfl rfl rfl <| vl (pkT rfl rfl) rfl <| vl (pkF rfl rfl) rfl <| nl <| nT <| ?_
        have h_78 : (decide ((W.troops.getD k default).life < (((trOfD (struckW W l).troops ((W.troops.getD k default).id)).getD default)).life)) = false := by rw [r1]; simp <;> omega
        refine cF (by rw [← h_78]; rfl) <| sk <| nT <| sq <| rg <| vl (fa HitR_fd_api_Troop_4 rfl) rfl <| vl (ld rfl (B_54.one HitR_ag_int rfl)) rfl <| vl (fa HitR_fd_api_Troop_4 rfl) rfl <| st (new := [.int .i64 ((((trOfD (struckW W l).troops ((W.troops.getD k default).id)).getD default)).id), .int .i64 ((((trOfD (struckW W l).troops ((W.troops.getD k default).id)).getD default)).owner), .int .i64 ((((trOfD (struckW W l).troops ((W.troops.getD k default).id)).getD default)).kind), .int .i64 ((((trOfD (struckW W l).troops ((W.troops.getD k default).id)).getD default)).spot.x), .int .i64 ((((trOfD (struckW W l).troops ((W.troops.getD k default).id)).getD default)).spot.y), .int .i64 ((W.troops.getD k default).life), .int .i64 ((((trOfD (struckW W l).troops ((W.troops.getD k default).id)).getD default)).load)]) rfl rfl B_68 rfl HitR_sz_int rfl rfl rfl fun w_79 m_80 B_68 => ?_
        have q_82 := m_80.size
        have z_79 := Ext.mod z_75 m_80 (by simp only [List.mem_singleton, forall_eq]; omega)
        have q_81 := m_80.size
        refine nl <| nT <| sq <| rg <| vl (mv (evb rfl k1)) rfl <| vl (mv rfl) rfl <| ug rfl rfl rfl <| vl (ld rfl (B_68.all HitR_ag_api_Troop HitR_sz_api_Troop)) rfl <| ug rfl rfl rfl <| ?_
        have B_54 := B_54.mod m_80 (by simp only [List.mem_singleton]; omega)
        refine vl (ld rfl (B_54.all HitR_ag_api_Troop HitR_sz_api_Troop)) rfl <| ug rfl rfl rfl <| vl (bnS HitR_eqs_api_Troop HitR_eqg_api_Troop (p := (⟨(((trOfD (struckW W l).troops ((W.troops.getD k default).id)).getD default)).id, (((trOfD (struckW W l).troops ((W.troops.getD k default).id)).getD default)).owner, (((trOfD (struckW W l).troops ((W.troops.getD k default).id)).getD default)).kind, ⟨(((trOfD (struckW W l).troops ((W.troops.getD k default).id)).getD default)).spot.x, (((trOfD (struckW W l).troops ((W.troops.getD k default).id)).getD default)).spot.y⟩, (W.troops.getD k default).life, (((trOfD (struckW W l).troops ((W.troops.getD k default).id)).getD default)).load⟩ : Trp)) (q := W.troops.getD k default) rfl rfl) rfl <| vl (pkT rfl rfl) rfl <| nl <| nT <| ?_
        have h_83 : (!decide ((⟨(((trOfD (struckW W l).troops ((W.troops.getD k default).id)).getD default)).id, (((trOfD (struckW W l).troops ((W.troops.getD k default).id)).getD default)).owner, (((trOfD (struckW W l).troops ((W.troops.getD k default).id)).getD default)).kind, ⟨(((trOfD (struckW W l).troops ((W.troops.getD k default).id)).getD default)).spot.x, (((trOfD (struckW W l).troops ((W.troops.getD k default).id)).getD default)).spot.y⟩, (W.troops.getD k default).life, (((trOfD (struckW W l).troops ((W.troops.getD k default).id)).getD default)).load⟩ : Trp) = W.troops.getD k default)) = false := by rw [r1]; simp
        refine cF (by rw [← h_83]; rfl) <| sk <| nB <| nT <| rg <| vl (bad rfl rfl (inI (by omega))) rfl <| vl (mv rfl) rfl <| nl <| ?_
        have B_5 := B_5.later x_52
        have B_5 := B_5.mod m_58 (by simp only [List.mem_singleton]; omega)
        have B_5 := B_5.later (Ext.tr x_62 x_66)
        have B_5 := B_5.mod m_72 (by simp only [List.mem_singleton]; omega)
        have B_5 := B_5.later x_76
        have B_5 := B_5.mod m_80 (by simp only [List.mem_singleton]; omega)
        have HO_8 := HO_8.later (Ext.tr x_62 x_66)
        have HO_8 := HO_8.mod m_72 (fun q hq h => by have hb := List.mem_singleton.1 h; exfalso; (have := u_46 q hq; have := u_9 q hq; omega))
        have HO_8 := HO_8.later x_76
        have HO_8 := HO_8.mod m_80 (fun q hq h => by have hb := List.mem_singleton.1 h; exfalso; (have := u_46 q hq; have := u_9 q hq; omega))
        have OG_8 := OG_8.later x_76
        have OG_8 := OG_8.mod m_80 (fun q hq h => by have hb := List.mem_singleton.1 h; exfalso; (have := u_47 q hq; have := u_11 q hq; omega))
        have B_20 := B_20.later (Ext.tr x_62 x_66)
        have B_20 := B_20.mod m_72 (by simp only [List.mem_singleton]; omega)
        have B_20 := B_20.later x_76
        have B_20 := B_20.mod m_80 (by simp only [List.mem_singleton]; omega)
        exact nI _ _ ⟨k + 1, rfl, rfl, z_79, B_5, HO_8, OG_8, B_20, by omega⟩ (by omega) (.cons rfl (.cons rfl (.cons rfl (.cons rfl (.cons rfl (.cons (loI rfl (by first | omega | rfl | (simp <;> omega))) .nil))))))
      · have k1 : (trOfD (struckW W l).troops ((W.troops.getD k default).id)).isSome = false := by rw [r1]; rfl
        have k2 : (struckG W l).any (fun y => (W.troops.getD k default).id == y) = true := r2
        refine rg <| vl (mv (evb rfl k1)) rfl <| vl (mv rfl) rfl <| vl (fa HitR_fd_api_Troop_0 rfl) rfl <| ?_
        have B_54 := B_54.later (Ext.tr x_62 x_66)
        have B_54 := B_54.mod m_72 (by simp only [List.mem_singleton]; omega)
        refine vl (ld rfl (B_54.one HitR_ag_int rfl)) rfl <| ?_
        have OG_8 := OG_8.later x_52
        have OG_8 := OG_8.mod m_58 (fun q hq h => by have hb := List.mem_singleton.1 h; exfalso; (have := u_47 q hq; have := u_11 q hq; omega))
        have OG_8 := OG_8.later (Ext.tr x_62 x_66)
        have OG_8 := OG_8.mod m_72 (fun q hq h => by have hb := List.mem_singleton.1 h; exfalso; (have := u_47 q hq; have := u_11 q hq; omega))
        refine ca HitR_en_slices_Contains_S_int_int_ rfl rfl ((contains_I ((W.troops.getD k default).id) _ _ (struckG W l) _ OG_8.has).mono ?_)
        rintro e w_84 ⟨rfl, x_85⟩
        refine ⟨_, rfl, ?_⟩
        have q_86 := x_85.size
        have z_84 := Ext.tr z_71 x_85
        refine vl (bqB Try.underlying4 rfl (evb rfl k2)) rfl <| vl (mv rfl) rfl <| ug rfl rfl rfl <| vl (mv (evb rfl k1)) rfl <| ug rfl rfl rfl <| vl (mv rfl) rfl <| vQ (v := undef) rfl rfl rfl rfl (fun hc => nomatch hc) rfl <| vQ (v := undef) rfl rfl rfl rfl (fun hc => nomatch hc) rfl <| vQ (v := undef) rfl rfl rfl rfl (fun hc => nomatch hc) rfl <| vQ (v := undef) rfl rfl rfl rfl (fun hc => nomatch hc) rfl <| vQ (v := undef) rfl rfl rfl rfl (fun hc => nomatch hc) rfl <| ug rfl rfl rfl <| vl (pkF rfl rfl) rfl <| vl (pkF rfl rfl) rfl <| nl <| nT <| cF rfl <| sk <| nT <| sq <| rg <| vl (fa HitR_fd_api_Troop_4 rfl) rfl <| ?_
        have B_54 := B_54.later x_85
        refine vl (ld rfl (B_54.one HitR_ag_int rfl)) rfl <| vl (fa HitR_fd_api_Troop_4 rfl) rfl <| ?_
        have B_68 := B_68.later x_85
        refine st (new := [.int .i64 ((((trOfD (struckW W l).troops ((W.troops.getD k default).id)).getD default)).id), .int .i64 ((((trOfD (struckW W l).troops ((W.troops.getD k default).id)).getD default)).owner), .int .i64 ((((trOfD (struckW W l).troops ((W.troops.getD k default).id)).getD default)).kind), .int .i64 ((((trOfD (struckW W l).troops ((W.troops.getD k default).id)).getD default)).spot.x), .int .i64 ((((trOfD (struckW W l).troops ((W.troops.getD k default).id)).getD default)).spot.y), .int .i64 ((W.troops.getD k default).life), .int .i64 ((((trOfD (struckW W l).troops ((W.troops.getD k default).id)).getD default)).load)]) rfl rfl B_68 rfl HitR_sz_int rfl rfl rfl fun w_87 m_88 B_68 => ?_
        have q_90 := m_88.size
        have z_87 := Ext.mod z_84 m_88 (by simp only [List.mem_singleton, forall_eq]; omega)
        have q_89 := m_88.size
        refine nl <| nT <| sq <| rg <| vl (mv (evb rfl k1)) rfl <| vl (mv rfl) rfl <| vQ (v := undef) rfl rfl rfl rfl (fun hc => nomatch hc) rfl <| vQ (v := undef) rfl rfl rfl rfl (fun hc => nomatch hc) rfl <| vQ (v := undef) rfl rfl rfl rfl (fun hc => nomatch hc) rfl <| vl (pkF rfl rfl) rfl <| nl <| nT <| cF rfl <| sk <| nB <| nT <| rg <| vl (bad rfl rfl (inI (by omega))) rfl <| vl (mv rfl) rfl <| nl <| ?_
        have B_5 := B_5.later x_52
        have B_5 := B_5.mod m_58 (by simp only [List.mem_singleton]; omega)
        have B_5 := B_5.later (Ext.tr x_62 x_66)
        have B_5 := B_5.mod m_72 (by simp only [List.mem_singleton]; omega)
        have B_5 := B_5.later x_85
        have B_5 := B_5.mod m_88 (by simp only [List.mem_singleton]; omega)
        have HO_8 := HO_8.later (Ext.tr x_62 x_66)
        have HO_8 := HO_8.mod m_72 (fun q hq h => by have hb := List.mem_singleton.1 h; exfalso; (have := u_46 q hq; have := u_9 q hq; omega))
        have HO_8 := HO_8.later x_85
        have HO_8 := HO_8.mod m_88 (fun q hq h => by have hb := List.mem_singleton.1 h; exfalso; (have := u_46 q hq; have := u_9 q hq; omega))
        have OG_8 := OG_8.later x_85
        have OG_8 := OG_8.mod m_88 (fun q hq h => by have hb := List.mem_singleton.1 h; exfalso; (have := u_47 q hq; have := u_11 q hq; omega))
        have B_20 := B_20.later (Ext.tr x_62 x_66)
        have B_20 := B_20.mod m_72 (by simp only [List.mem_singleton]; omega)
        have B_20 := B_20.later x_85
        have B_20 := B_20.mod m_88 (by simp only [List.mem_singleton]; omega)
        exact nI _ _ ⟨k + 1, rfl, rfl, z_87, B_5, HO_8, OG_8, B_20, by omega⟩ (by omega) (.cons rfl (.cons rfl (.cons rfl (.cons rfl (.cons rfl (.cons (loI rfl (by first | omega | rfl | (simp <;> omega))) .nil))))))
    · refine xt <| xT <| xK <| xB <| nT <| sq <| rg <| vl (fa HitR_fd_api_World_4 rfl) rfl <| vl (ld rfl (B_5.one HitR_ag_S_api_Troop rfl)) rfl <| vl (fa HitR_fd_api_World_4 rfl) rfl <| st (new := [.int .i64 ((struckW W l).field.wide), .int .i64 ((struckW W l).field.high), .slice a_8.P ((struckW W l).field.places.length) a_8.p, .slice a_8.B ((struckW W l).bases.length) a_8.b, .slice a_8.S ((struckW W l).stocks.length) a_8.s, .slice a_8.M ((struckW W l).mines.length) a_8.m, .slice a.T W.troops.length a.t, .int .i64 ((struckW W l).next), .int .i64 ((struckW W l).now)]) rfl rfl B_20 rfl HitR_sz_S_api_Troop rfl rfl rfl fun w_91 m_92 B_20 => ?_
      have q_94 := m_92.size
      have z_91 := Ext.mod z_41 m_92 (by simp only [List.mem_singleton, forall_eq]; omega)
      have q_93 := m_92.size
      refine nl <| nT <| sq <| rg <| vl (ld rfl (B_20.all HitR_ag_api_World HitR_sz_api_World)) rfl <| ?_
      have B_5 := B_5.mod m_92 (by simp only [List.mem_singleton]; omega)
      refine vl (ld rfl (B_5.all HitR_ag_api_World HitR_sz_api_World)) rfl <| ?_
      have HO_8 := HO_8.mod m_92 (fun q hq h => by have hb := List.mem_singleton.1 h; exfalso; (have := u_46 q hq; have := u_9 q hq; omega))
      refine ca HitR_en_mustref_SameWorld rfl rfl ((sameWorld_any _ (⟨a_8.P, a_8.B, a_8.S, a_8.M, a.T, a_8.p, a_8.b, a_8.s, a_8.m, a.t⟩ : Wd.At) { (struckW W l) with troops := W.troops } a W ⟨HO_8.P.has, HO_8.B.has, HO_8.S.has, HO_8.M.has, (hW.T.keep z_91), (by rw [hb1]; exact hW.nums)⟩ (hW.keep z_91)).mono ?_)
      rintro e w_95 ⟨rfl, x_96⟩
      refine ⟨_, rfl, ?_⟩
      have q_97 := x_96.size
      have z_95 := Ext.tr z_91 x_96
      refine vl (as_ rfl) rfl <| nl <| nT <| rt <| tR (.tmp rfl .nil) <| ?_
      exact ⟨ret_true (by rw [hb1]; simp), z_95⟩
theorem hitRight_any (c0 : Array Value) (a1 : Option Addr) (len1 cap1 : Nat) (w : World) (h0 : (.cons (.cons (.int .i64) (.cons (.int .i64) (.cons (.slice (.int .i64) 8) .nil))) (.cons (.slice (.cons (.int .i64) (.cons (.int .i64) .nil)) 16) (.cons (.slice (.int .i64) 8) (.cons (.slice (.int .i64) 8) (.cons (.slice (.cons (.int .i64) (.cons (.int .i64) (.cons (.int .i64) (.cons (.cons (.int .i64) (.cons (.int .i64) .nil)) (.cons (.int .i64) (.cons (.int .i64) .nil)))))) 56) (.cons (.int .i64) (.cons (.int .i64) .nil)))))) : Sh).Ok w c0.toList) (h1 : (.slice (.cons (.int .i64) (.cons (.int .i64) .nil)) 16 : Sh).Ok w [.slice a1 len1 cap1]) :
    Calls Try.prog 11 #[.agg c0, .slice a1 len1 cap1] w fun e w' => e = .returned (.bool true) ∧ Below w.heap.size w w' := by
  obtain ⟨a, W, e, hW⟩ := Wd.opens w _ (show Wd.sh.Ok w c0.toList from h0)
  have hc : c0 = (Wd.cells a W).toArray := by rw [← e]
  subst hc
  obtain ⟨A, c, l, e2, hl⟩ := Rep.opens_slice (R := Blw.rep) (by_ := 16) Blw.opens rfl (by decide) h1
  simp only [List.cons.injEq, Value.slice.injEq, and_true] at e2
  obtain ⟨rfl, rfl, rfl⟩ := e2
  exact hitRight_walk a W _ _ l w hW hl
end Go.Proofs.Yticfnngppcmidaa
