/-
  HitAny. (Printed by bin/hitlaw3.py.)
-/
import Derived.Test.YticfnngppcmidaaHitM
import Derived.Test.YticfnngppcmidaaHitP
import Derived.Test.YticfnngppcmidaaCloneW
set_option linter.unusedVariables false
set_option linter.unusedSimpArgs false
namespace Go.Proofs.Yticfnngppcmidaa
open Go.RowKit

theorem HitA_en_slices_Clone_S_api_Blow_api_Blow_ : Enters Try.prog 40 := en Try.func40 (by kernel_rfl) (by kernel_rfl)
theorem HitA_en_slices_Reverse_S_api_Blow_api_Blow_ : Enters Try.prog 41 := en Try.func41 (by kernel_rfl) (by kernel_rfl)
theorem HitA_ag_api_World : Ag Try.prog 28 true := fun _ => by kernel_rfl
theorem HitA_sz_api_World : Sz Try.prog 28 9 := fun _ => by kernel_rfl
theorem HitA_en_hit_Struck : Enters Try.prog 39 := en Try.func39 (by kernel_rfl) (by kernel_rfl)
theorem HitA_zv_api_World : Zv Try.prog 28 (.agg #[.int .i64 0, .int .i64 0, .slice none 0 0, .slice none 0 0, .slice none 0 0, .slice none 0 0, .slice none 0 0, .int .i64 0, .int .i64 0]) := fun _ => by kernel_rfl
theorem HitA_en_mustkeep_hitLives : Enters Try.prog 34 := en Try.func34 (by kernel_rfl) (by kernel_rfl)
theorem HitA_sz_api_Blow : Sz Try.prog 69 2 := fun _ => by kernel_rfl
theorem HitA_ag_api_Blow : Ag Try.prog 69 true := fun _ => by kernel_rfl
theorem HitA_zv_api_Blow : Zv Try.prog 69 (.agg #[.int .i64 0, .int .i64 0]) := fun _ => by kernel_rfl
theorem HitA_en_slices_ContainsFunc_S_api_Blow_api_Blow_ : Enters Try.prog 36 := en Try.func36 (by kernel_rfl) (by kernel_rfl)
theorem HitA_en_mustref_SameWorld : Enters Try.prog 21 := en Try.func21 (by kernel_rfl) (by kernel_rfl)
theorem HitA_en_slices_Equal_S_int_int_ : Enters Try.prog 30 := en Try.func30 (by kernel_rfl) (by kernel_rfl)
theorem struck_n (l : List Blw) {n : Nat} (hn : l.length = n) (A : Option Addr) (c : Nat) (a : Wd.At) (W : Wd) (w : World) (hW : Wd.Has w a W) (hl : Blw.rep.SHas 16 w A c l) : Calls Try.prog 39 #[.agg (Wd.cells a W).toArray, .slice A n c] w (StruckPost W l w) := by subst hn; exact struck_any l A c a W w hW hl
/-- What a blow does, if its troop has not struck. -/
def hitAt (W : Wd) (h : List Int) (b : Blw) : List Int :=
  if blowNo W ([], []) b = true then h else h.set ((getI (idl W.troops) b.whom).getD 0).toNat (h.getD ((getI (idl W.troops) b.whom).getD 0).toNat 0 + harmOf (W.troops.getD ((getI (idl W.troops) b.who).getD 0).toNat default).kind)
theorem addAt_comm (h : List Int) (i j : Nat) (c d : Int) : (h.set i (h.getD i 0 + c)).set j ((h.set i (h.getD i 0 + c)).getD j 0 + d) = (h.set j (h.getD j 0 + d)).set i ((h.set j (h.getD j 0 + d)).getD i 0 + c) := by
  apply List.ext_getElem?
  intro k
  simp only [List.getD_eq_getElem?_getD, List.getElem?_set, List.length_set]
  by_cases e : i = j
  · subst e
    by_cases hk : i = k
    · subst hk
      by_cases hl : i < h.length
      · simp [hl]; omega
      · simp [hl]
    · simp [hk]
  · have e' : ¬ j = i := fun x => e x.symm
    by_cases hk : i = k
    · subst hk
      by_cases hl : i < h.length <;> simp [hl, e, e']
    · by_cases hj : j = k
      · subst hj
        by_cases hl : j < h.length <;> simp [hl, e, e', hk]
      · simp [hk, hj]
theorem hitAt_comm (W : Wd) (h : List Int) (a b : Blw) : hitAt W (hitAt W h a) b = hitAt W (hitAt W h b) a := by
  unfold hitAt
  cases blowNo W ([], []) a <;> cases blowNo W ([], []) b <;> simp only [Bool.false_eq_true, if_true, if_false]
  exact addAt_comm h _ _ _ _
theorem blows_apart {W : Wd} : ∀ (l : List Blw) {s : List Bool × List Int}, l.Pairwise (fun a b => a.who ≠ b.who) → (∀ b ∈ l, ∀ v, getI (idl W.troops) b.who = some v → s.1.getD v.toNat false = false) → (l.foldl (blow W) s).2 = l.foldl (hitAt W) s.2
  | [], _, _, _ => rfl
  | b :: l, s, hP, hf => by
    obtain ⟨h1, h2⟩ := List.pairwise_cons.1 hP
    have hb := hf b List.mem_cons_self
    have e : blowNo W s b = blowNo W ([], []) b := by
      unfold blowNo
      cases hg : getI (idl W.troops) b.who with
      | none => simp
      | some v => have := hb v hg; simp only [Option.getD_some]; rw [this]; simp
    rw [List.foldl_cons, List.foldl_cons]
    cases hn : blowNo W ([], []) b with
    | true =>
      rw [hn] at e
      rw [blow_no e]
      have : hitAt W s.2 b = s.2 := by unfold hitAt; rw [hn]; rfl
      rw [this]
      exact blows_apart l h2 fun x hx => hf x (List.mem_cons_of_mem _ hx)
    | false =>
      rw [hn] at e
      rw [blow_yes e]
      have : hitAt W s.2 b = s.2.set ((getI (idl W.troops) b.whom).getD 0).toNat (s.2.getD ((getI (idl W.troops) b.whom).getD 0).toNat 0 + harmOf (W.troops.getD ((getI (idl W.troops) b.who).getD 0).toNat default).kind) := by unfold hitAt; rw [hn]; rfl
      rw [this]
      refine blows_apart l h2 fun x hx v hv => ?_
      have hx0 := hf x (List.mem_cons_of_mem _ hx) v hv
      have hne := h1 x hx
      obtain ⟨i, hi, rfl, hid⟩ := place_of hv
      simp only [Int.toNat_natCast] at hx0 ⊢
      have : ((getI (idl W.troops) b.who).getD 0).toNat ≠ i := by
        unfold blowNo at hn
        simp only [Bool.or_eq_false_iff, Bool.not_eq_false'] at hn
        obtain ⟨u, hu⟩ := Option.isSome_iff_exists.1 hn.1.1.1
        obtain ⟨j, hj, rfl, hjd⟩ := place_of hu
        rw [hu]
        intro e
        simp only [Option.getD_some, Int.toNat_natCast] at e
        subst e
        exact hne (by rw [← hjd, hid])
      show (s.1.set _ true).getD i false = false
      rw [List.getD_eq_getElem?_getD, List.getElem?_set, if_neg this, ← List.getD_eq_getElem?_getD]
      exact hx0
theorem blows_rev {W : Wd} {l : List Blw} (hP : l.Pairwise (fun a b => a.who ≠ b.who)) : (blows W l.reverse).2 = (blows W l).2 := by
  have hf : ∀ (l : List Blw), ∀ b ∈ l, ∀ v, getI (idl W.troops) b.who = some v → (List.replicate W.troops.length false).getD v.toNat false = false := fun l b hb v hv => by
    rw [List.getD_eq_getElem?_getD, List.getElem?_replicate]; split <;> rfl
  have hP2 : l.reverse.Pairwise (fun a b => a.who ≠ b.who) := List.pairwise_reverse.2 (hP.imp fun h e => h e.symm)
  unfold blows
  rw [blows_apart _ hP2 (hf _), blows_apart _ hP (hf _)]
  exact (List.reverse_perm l).foldl_eq' (fun x _ y _ z => hitAt_comm W z x y) _
theorem blowE_rev (W : Wd) (l : List Blw) : blowE W l.reverse = blowE W l := by unfold blowE; rw [List.length_reverse]
theorem any_no (W : Wd) (l : List Blw) : ((blowE W l) == (blowE W l.reverse)) = true := by rw [blowE_rev]; simp
theorem pairwise_take {l : List Blw} (h : ∀ i, i < l.length → (l.take i).any (fun x => x.who == (l.getD i default).who) = false) : l.Pairwise (fun a b => a.who ≠ b.who) := by
  rw [List.pairwise_iff_getElem]
  intro i j hi hj hij e
  have h1 := h j hj
  rw [List.any_eq_false] at h1
  refine h1 l[i] (List.mem_iff_getElem?.2 ⟨i, by rw [List.getElem?_take, if_pos hij, List.getElem?_eq_getElem hi]⟩) ?_
  rw [List.getD_eq_getElem?_getD, List.getElem?_eq_getElem hj]
  simpa using e
theorem any_yes {W : Wd} {l : List Blw} (hE : blowE W l = 0) (h : ∀ i, i < l.length → (l.take i).any (fun x => x.who == (l.getD i default).who) = false) :
    ((((blowE W l.reverse) == 0) && (decide (struckW W l = struckW W l.reverse))) && (decide (struckG W l = struckG W l.reverse))) = true := by
  have hr := blowE_rev W l
  have hb := blows_rev (W := W) (pairwise_take h)
  have hh : harmW W l.reverse = harmW W l := by unfold harmW; rw [hr, hb]
  have h1 : struckW W l.reverse = struckW W l := by unfold struckW; rw [hr, hh]
  have h2 : struckG W l.reverse = struckG W l := by unfold struckG; rw [hr, hh]
  rw [h1, h2, hr, hE]
  simp
set_option maxRecDepth 100000 in
set_option maxHeartbeats 400000 in
theorem hitAny_walk (a : Wd.At) (W : Wd) (A : Option Addr) (c : Nat) (l : List Blw) (w : World) (hW : Wd.Has w a W) (hl : Blw.rep.SHas 16 w A c l) :
    Calls Try.prog 10 #[.agg ((Wd.cells a W).toArray), .slice A l.length c] w (fun e w' => e = .returned (.bool true) ∧ Ext w w') := by
  have hll := hl.len_le
  refine calls_W (n := 69) Try.func10 rfl rfl rfl ?_
  refine sq <| rg <| bx rfl rfl rfl rfl fun w_1 b_2 x_3 l_4 B_5 => ?_
  have q_6 := x_3.size
  have z_1 := Ext.tr (Ext.rf w) x_3
  have q_7 := B_5.lt
  refine vl (as_ rfl) rfl <| nl <| nT <| sq <| rg <| vl (mv rfl) rfl <| ca HitA_en_slices_Clone_S_api_Blow_api_Blow_ rfl rfl ((clone_W _ _ l _ (hl.keep z_1)).mono ?_)
  rintro e w_11 ⟨A_8, c_8, rfl, OC_8, hn_8, x_12⟩
  refine ⟨_, rfl, ?_⟩
  have q_13 := x_12.size
  have z_11 := Ext.tr z_1 x_12
  have u_9 := fun q hq => (OC_8.lt q hq).2
  have lo_10 := fun q hq => (OC_8.lt q hq).1
  refine vl (as_ rfl) rfl <| nl <| nT <| sq <| rg <| vl (mv rfl) rfl <| ca HitA_en_slices_Reverse_S_api_Blow_api_Blow_ rfl rfl ((rev_W _ _ l _ _ OC_8).mono ?_)
  rintro e w_15 ⟨rfl, OR_14, x_16⟩
  refine ⟨_, rfl, ?_⟩
  have q_17 := x_16.size
  have z_15 := Ext.mod z_11 x_16 (fun q hq => Nat.le_trans (by omega) (OC_8.lt q hq).1)
  refine nl <| nT <| sq <| rg <| ?_
  have B_5 := B_5.later x_12
  have d_18 : ∀ q ∈ Rep.blkOf A_8, q = b_2 → False := fun q hq hb => by (have := lo_10 q hq; omega)
  have B_5 := B_5.mod x_16 (fun hq => d_18 _ hq rfl)
  refine vl (ld rfl (B_5.all HitA_ag_api_World HitA_sz_api_World)) rfl <| vl (mv rfl) rfl <| ca HitA_en_hit_Struck rfl rfl ((struck_any l _ _ a W _ (hW.keep z_15) (hl.keep z_15)).mono ?_)
  rintro e w_24 ⟨a_19, A_19, c_19, rfl, HO_19, OG_19, hd_19, x_25⟩
  refine ⟨_, rfl, ?_⟩
  have q_26 := x_25.size
  have z_24 := Ext.tr z_15 x_25
  have u_20 := fun q hq => (HO_19.lt q hq).2
  have lo_21 := fun q hq => (HO_19.lt q hq).1
  have u_22 := fun q hq => (OG_19.lt q hq).2
  have lo_23 := fun q hq => (OG_19.lt q hq).1
  have dd_19 : ∀ q ∈ Rep.blkOf A_19, q ∈ WOwn.foot a_19 → False := hd_19
  have dw_19 : ∀ q ∈ WOwn.foot a_19, q ∈ Rep.blkOf A_19 → False := fun q h1 h2 => hd_19 q h2 h1
  refine vl (mv rfl) rfl <| vl (ex rfl rfl) rfl <| vl (ex rfl rfl) rfl <| vl (ex rfl rfl) rfl <| al rfl HitA_zv_api_World rfl rfl fun w_27 b_28 x_29 l_30 B_31 => ?_
  have q_32 := x_29.size
  have z_27 := Ext.tr z_24 x_29
  have q_33 := B_31.lt
  refine st rfl rfl B_31 rfl HitA_sz_api_World rfl rfl rfl fun w_34 m_35 B_31 => ?_
  have q_37 := m_35.size
  have z_34 := Ext.mod z_27 m_35 (by simp only [List.mem_singleton, forall_eq]; omega)
  have q_36 := m_35.size
  refine vl (as_ rfl) rfl <| vl (as_ rfl) rfl <| nl <| nT <| sq <| rg <| ?_
  have B_5 := B_5.later (Ext.tr x_25 x_29)
  have B_5 := B_5.mod m_35 (by simp only [List.mem_singleton]; omega)
  refine vl (ld rfl (B_5.all HitA_ag_api_World HitA_sz_api_World)) rfl <| vl (mv rfl) rfl <| ?_
  have OR_14 := OR_14.later (Ext.tr x_25 x_29)
  have OR_14 := OR_14.mod m_35 (fun q hq h => by have hb := List.mem_singleton.1 h; exfalso; (have := u_9 q hq; omega))
  refine ca HitA_en_hit_Struck rfl rfl ((struck_n l.reverse (List.length_reverse) _ _ a W _ (hW.keep z_34) OR_14.has).mono ?_)
  rintro e w_43 ⟨a_38, A_38, c_38, rfl, HO_38, OG_38, hd_38, x_44⟩
  refine ⟨_, rfl, ?_⟩
  have q_45 := x_44.size
  have z_43 := Ext.tr z_34 x_44
  have u_39 := fun q hq => (HO_38.lt q hq).2
  have lo_40 := fun q hq => (HO_38.lt q hq).1
  have u_41 := fun q hq => (OG_38.lt q hq).2
  have lo_42 := fun q hq => (OG_38.lt q hq).1
  have dd_38 : ∀ q ∈ Rep.blkOf A_38, q ∈ WOwn.foot a_38 → False := hd_38
  have dw_38 : ∀ q ∈ WOwn.foot a_38, q ∈ Rep.blkOf A_38 → False := fun q h1 h2 => hd_38 q h2 h1
  refine vl (mv rfl) rfl <| vl (ex rfl rfl) rfl <| vl (ex rfl rfl) rfl <| vl (ex rfl rfl) rfl <| al rfl HitA_zv_api_World rfl rfl fun w_46 b_47 x_48 l_49 B_50 => ?_
  have q_51 := x_48.size
  have z_46 := Ext.tr z_43 x_48
  have q_52 := B_50.lt
  refine st rfl rfl B_50 rfl HitA_sz_api_World rfl rfl rfl fun w_53 m_54 B_50 => ?_
  have q_56 := m_54.size
  have z_53 := Ext.mod z_46 m_54 (by simp only [List.mem_singleton, forall_eq]; omega)
  have q_55 := m_54.size
  refine vl (as_ rfl) rfl <| vl (as_ rfl) rfl <| nl <| nT <| sq <| sq <| rg <| ca HitA_en_mustkeep_hitLives rfl rfl ((hitLives_any _).mono ?_)
  rintro e w_57 ⟨rfl, x_58⟩
  refine ⟨_, rfl, ?_⟩
  have q_59 := x_58.size
  have z_57 := Ext.tr z_53 x_58
  refine vl (nt rfl) rfl <| vl (mv rfl) rfl <| ug rfl rfl rfl <| vl (mv rfl) rfl <| ug rfl rfl rfl <| vl (bne rfl rfl) rfl <| vl (pkF rfl rfl) rfl <| nl <| nT <| ?_
  refine cne rfl (fun h_60 => ?_) (fun h_60 => ?_)
  · refine sq <| rg <| ca HitA_en_mustkeep_hitLives rfl rfl ((hitLives_any _).mono ?_)
    rintro e w_61 ⟨rfl, x_62⟩
    refine ⟨_, rfl, ?_⟩
    have q_63 := x_62.size
    have z_61 := Ext.tr z_57 x_62
    refine vl (mv rfl) rfl <| ug rfl rfl rfl <| vl (mv rfl) rfl <| ug rfl rfl rfl <| vl (mv rfl) rfl <| ug rfl rfl rfl <| vl (beq rfl rfl) rfl <| vl (pkT rfl rfl) rfl <| vl (as_ rfl) rfl <| nl <| nT <| rt <| tT <| tR (.tmp rfl .nil) <| ?_
    exact ⟨ret_true (any_no W l), z_61⟩
  · have hE := h_60
    refine sk <| nT <| sq <| sq <| rg <| vl (mv rfl) rfl <| vl (ln Try.underlying60 rfl) rfl <| vl (mv rfl) rfl <| nl <| nT <| bk <| ?_
    have HO_19 := HO_19.later x_29
    have HO_19 := HO_19.mod m_35 (fun q hq h => by have hb := List.mem_singleton.1 h; exfalso; (have := u_20 q hq; omega))
    have HO_19 := HO_19.later (Ext.tr x_44 x_48)
    have HO_19 := HO_19.mod m_54 (fun q hq h => by have hb := List.mem_singleton.1 h; exfalso; (have := u_20 q hq; omega))
    have HO_19 := HO_19.later x_58
    have OG_19 := OG_19.later x_29
    have OG_19 := OG_19.mod m_35 (fun q hq h => by have hb := List.mem_singleton.1 h; exfalso; (have := u_22 q hq; omega))
    have OG_19 := OG_19.later (Ext.tr x_44 x_48)
    have OG_19 := OG_19.mod m_54 (fun q hq h => by have hb := List.mem_singleton.1 h; exfalso; (have := u_22 q hq; omega))
    have OG_19 := OG_19.later x_58
    have B_31 := B_31.later (Ext.tr x_44 x_48)
    have B_31 := B_31.mod m_54 (by simp only [List.mem_singleton]; omega)
    have B_31 := B_31.later x_58
    have HO_38 := HO_38.later x_48
    have HO_38 := HO_38.mod m_54 (fun q hq h => by have hb := List.mem_singleton.1 h; exfalso; (have := u_39 q hq; omega))
    have HO_38 := HO_38.later x_58
    have OG_38 := OG_38.later x_48
    have OG_38 := OG_38.mod m_54 (fun q hq h => by have hb := List.mem_singleton.1 h; exfalso; (have := u_41 q hq; omega))
    have OG_38 := OG_38.later x_58
    have B_50 := B_50.later x_58
    refine lp (fun mI EI wI => ∃ k : Nat, EI = [(1, .slice A l.length c), (6, .pointer (some ⟨b_28, 0, none⟩)), (7, .slice A_19 ((struckG W l).length) c_19), (9, .pointer (some ⟨b_47, 0, none⟩)), (10, .slice A_38 ((struckG W l.reverse).length) c_38), (11, .int .i64 (blowE W l.reverse)), (44, .slice A l.length c), (45, .int .i64 (l.length : Int)), (46, .int .i64 (k : Int))] ∧ mI = l.length - k ∧ Ext w wI ∧ WOwn wI w_15.heap.size a_19 (struckW W l) ∧ repI.SOwn 3 8 wI w_15.heap.size (Rep.blkOf A_19) A_19 c_19 (struckG W l) ∧ Blk wI b_28 ((Wd.cells a_19 (struckW W l))) 28 (0, 0) ∧ WOwn wI w_34.heap.size a_38 (struckW W l.reverse) ∧ repI.SOwn 3 8 wI w_34.heap.size (Rep.blkOf A_38) A_38 c_38 (struckG W l.reverse) ∧ Blk wI b_47 ((Wd.cells a_38 (struckW W l.reverse))) 28 (0, 0) ∧ (k ≤ l.length) ∧ (∀ i, i < k → (l.take i).any (fun x => x.who == (l.getD i default).who) = false)) _ _ ⟨0, rfl, rfl, z_57, HO_19, OG_19, B_31, HO_38, OG_38, B_50, by omega, fun i hi => by omega⟩ (.cons rfl (.cons rfl (.cons rfl (.cons rfl (.cons rfl (.cons rfl (.cons rfl (.cons rfl (.cons (loI rfl (by first | omega | rfl | (simp <;> omega))) .nil))))))))) ?_
    rintro m_65 E_66 w_64 ⟨k, rfl, rfl, z_64, HO_19, OG_19, B_31, HO_38, OG_38, B_50, hk, hg⟩
    have q_67 := z_64.size
    have u_68 := fun q hq => (HO_19.lt q hq).2
    have u_69 := fun q hq => (OG_19.lt q hq).2
    have q_70 := B_31.lt
    have u_71 := fun q hq => (HO_38.lt q hq).2
    have u_72 := fun q hq => (OG_38.lt q hq).2
    have q_73 := B_50.lt
    refine sq <| rg <| vl (blt rfl rfl) rfl <| nl <| nT <| sq <| ?_
    refine clt rfl (fun h_74 => ?_) (fun h_74 => ?_)
    · refine sk <| nT <| sq <| bk <| sq <| rg <| vl (mv rfl) rfl <| vl (iA k Try.underlying60 HitA_sz_api_Blow rfl rfl ((hl.keep z_64).adr (Nat.zero_lt_of_lt (show k < _ from (by omega)))) rfl (by omega)) rfl <| vl (ld rfl (Rep.SHas.elt hcW ((hl.keep z_64).adh (Nat.zero_lt_of_lt (show k < _ from (by omega)))) (get_d (l := l) (u := default) (by omega)) HitA_ag_api_Blow HitA_sz_api_Blow)) rfl <| al rfl HitA_zv_api_Blow rfl rfl fun w_75 b_76 x_77 l_78 B_79 => ?_
      have q_80 := x_77.size
      have z_75 := Ext.tr z_64 x_77
      have q_81 := B_79.lt
      refine vl (as_ rfl) rfl <| st (new := [.int .i64 ((l.getD k default).who), .int .i64 ((l.getD k default).whom)]) rfl rfl B_79 rfl HitA_sz_api_Blow rfl rfl rfl fun w_82 m_83 B_79 => ?_
      have q_85 := m_83.size
      have z_82 := Ext.mod z_75 m_83 (by simp only [List.mem_singleton, forall_eq]; omega)
      have q_84 := m_83.size
      refine nl <| nT <| sq <| rg <| vl (mv rfl) rfl <| vl (mv rfl) rfl <| vl (sP k (l.take k).length Try.underlying60 HitA_sz_api_Blow rfl rfl rfl (by have := hl.1; omega) (by rw [List.length_take]; omega)) rfl <| vl (mf rfl rfl) rfl <| ca HitA_en_slices_ContainsFunc_S_api_Blow_api_Blow_ rfl rfl ((has_by b_76 (l.getD k default) _ _ (l.take k) _ ((hl.keep z_82).pre k) B_79).mono ?_)
      rintro e w_86 ⟨rfl, x_87⟩
      refine ⟨_, rfl, ?_⟩
      have q_88 := x_87.size
      have z_86 := Ext.tr z_82 x_87
      refine nl <| nT <| ?_
      refine cb rfl (fun h_89 => ?_) (fun h_89 => ?_)
      · refine sq <| rg <| vl (as_ rfl) rfl <| nl <| nT <| rt <| tB <| tT <| tK <| tB <| tT <| tR (.tmp rfl .nil) <| ?_
        exact ⟨rfl, z_86⟩
      · refine sk <| nB <| nT <| rg <| vl (bad rfl rfl (inI (by omega))) rfl <| vl (mv rfl) rfl <| nl <| ?_
        have HO_19 := HO_19.later x_77
        have HO_19 := HO_19.mod m_83 (fun q hq h => by have hb := List.mem_singleton.1 h; exfalso; (have := u_68 q hq; have := u_20 q hq; omega))
        have HO_19 := HO_19.later x_87
        have OG_19 := OG_19.later x_77
        have OG_19 := OG_19.mod m_83 (fun q hq h => by have hb := List.mem_singleton.1 h; exfalso; (have := u_69 q hq; have := u_22 q hq; omega))
        have OG_19 := OG_19.later x_87
        have B_31 := B_31.later x_77
        have B_31 := B_31.mod m_83 (by simp only [List.mem_singleton]; omega)
        have B_31 := B_31.later x_87
        have HO_38 := HO_38.later x_77
        have HO_38 := HO_38.mod m_83 (fun q hq h => by have hb := List.mem_singleton.1 h; exfalso; (have := u_71 q hq; have := u_39 q hq; omega))
        have HO_38 := HO_38.later x_87
        have OG_38 := OG_38.later x_77
        have OG_38 := OG_38.mod m_83 (fun q hq h => by have hb := List.mem_singleton.1 h; exfalso; (have := u_72 q hq; have := u_41 q hq; omega))
        have OG_38 := OG_38.later x_87
        have B_50 := B_50.later x_77
        have B_50 := B_50.mod m_83 (by simp only [List.mem_singleton]; omega)
        have B_50 := B_50.later x_87
        exact nI _ _ ⟨k + 1, rfl, rfl, z_86, HO_19, OG_19, B_31, HO_38, OG_38, B_50, by omega, lt_succ_all hg h_89⟩ (by omega) (.cons rfl (.cons rfl (.cons rfl (.cons rfl (.cons rfl (.cons rfl (.cons rfl (.cons rfl (.cons (loI rfl (by first | omega | rfl | (simp <;> omega))) .nil)))))))))
    · refine xt <| xT <| xK <| xB <| nT <| sq <| rg <| vl (mv rfl) rfl <| vl (beq rfl rfl) rfl <| vl (mv rfl) rfl <| vQ rfl rfl rfl rfl (fun hc => ld rfl (B_31.all HitA_ag_api_World HitA_sz_api_World)) rfl <| vQ rfl rfl rfl rfl (fun hc => ld rfl (B_50.all HitA_ag_api_World HitA_sz_api_World)) rfl <| vC rfl rfl rfl rfl HitA_en_mustref_SameWorld (fun hc => ec (gt hc rfl) (ec (gt hc rfl) rfl)) (fun hc => sameWorld_any _ a_19 (struckW W l) a_38 (struckW W l.reverse) HO_19.has HO_38.has) rfl fun w_90 x_91 => ?_
      have q_92 := x_91.size
      have z_90 := Ext.tr z_64 x_91
      refine vl (pA rfl rfl rfl rfl) rfl <| vl (mv rfl) rfl <| vQ rfl rfl rfl rfl (fun hc => mv rfl) rfl <| vQ rfl rfl rfl rfl (fun hc => mv rfl) rfl <| ?_
      have OG_19 := OG_19.later x_91
      have OG_38 := OG_38.later x_91
      refine vC rfl rfl rfl rfl HitA_en_slices_Equal_S_int_int_ (fun hc => ec (gt hc rfl) (ec (gt hc rfl) rfl)) (fun hc => equal_Z _ _ _ _ _ _ (struckG W l) (struckG W l.reverse) _ OG_19.has OG_38.has) rfl fun w_93 x_94 => ?_
      have q_95 := x_94.size
      have z_93 := Ext.tr z_90 x_94
      refine vl (pA rfl rfl rfl rfl) rfl <| vl (as_ rfl) rfl <| nl <| nT <| rt <| tR (.tmp rfl .nil) <| ?_
      exact ⟨ret_true (any_yes (by simpa using hE) fun i hi => hg i (by omega)), z_93⟩
theorem hitAny_any (c0 : Array Value) (a1 : Option Addr) (len1 cap1 : Nat) (w : World) (h0 : (.cons (.cons (.int .i64) (.cons (.int .i64) (.cons (.slice (.int .i64) 8) .nil))) (.cons (.slice (.cons (.int .i64) (.cons (.int .i64) .nil)) 16) (.cons (.slice (.int .i64) 8) (.cons (.slice (.int .i64) 8) (.cons (.slice (.cons (.int .i64) (.cons (.int .i64) (.cons (.int .i64) (.cons (.cons (.int .i64) (.cons (.int .i64) .nil)) (.cons (.int .i64) (.cons (.int .i64) .nil)))))) 56) (.cons (.int .i64) (.cons (.int .i64) .nil)))))) : Sh).Ok w c0.toList) (h1 : (.slice (.cons (.int .i64) (.cons (.int .i64) .nil)) 16 : Sh).Ok w [.slice a1 len1 cap1]) :
    Calls Try.prog 10 #[.agg c0, .slice a1 len1 cap1] w fun e w' => e = .returned (.bool true) ∧ Below w.heap.size w w' := by
  obtain ⟨a, W, e, hW⟩ := Wd.opens w _ (show Wd.sh.Ok w c0.toList from h0)
  have hc : c0 = (Wd.cells a W).toArray := by rw [← e]
  subst hc
  obtain ⟨A, c, l, e2, hl⟩ := Rep.opens_slice (R := Blw.rep) (by_ := 16) Blw.opens rfl (by decide) h1
  simp only [List.cons.injEq, Value.slice.injEq, and_true] at e2
  obtain ⟨rfl, rfl, rfl⟩ := e2
  exact hitAny_walk a W _ _ l w hW hl
end Go.Proofs.Yticfnngppcmidaa
