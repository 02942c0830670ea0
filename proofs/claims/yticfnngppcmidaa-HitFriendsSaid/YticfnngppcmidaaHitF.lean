/-
  HitFriends. (Printed by bin/hitlaw2.py.)
-/
import Derived.Test.YticfnngppcmidaaHitM
import Derived.Test.YticfnngppcmidaaHitP
set_option linter.unusedVariables false
set_option linter.unusedSimpArgs false
namespace Go.Proofs.Yticfnngppcmidaa
open Go.RowKit

theorem HitF_ag_api_World : Ag Try.prog 28 true := fun _ => by kernel_rfl
theorem HitF_sz_api_World : Sz Try.prog 28 9 := fun _ => by kernel_rfl
theorem HitF_en_hit_Blows : Enters Try.prog 33 := en Try.func33 (by kernel_rfl) (by kernel_rfl)
theorem HitF_en_mustkeep_hitLives : Enters Try.prog 34 := en Try.func34 (by kernel_rfl) (by kernel_rfl)
theorem HitF_fd_api_World_4 : Fd Try.prog 28 4 6 := fun _ _ _ => by kernel_rfl
theorem HitF_ag_S_api_Troop : Ag Try.prog 26 false := fun _ => by kernel_rfl
theorem HitF_sz_api_Troop : Sz Try.prog 39 7 := fun _ => by kernel_rfl
theorem HitF_ag_api_Troop : Ag Try.prog 39 true := fun _ => by kernel_rfl
theorem HitF_zv_api_Troop : Zv Try.prog 39 (.agg #[.int .i64 0, .int .i64 0, .int .i64 0, .int .i64 0, .int .i64 0, .int .i64 0, .int .i64 0]) := fun _ => by kernel_rfl
theorem HitF_fd_api_Troop_2 : Fd Try.prog 39 2 2 := fun _ _ _ => by kernel_rfl
theorem HitF_ag_int : Ag Try.prog 3 false := fun _ => by kernel_rfl
theorem HitF_en_troop_Kind : Enters Try.prog 35 := en Try.func35 (by kernel_rfl) (by kernel_rfl)
theorem HitF_zv_api_Kind : Zv Try.prog 64 (.agg #[.int .i64 0, .int .i64 0, .int .i64 0, .int .i64 0]) := fun _ => by kernel_rfl
theorem HitF_sz_api_Kind : Sz Try.prog 64 4 := fun _ => by kernel_rfl
theorem HitF_fd_api_Troop_3 : Fd Try.prog 39 3 3 := fun _ _ _ => by kernel_rfl
theorem HitF_fd_api_Cell_0 : Fd Try.prog 37 0 0 := fun _ _ _ => by kernel_rfl
theorem HitF_fd_api_Cell_1 : Fd Try.prog 37 1 1 := fun _ _ _ => by kernel_rfl
theorem HitF_fd_api_Kind_1 : Fd Try.prog 64 1 1 := fun _ _ _ => by kernel_rfl
theorem HitF_fd_api_Troop_1 : Fd Try.prog 39 1 1 := fun _ _ _ => by kernel_rfl
theorem HitF_en_slices_ContainsFunc_S_api_Blow_api_Blow_ : Enters Try.prog 36 := en Try.func36 (by kernel_rfl) (by kernel_rfl)
theorem HitF_fd_api_Kind_2 : Fd Try.prog 64 2 2 := fun _ _ _ => by kernel_rfl
theorem HitF_sz_int : Sz Try.prog 3 1 := fun _ => by kernel_rfl
/-- Does a blow count that one troop may have told at another one? -/
def mostT (W : Wd) (l : List Blw) (k j : Nat) : Bool := ((((W.troops.getD j default).owner) != ((W.troops.getD k default).owner)) && (decide (max (max (max (((W.troops.getD j default).spot.x) - ((W.troops.getD k default).spot.x)) (((W.troops.getD k default).spot.x) - ((W.troops.getD j default).spot.x))) (((W.troops.getD j default).spot.y) - ((W.troops.getD k default).spot.y))) (((W.troops.getD k default).spot.y) - ((W.troops.getD j default).spot.y)) ≤ reachOf ((W.troops.getD j default).kind)))) && (l.any (fun x => (x.who == (W.troops.getD j default).id) && (x.whom == (W.troops.getD k default).id)))
def sumTo (f : Nat → Int) : Nat → Int
  | 0 => 0
  | n + 1 => sumTo f n + f n
theorem sumTo_le {f g : Nat → Int} : ∀ n, (∀ i, i < n → f i ≤ g i) → sumTo f n ≤ sumTo g n
  | 0, _ => Int.le_refl _
  | n + 1, h => by have h1 := sumTo_le n fun i hi => h i (by omega); have h2 := h n (by omega); show sumTo f n + f n ≤ sumTo g n + g n; omega
theorem sumTo_at {f g : Nat → Int} {i : Nat} {d : Int} : ∀ n, i < n → (∀ j, j ≠ i → f j ≤ g j) → f i + d ≤ g i → sumTo f n + d ≤ sumTo g n
  | 0, h, _, _ => by omega
  | n + 1, h, h1, h2 => by
    show sumTo f n + f n + d ≤ sumTo g n + g n
    by_cases e : i = n
    · subst e
      have := sumTo_le (f := f) (g := g) i fun j hj => h1 j (by omega)
      omega
    · have := sumTo_at (f := f) (g := g) n (by omega) h1 h2
      have := h1 n (fun e' => e e'.symm)
      omega
def mostF (W : Wd) (l : List Blw) (k : Nat) (i : Nat) : Int := if mostT W l k i = true then harmOf (W.troops.getD i default).kind else 0
def mostOf (W : Wd) (l : List Blw) (k j : Nat) : Int := sumTo (mostF W l k) j
theorem most_yes {W : Wd} {l : List Blw} {k j : Nat} (h : mostT W l k j = true) : mostOf W l k (j + 1) = mostOf W l k j + harmOf (W.troops.getD j default).kind := by
  show sumTo _ j + mostF W l k j = _
  unfold mostF; rw [if_pos h]; rfl
theorem most_no {W : Wd} {l : List Blw} {k j : Nat} (h : mostT W l k j = false) : mostOf W l k (j + 1) = mostOf W l k j := by
  show sumTo _ j + mostF W l k j = _
  have : mostF W l k j = 0 := by unfold mostF; rw [h]; rfl
  rw [this, Int.add_zero]; rfl
theorem mostF_bd (W : Wd) (l : List Blw) (k i : Nat) : 0 ≤ mostF W l k i ∧ mostF W l k i ≤ 4 := by
  have := harm_bd (W.troops.getD i default).kind
  unfold mostF; split <;> omega
theorem mostOf_bd (W : Wd) (l : List Blw) (k : Nat) : ∀ j, 0 ≤ mostOf W l k j ∧ mostOf W l k j ≤ 4 * j
  | 0 => ⟨Int.le_refl _, Int.le_refl _⟩
  | j + 1 => by have h1 := mostOf_bd W l k j; have h2 := mostF_bd W l k j; show 0 ≤ mostOf W l k j + mostF W l k j ∧ mostOf W l k j + mostF W l k j ≤ _; omega
/-- What has been told of blows is no more than those may do that have told them. -/
def Friends (W : Wd) (L : List Blw) (s : List Bool × List Int) : Prop := s.1.length = W.troops.length ∧ ∀ k, s.2.getD k 0 ≤ sumTo (fun i => if s.1.getD i false = true then mostF W L k i else 0) W.troops.length
theorem counts_near {f : Fld} {x y : Trp} (h : countsC f x y = true) : x.owner ≠ y.owner ∧ max (max (max (x.spot.x - y.spot.x) (y.spot.x - x.spot.x)) (x.spot.y - y.spot.y)) (y.spot.y - x.spot.y) ≤ reachOf x.kind := by
  unfold countsC at h
  split at h
  · exact nomatch h
  · rename_i h1
    simp only [Bool.or_eq_true, beq_iff_eq, decide_eq_true_eq, not_or] at h1
    refine ⟨h1.1, ?_⟩
    have h2 := h1.2
    have s1 := sz_bd (y.spot.x - x.spot.x)
    have s2 := sz_bd (y.spot.y - x.spot.y)
    unfold far at h2
    omega
theorem blow_friends {W : Wd} {L : List Blw} {s : List Bool × List Int} {b : Blw} (hb : b ∈ L) (h : Friends W L s) : Friends W L (blow W s b) := by
  cases hn : blowNo W s b with
  | true => rw [blow_no hn]; exact h
  | false =>
    rw [blow_yes hn]
    obtain ⟨h1, h2⟩ := h
    unfold blowNo at hn
    simp only [Bool.or_eq_false_iff, Bool.not_eq_false'] at hn
    obtain ⟨⟨⟨n1, n2⟩, n3⟩, n4⟩ := hn
    obtain ⟨v, hv⟩ := Option.isSome_iff_exists.1 n1
    obtain ⟨u, hu⟩ := Option.isSome_iff_exists.1 n2
    rw [hv, hu] at n4
    rw [hv] at n3
    rw [hv, hu]
    obtain ⟨i, hi, rfl, hid⟩ := place_of hv
    obtain ⟨j, hj, rfl, hjd⟩ := place_of hu
    simp only [Option.getD_some, Int.toNat_natCast] at n3 n4 ⊢
    have hc := counts_near n4
    refine ⟨by rw [List.length_set]; exact h1, fun k => ?_⟩
    have hk := h2 k
    have hset : ∀ m, (s.1.set i true).getD m false = if m = i then true else s.1.getD m false := fun m => by
      rw [List.getD_eq_getElem?_getD, List.getElem?_set, List.getD_eq_getElem?_getD]
      by_cases e : i = m
      · subst e; rw [if_pos rfl, if_pos (by omega), if_pos rfl]; rfl
      · rw [if_neg e, if_neg (fun e' => e e'.symm)]
    have hmono : ∀ m, m ≠ i → (if s.1.getD m false = true then mostF W L k m else 0) ≤ (if (s.1.set i true).getD m false = true then mostF W L k m else 0) := fun m hm => by
      rw [hset m, if_neg hm]; exact Int.le_refl _
    have hi0 : (if s.1.getD i false = true then mostF W L k i else 0) = 0 := by rw [n3]; rfl
    have hi1 : (if (s.1.set i true).getD i false = true then mostF W L k i else 0) = mostF W L k i := by rw [hset i, if_pos rfl]; rfl
    have hF := mostF_bd W L k i
    show (s.2.set j _).getD k 0 ≤ _
    rw [List.getD_eq_getElem?_getD, List.getElem?_set]
    by_cases e : j = k
    · subst e
      have hm : mostF W L j i = harmOf (W.troops.getD i default).kind := by
        unfold mostF
        rw [if_pos]
        unfold mostT
        simp only [Bool.and_eq_true, bne_iff_ne, ne_eq, decide_eq_true_eq, List.any_eq_true, beq_iff_eq]
        exact ⟨⟨hc.1, hc.2⟩, b, hb, hid.symm, hjd.symm⟩
      have := sumTo_at (i := i) (d := harmOf (W.troops.getD i default).kind) W.troops.length hi hmono (by show _ + _ ≤ _; rw [hi0, hi1, hm]; omega)
      rw [if_pos rfl]
      split
      · simp only [Option.getD_some]; omega
      · simp only [Option.getD_none]
        have h3 := harm_bd (W.troops.getD i default).kind
        have h4 : s.2.getD j 0 = 0 := by rw [List.getD_eq_getElem?_getD, List.getElem?_eq_none (by omega)]; rfl
        omega
    · rw [if_neg e]
      have := sumTo_at (i := i) (d := 0) W.troops.length hi hmono (by show _ + _ ≤ _; rw [hi0, hi1]; omega)
      rw [List.getD_eq_getElem?_getD] at hk
      simp only [Int.add_zero] at this
      exact Int.le_trans hk this
theorem blows_friends {W : Wd} {L : List Blw} : ∀ (l : List Blw) {s : List Bool × List Int}, (∀ b ∈ l, b ∈ L) → Friends W L s → Friends W L (l.foldl (blow W) s)
  | [], _, _, h => h
  | b :: l, _, hL, h => blows_friends l (fun x hx => hL x (List.mem_cons_of_mem _ hx)) (blow_friends (hL b List.mem_cons_self) h)
theorem friends_bd {W : Wd} {l : List Blw} (hE : blowE W l = 0) {k : Nat} : (harmW W l).getD k 0 ≤ mostOf W l k W.troops.length := by
  have e : harmW W l = (blows W l).2 := by unfold harmW; rw [hE]; rfl
  have h0 : Friends W l (List.replicate W.troops.length false, List.replicate W.troops.length 0) := by
    refine ⟨List.length_replicate, fun k => ?_⟩
    have h1 : (List.replicate W.troops.length (0 : Int)).getD k 0 = 0 := by rw [List.getD_eq_getElem?_getD, List.getElem?_replicate]; split <;> rfl
    have h2 : sumTo (fun _ => 0) W.troops.length ≤ sumTo (fun i => if (List.replicate W.troops.length false).getD i false = true then mostF W l k i else 0) W.troops.length := sumTo_le _ fun i hi => by
      split
      · exact (mostF_bd W l k i).1
      · exact Int.le_refl _
    have h3 : ∀ n, sumTo (fun _ => 0) n = 0 := fun n => by induction n with
      | zero => rfl
      | succ n ih => show sumTo _ n + 0 = 0; rw [ih]; rfl
    show (List.replicate W.troops.length (0 : Int)).getD k 0 ≤ _
    rw [h1]; rw [h3] at h2; exact h2
  have := (blows_friends l (fun b hb => hb) h0).2 k
  rw [e]
  refine Int.le_trans this (sumTo_le _ fun i hi => ?_)
  have := mostF_bd W l k i
  split <;> omega
theorem friends_len {W : Wd} {l : List Blw} (h : (((blowE W l) != 0) || (((((harmW W l).length : Nat) : Int)) != (W.troops.length : Int))) = true) : (blowE W l != 0) = true := by
  rw [bne_iff_ne]
  intro e
  rw [e, (harm_of e).1] at h
  simp at h
set_option maxRecDepth 100000 in
set_option maxHeartbeats 400000 in
theorem hitFriends_walk (a : Wd.At) (W : Wd) (A : Option Addr) (c : Nat) (l : List Blw) (w : World) (hW : Wd.Has w a W) (hl : Blw.rep.SHas 16 w A c l) :
    Calls Try.prog 8 #[.agg ((Wd.cells a W).toArray), .slice A l.length c] w (fun e w' => e = .returned (.bool true) ∧ Ext w w') := by
  refine calls_W (n := 125) Try.func8 rfl rfl rfl ?_
  refine sq <| rg <| bx rfl rfl rfl rfl fun w_1 b_2 x_3 l_4 B_5 => ?_
  have q_6 := x_3.size
  have z_1 := Ext.tr (Ext.rf w) x_3
  have q_7 := B_5.lt
  refine vl (as_ rfl) rfl <| nl <| nT <| sq <| rg <| vl (ld rfl (B_5.all HitF_ag_api_World HitF_sz_api_World)) rfl <| vl (mv rfl) rfl <| ca HitF_en_hit_Blows rfl rfl ((blows_any a W l _ _ _ (hW.keep z_1) (hl.keep z_1)).mono ?_)
  rintro e w_11 ⟨A_8, c_8, rfl, OH_8, x_12⟩
  refine ⟨_, rfl, ?_⟩
  have q_13 := x_12.size
  have z_11 := Ext.tr z_1 x_12
  have u_9 := fun q hq => (OH_8.lt q hq).2
  have lo_10 := fun q hq => (OH_8.lt q hq).1
  refine vl (mv rfl) rfl <| vl (ex rfl rfl) rfl <| vl (ex rfl rfl) rfl <| vl (as_ rfl) rfl <| vl (as_ rfl) rfl <| nl <| nT <| sq <| sq <| rg <| ca HitF_en_mustkeep_hitLives rfl rfl ((hitLives_any _).mono ?_)
  rintro e w_14 ⟨rfl, x_15⟩
  refine ⟨_, rfl, ?_⟩
  have q_16 := x_15.size
  have z_14 := Ext.tr z_11 x_15
  refine vl (nt rfl) rfl <| vl (mv rfl) rfl <| ug rfl rfl rfl <| vl (mv rfl) rfl <| ug rfl rfl rfl <| vl (bne rfl rfl) rfl <| vl (pkF rfl rfl) rfl <| vl (mv rfl) rfl <| vQ rfl rfl rfl rfl (fun hc => mv rfl) rfl <| vQ rfl rfl rfl rfl (fun hc => ln Try.underlying22 (gt hc rfl)) rfl <| vQ rfl rfl rfl rfl (fun hc => fa HitF_fd_api_World_4 rfl) rfl <| ?_
  have B_5 := B_5.later (Ext.tr x_12 x_15)
  refine vQ rfl rfl rfl rfl (fun hc => ld (gt hc rfl) (B_5.one HitF_ag_S_api_Troop rfl)) rfl <| vQ rfl rfl rfl rfl (fun hc => ln Try.underlying26 (gt hc rfl)) rfl <| vQ rfl rfl rfl rfl (fun hc => bne (gt hc rfl) (gt hc rfl)) rfl <| vl (pO rfl rfl rfl rfl) rfl <| nl <| nT <| ?_
  refine cb rfl (fun h_17 => ?_) (fun h_17 => ?_)
  · refine sq <| rg <| ca HitF_en_mustkeep_hitLives rfl rfl ((hitLives_any _).mono ?_)
    rintro e w_18 ⟨rfl, x_19⟩
    refine ⟨_, rfl, ?_⟩
    have q_20 := x_19.size
    have z_18 := Ext.tr z_14 x_19
    refine vl (mv rfl) rfl <| ug rfl rfl rfl <| vl (mv rfl) rfl <| ug rfl rfl rfl <| vl (bne rfl rfl) rfl <| vl (pkT rfl rfl) rfl <| vl (as_ rfl) rfl <| nl <| nT <| rt <| tT <| tR (.tmp rfl .nil) <| ?_
    exact ⟨ret_true (friends_len h_17), z_18⟩
  · have hE : blowE W l = 0 := by simp only [Bool.or_eq_true, Bool.or_eq_false_iff, Bool.and_eq_true, Bool.and_eq_false_iff, decide_eq_true_eq, decide_eq_false_iff_not, beq_iff_eq, bne_iff_ne, beq_eq_false_iff_ne, bne_eq_false_iff_eq, Bool.not_eq_true', Bool.not_eq_false', Bool.not_eq_true, Bool.not_eq_false, Int.not_lt, Int.not_le, Nat.not_lt, Nat.not_le, ne_eq, Classical.not_not] at h_17; exact h_17.1
    have hS := struck_of hE
    have hnt := hS.good.nt
    have hhl := hS.hl
    have hnr := fun i => hS.good.nearD i
    refine sk <| nT <| sq <| sq <| rg <| vl (fa HitF_fd_api_World_4 rfl) rfl <| vl (ld rfl (B_5.one HitF_ag_S_api_Troop rfl)) rfl <| vl (ln Try.underlying26 rfl) rfl <| vl (mv rfl) rfl <| nl <| nT <| bk <| ?_
    have OH_8 := OH_8.later x_15
    refine lp (fun mI EI wI => ∃ k : Nat, EI = [(1, .slice A l.length c), (2, .pointer (some ⟨b_2, 0, none⟩)), (5, .slice A_8 ((harmW W l).length) c_8), (41, .slice a.T W.troops.length a.t), (42, .int .i64 (W.troops.length : Int)), (43, .int .i64 (k : Int))] ∧ mI = W.troops.length - k ∧ Ext w wI ∧ Blk wI b_2 (Wd.cells a W) 28 (0, 0) ∧ repI.SOwn 3 8 wI w_1.heap.size (Rep.blkOf A_8) A_8 c_8 (harmW W l) ∧ (k ≤ W.troops.length)) _ _ ⟨0, rfl, rfl, z_14, B_5, OH_8, by omega⟩ (.cons rfl (.cons rfl (.cons rfl (.cons rfl (.cons rfl (.cons (loI rfl (by first | omega | rfl | (simp <;> omega))) .nil)))))) ?_
    rintro m_22 E_23 w_21 ⟨k, rfl, rfl, z_21, B_5, OH_8, hk⟩
    have q_24 := z_21.size
    have q_25 := B_5.lt
    have u_26 := fun q hq => (OH_8.lt q hq).2
    refine sq <| rg <| vl (blt rfl rfl) rfl <| nl <| nT <| sq <| ?_
    refine clt rfl (fun h_27 => ?_) (fun h_27 => ?_)
    · refine sk <| nT <| sq <| bk <| sq <| rg <| vl (mv rfl) rfl <| vl (iA k Try.underlying26 HitF_sz_api_Troop rfl rfl ((hW.T.keep z_21).adr (Nat.zero_lt_of_lt (show k < _ from (by omega)))) rfl (by omega)) rfl <| vl (ld rfl (Rep.SHas.elt hcT ((hW.T.keep z_21).adh (Nat.zero_lt_of_lt (show k < _ from (by omega)))) (get_d (l := W.troops) (u := default) (by omega)) HitF_ag_api_Troop HitF_sz_api_Troop)) rfl <| al rfl HitF_zv_api_Troop rfl rfl fun w_28 b_29 x_30 l_31 B_32 => ?_
      have q_33 := x_30.size
      have z_28 := Ext.tr z_21 x_30
      have q_34 := B_32.lt
      refine vl (as_ rfl) rfl <| st (new := [.int .i64 ((W.troops.getD k default).id), .int .i64 ((W.troops.getD k default).owner), .int .i64 ((W.troops.getD k default).kind), .int .i64 ((W.troops.getD k default).spot.x), .int .i64 ((W.troops.getD k default).spot.y), .int .i64 ((W.troops.getD k default).life), .int .i64 ((W.troops.getD k default).load)]) rfl rfl B_32 rfl HitF_sz_api_Troop rfl rfl rfl fun w_35 m_36 B_32 => ?_
      have q_38 := m_36.size
      have z_35 := Ext.mod z_28 m_36 (by simp only [List.mem_singleton, forall_eq]; omega)
      have q_37 := m_36.size
      refine nl <| nT <| sq <| rg <| vl (as_ rfl) rfl <| nl <| nT <| sq <| sq <| rg <| vl (fa HitF_fd_api_World_4 rfl) rfl <| ?_
      have B_5 := B_5.later x_30
      have B_5 := B_5.mod m_36 (by simp only [List.mem_singleton]; omega)
      refine vl (ld rfl (B_5.one HitF_ag_S_api_Troop rfl)) rfl <| vl (ln Try.underlying26 rfl) rfl <| vl (mv rfl) rfl <| nl <| nT <| bk <| ?_
      have OH_8 := OH_8.later x_30
      have OH_8 := OH_8.mod m_36 (fun q hq h => by have hb := List.mem_singleton.1 h; exfalso; (have := u_26 q hq; have := u_9 q hq; omega))
      refine lp (fun mI EI wI => ∃ j : Nat, ∃ m : Int, EI = [(1, .slice A l.length c), (2, .pointer (some ⟨b_2, 0, none⟩)), (5, .slice A_8 ((harmW W l).length) c_8), (7, .int .i64 (k : Int)), (8, .pointer (some ⟨b_29, 0, none⟩)), (9, .int .i64 m), (41, .slice a.T W.troops.length a.t), (42, .int .i64 (W.troops.length : Int)), (43, .int .i64 (k : Int)), (44, .bool (decide ((k : Int) < (W.troops.length : Int)))), (45, .int .i64 (k : Int)), (46, .pointer (some ⟨bA a.T, oA a.T + k * 7, none⟩)), (47, .agg #[.int .i64 ((W.troops.getD k default).id), .int .i64 ((W.troops.getD k default).owner), .int .i64 ((W.troops.getD k default).kind), .int .i64 ((W.troops.getD k default).spot.x), .int .i64 ((W.troops.getD k default).spot.y), .int .i64 ((W.troops.getD k default).life), .int .i64 ((W.troops.getD k default).load)]), (48, .pointer (some ⟨b_2, 6, none⟩)), (49, .slice a.T W.troops.length a.t), (50, .int .i64 (W.troops.length : Int)), (51, .int .i64 (j : Int))] ∧ mI = W.troops.length - j ∧ Ext w wI ∧ Blk wI b_2 (Wd.cells a W) 28 (0, 0) ∧ repI.SOwn 3 8 wI w_1.heap.size (Rep.blkOf A_8) A_8 c_8 (harmW W l) ∧ Blk wI b_29 [.int .i64 ((W.troops.getD k default).id), .int .i64 ((W.troops.getD k default).owner), .int .i64 ((W.troops.getD k default).kind), .int .i64 ((W.troops.getD k default).spot.x), .int .i64 ((W.troops.getD k default).spot.y), .int .i64 ((W.troops.getD k default).life), .int .i64 ((W.troops.getD k default).load)] 39 (0, 0) ∧ (j ≤ W.troops.length) ∧ (m = mostOf W l k j)) _ _ ⟨0, 0, rfl, rfl, z_35, B_5, OH_8, B_32, by omega, rfl⟩ (.cons rfl (.cons rfl (.cons rfl (.cons rfl (.cons rfl (.cons rfl (.cons rfl (.cons rfl (.cons rfl (.cons rfl (.cons rfl (.cons rfl (.cons rfl (.cons rfl (.cons rfl (.cons rfl (.cons (loI rfl (by first | omega | rfl | (simp <;> omega))) .nil))))))))))))))))) ?_
      rintro m_40 E_41 w_39 ⟨j, m, rfl, rfl, z_39, B_5, OH_8, B_32, hj, hm⟩
      have q_42 := z_39.size
      have q_43 := B_5.lt
      have u_44 := fun q hq => (OH_8.lt q hq).2
      have q_45 := B_32.lt
      have hmb := mostOf_bd W l k j
      have n1 := hnr j
      have n2 := hnr k
      have hkb := harm_bd (W.troops.getD j default).kind
      refine sq <| rg <| vl (blt rfl rfl) rfl <| nl <| nT <| sq <| ?_
      refine clt rfl (fun h_46 => ?_) (fun h_46 => ?_)
      · refine sk <| nT <| sq <| bk <| sq <| rg <| vl (iA j Try.underlying26 HitF_sz_api_Troop rfl rfl ((hW.T.keep z_39).adr (Nat.zero_lt_of_lt (show j < _ from (by omega)))) rfl (by omega)) rfl <| vl (ld rfl (Rep.SHas.elt hcT ((hW.T.keep z_39).adh (Nat.zero_lt_of_lt (show j < _ from (by omega)))) (get_d (l := W.troops) (u := default) (by omega)) HitF_ag_api_Troop HitF_sz_api_Troop)) rfl <| al rfl HitF_zv_api_Troop rfl rfl fun w_47 b_48 x_49 l_50 B_51 => ?_
        have q_52 := x_49.size
        have z_47 := Ext.tr z_39 x_49
        have q_53 := B_51.lt
        refine st (new := [.int .i64 ((W.troops.getD j default).id), .int .i64 ((W.troops.getD j default).owner), .int .i64 ((W.troops.getD j default).kind), .int .i64 ((W.troops.getD j default).spot.x), .int .i64 ((W.troops.getD j default).spot.y), .int .i64 ((W.troops.getD j default).life), .int .i64 ((W.troops.getD j default).load)]) rfl rfl B_51 rfl HitF_sz_api_Troop rfl rfl rfl fun w_54 m_55 B_51 => ?_
        have q_57 := m_55.size
        have z_54 := Ext.mod z_47 m_55 (by simp only [List.mem_singleton, forall_eq]; omega)
        have q_56 := m_55.size
        refine nl <| nT <| sq <| rg <| vl (fa HitF_fd_api_Troop_2 rfl) rfl <| vl (ld rfl (B_51.one HitF_ag_int rfl)) rfl <| ca HitF_en_troop_Kind rfl rfl ((kind_any ((W.troops.getD j default).kind) _).mono ?_)
        rintro e w_58 ⟨rfl, x_59⟩
        refine ⟨_, rfl, ?_⟩
        have q_60 := x_59.size
        have z_58 := Ext.tr z_54 x_59
        refine vl (mv rfl) rfl <| vl (ex rfl rfl) rfl <| vl (ex rfl rfl) rfl <| al rfl HitF_zv_api_Kind rfl rfl fun w_61 b_62 x_63 l_64 B_65 => ?_
        have q_66 := x_63.size
        have z_61 := Ext.tr z_58 x_63
        have q_67 := B_65.lt
        refine st (new := [.int .i64 (Wd.lifeOf ((W.troops.getD j default).kind)), .int .i64 (reachOf ((W.troops.getD j default).kind)), .int .i64 (harmOf ((W.troops.getD j default).kind)), .int .i64 (Wd.priceOf ((W.troops.getD j default).kind))]) rfl rfl B_65 rfl HitF_sz_api_Kind rfl rfl rfl fun w_68 m_69 B_65 => ?_
        have q_71 := m_69.size
        have z_68 := Ext.mod z_61 m_69 (by simp only [List.mem_singleton, forall_eq]; omega)
        have q_70 := m_69.size
        refine vl (as_ rfl) rfl <| nl <| nT <| sq <| rg <| vl (fa HitF_fd_api_Troop_3 rfl) rfl <| vl (fa HitF_fd_api_Cell_0 rfl) rfl <| ?_
        have B_51 := B_51.later (Ext.tr x_59 x_63)
        have B_51 := B_51.mod m_69 (by simp only [List.mem_singleton]; omega)
        refine vl (ld rfl (B_51.one HitF_ag_int rfl)) rfl <| vl (fa HitF_fd_api_Troop_3 rfl) rfl <| vl (fa HitF_fd_api_Cell_0 rfl) rfl <| ?_
        have B_32 := B_32.later x_49
        have B_32 := B_32.mod m_55 (by simp only [List.mem_singleton]; omega)
        have B_32 := B_32.later (Ext.tr x_59 x_63)
        have B_32 := B_32.mod m_69 (by simp only [List.mem_singleton]; omega)
        refine vl (ld rfl (B_32.one HitF_ag_int rfl)) rfl <| vl (bsu rfl rfl (inI (by omega))) rfl <| vl (fa HitF_fd_api_Troop_3 rfl) rfl <| vl (fa HitF_fd_api_Cell_0 rfl) rfl <| vl (ld rfl (B_32.one HitF_ag_int rfl)) rfl <| vl (fa HitF_fd_api_Troop_3 rfl) rfl <| vl (fa HitF_fd_api_Cell_0 rfl) rfl <| vl (ld rfl (B_51.one HitF_ag_int rfl)) rfl <| vl (bsu rfl rfl (inI (by omega))) rfl <| vl (fa HitF_fd_api_Troop_3 rfl) rfl <| vl (fa HitF_fd_api_Cell_1 rfl) rfl <| vl (ld rfl (B_51.one HitF_ag_int rfl)) rfl <| vl (fa HitF_fd_api_Troop_3 rfl) rfl <| vl (fa HitF_fd_api_Cell_1 rfl) rfl <| vl (ld rfl (B_32.one HitF_ag_int rfl)) rfl <| vl (bsu rfl rfl (inI (by omega))) rfl <| vl (fa HitF_fd_api_Troop_3 rfl) rfl <| vl (fa HitF_fd_api_Cell_1 rfl) rfl <| vl (ld rfl (B_32.one HitF_ag_int rfl)) rfl <| vl (fa HitF_fd_api_Troop_3 rfl) rfl <| vl (fa HitF_fd_api_Cell_1 rfl) rfl <| vl (ld rfl (B_51.one HitF_ag_int rfl)) rfl <| vl (bsu rfl rfl (inI (by omega))) rfl <| vl (mX rfl rfl rfl rfl) rfl <| ?_
        refine vl (fa HitF_fd_api_Kind_1 rfl) rfl <| vl (ld rfl (B_65.one HitF_ag_int rfl)) rfl <| vl (ble rfl rfl) rfl <| vl (as_ rfl) rfl <| nl <| nT <| sq <| rg <| vl (fa HitF_fd_api_Troop_1 rfl) rfl <| vl (ld rfl (B_51.one HitF_ag_int rfl)) rfl <| vl (fa HitF_fd_api_Troop_1 rfl) rfl <| vl (ld rfl (B_32.one HitF_ag_int rfl)) rfl <| vl (bne rfl rfl) rfl <| vl (mv rfl) rfl <| vQ rfl rfl rfl rfl (fun hc => mv rfl) rfl <| vl (pA rfl rfl rfl rfl) rfl <| vl (mv rfl) rfl <| vQ rfl rfl rfl rfl (fun hc => mv rfl) rfl <| vQ rfl rfl rfl rfl (fun hc => mf rfl rfl) rfl <| vC rfl rfl rfl rfl HitF_en_slices_ContainsFunc_S_api_Blow_api_Blow_ (fun hc => ec (gt hc rfl) (ec (gt hc rfl) rfl)) (fun hc => has_at b_48 b_29 (W.troops.getD j default) (W.troops.getD k default) _ _ l _ (hl.keep z_68) B_51 B_32) rfl fun w_72 x_73 => ?_
        have q_74 := x_73.size
        have z_72 := Ext.tr z_68 x_73
        refine vl (pA rfl rfl rfl rfl) rfl <| nl <| nT <| ?_
        refine cb rfl (fun h_75 => ?_) (fun h_75 => ?_)
        · refine rg <| vl (mv rfl) rfl <| vl (fa HitF_fd_api_Kind_2 rfl) rfl <| ?_
          have B_65 := B_65.later x_73
          refine vl (ld rfl (B_65.one HitF_ag_int rfl)) rfl <| vl (bad rfl rfl (inI (by omega))) rfl <| vl (as_ rfl) rfl <| nl <| nB <| nT <| rg <| vl (bad rfl rfl (inI (by omega))) rfl <| vl (mv rfl) rfl <| nl <| ?_
          have B_5 := B_5.later x_49
          have B_5 := B_5.mod m_55 (by simp only [List.mem_singleton]; omega)
          have B_5 := B_5.later (Ext.tr x_59 x_63)
          have B_5 := B_5.mod m_69 (by simp only [List.mem_singleton]; omega)
          have B_5 := B_5.later x_73
          have OH_8 := OH_8.later x_49
          have OH_8 := OH_8.mod m_55 (fun q hq h => by have hb := List.mem_singleton.1 h; exfalso; (have := u_44 q hq; have := u_9 q hq; have := u_26 q hq; omega))
          have OH_8 := OH_8.later (Ext.tr x_59 x_63)
          have OH_8 := OH_8.mod m_69 (fun q hq h => by have hb := List.mem_singleton.1 h; exfalso; (have := u_44 q hq; have := u_9 q hq; have := u_26 q hq; omega))
          have OH_8 := OH_8.later x_73
          have B_32 := B_32.later x_73
          exact nI _ _ ⟨j + 1, m + (harmOf ((W.troops.getD j default).kind)), rfl, rfl, z_72, B_5, OH_8, B_32, by omega, (by rw [hm]; exact (most_yes h_75).symm)⟩ (by omega) (.cons rfl (.cons rfl (.cons rfl (.cons rfl (.cons rfl (.cons (loI rfl (by first | omega | rfl | (simp <;> omega))) (.cons rfl (.cons rfl (.cons rfl (.cons rfl (.cons rfl (.cons rfl (.cons rfl (.cons rfl (.cons rfl (.cons rfl (.cons (loI rfl (by first | omega | rfl | (simp <;> omega))) .nil)))))))))))))))))
        · refine sk <| nB <| nT <| rg <| vl (bad rfl rfl (inI (by omega))) rfl <| vl (mv rfl) rfl <| nl <| ?_
          have B_5 := B_5.later x_49
          have B_5 := B_5.mod m_55 (by simp only [List.mem_singleton]; omega)
          have B_5 := B_5.later (Ext.tr x_59 x_63)
          have B_5 := B_5.mod m_69 (by simp only [List.mem_singleton]; omega)
          have B_5 := B_5.later x_73
          have OH_8 := OH_8.later x_49
          have OH_8 := OH_8.mod m_55 (fun q hq h => by have hb := List.mem_singleton.1 h; exfalso; (have := u_44 q hq; have := u_9 q hq; have := u_26 q hq; omega))
          have OH_8 := OH_8.later (Ext.tr x_59 x_63)
          have OH_8 := OH_8.mod m_69 (fun q hq h => by have hb := List.mem_singleton.1 h; exfalso; (have := u_44 q hq; have := u_9 q hq; have := u_26 q hq; omega))
          have OH_8 := OH_8.later x_73
          have B_32 := B_32.later x_73
          exact nI _ _ ⟨j + 1, m, rfl, rfl, z_72, B_5, OH_8, B_32, by omega, (by rw [hm]; exact (most_no h_75).symm)⟩ (by omega) (.cons rfl (.cons rfl (.cons rfl (.cons rfl (.cons rfl (.cons rfl (.cons rfl (.cons rfl (.cons rfl (.cons rfl (.cons rfl (.cons rfl (.cons rfl (.cons rfl (.cons rfl (.cons rfl (.cons (loI rfl (by first | omega | rfl | (simp <;> omega))) .nil)))))))))))))))))
      · refine xt <| xT <| xK <| xB <| nT <| sq <| rg <| vl (mv rfl) rfl <| vl (mv rfl) rfl <| vl (iA k Try.underlying22 HitF_sz_int rfl rfl (OH_8.has.adr (Nat.zero_lt_of_lt (show k < _ from (by omega)))) rfl (by omega)) rfl <| vl (ld rfl (Rep.SHas.one' hcI (OH_8.has.adh (Nat.zero_lt_of_lt (show k < _ from (by omega)))) (get_d (l := harmW W l) (u := 0) (by omega)) rfl HitF_ag_int)) rfl <| vl (blt rfl rfl) rfl <| vl (mv rfl) rfl <| vQ rfl rfl rfl rfl (fun hc => mv rfl) rfl <| vQ rfl rfl rfl rfl (fun hc => mv rfl) rfl <| vQ rfl rfl rfl rfl (fun hc => iA k Try.underlying22 HitF_sz_int (gt hc rfl) (gt hc rfl) (OH_8.has.adr (Nat.zero_lt_of_lt (show k < _ from (by (try simp only [Bool.or_eq_true, Bool.or_eq_false_iff, Bool.and_eq_true, Bool.and_eq_false_iff, decide_eq_true_eq, decide_eq_false_iff_not, beq_iff_eq, bne_iff_ne, beq_eq_false_iff_ne, bne_eq_false_iff_eq, Bool.not_eq_true', Bool.not_eq_false', Bool.not_eq_true, Bool.not_eq_false, Int.not_lt, Int.not_le, Nat.not_lt, Nat.not_le, ne_eq, Classical.not_not] at hc); omega)))) rfl (by (try simp only [Bool.or_eq_true, Bool.or_eq_false_iff, Bool.and_eq_true, Bool.and_eq_false_iff, decide_eq_true_eq, decide_eq_false_iff_not, beq_iff_eq, bne_iff_ne, beq_eq_false_iff_ne, bne_eq_false_iff_eq, Bool.not_eq_true', Bool.not_eq_false', Bool.not_eq_true, Bool.not_eq_false, Int.not_lt, Int.not_le, Nat.not_lt, Nat.not_le, ne_eq, Classical.not_not] at hc); omega)) rfl <| vQ rfl rfl rfl rfl (fun hc => ld (gt hc rfl) (Rep.SHas.one' hcI (OH_8.has.adh (Nat.zero_lt_of_lt (show k < _ from (by (try simp only [Bool.or_eq_true, Bool.or_eq_false_iff, Bool.and_eq_true, Bool.and_eq_false_iff, decide_eq_true_eq, decide_eq_false_iff_not, beq_iff_eq, bne_iff_ne, beq_eq_false_iff_ne, bne_eq_false_iff_eq, Bool.not_eq_true', Bool.not_eq_false', Bool.not_eq_true, Bool.not_eq_false, Int.not_lt, Int.not_le, Nat.not_lt, Nat.not_le, ne_eq, Classical.not_not] at hc); omega)))) (get_d (l := harmW W l) (u := 0) (by (try simp only [Bool.or_eq_true, Bool.or_eq_false_iff, Bool.and_eq_true, Bool.and_eq_false_iff, decide_eq_true_eq, decide_eq_false_iff_not, beq_iff_eq, bne_iff_ne, beq_eq_false_iff_ne, bne_eq_false_iff_eq, Bool.not_eq_true', Bool.not_eq_false', Bool.not_eq_true, Bool.not_eq_false, Int.not_lt, Int.not_le, Nat.not_lt, Nat.not_le, ne_eq, Classical.not_not] at hc); omega)) rfl HitF_ag_int)) rfl <| vQ rfl rfl rfl rfl (fun hc => mv rfl) rfl <| vQ rfl rfl rfl rfl (fun hc => bgt (gt hc rfl) (gt hc rfl)) rfl <| vl (pO rfl rfl rfl rfl) rfl <| nl <| nT <| ?_
        have h_76 : ((decide ((harmW W l).getD k 0 < 0)) || (decide (m < (harmW W l).getD k 0))) = false := by simp only [Bool.or_eq_true, Bool.or_eq_false_iff, Bool.and_eq_true, Bool.and_eq_false_iff, decide_eq_true_eq, decide_eq_false_iff_not, beq_iff_eq, bne_iff_ne, beq_eq_false_iff_ne, bne_eq_false_iff_eq, Bool.not_eq_true', Bool.not_eq_false', Bool.not_eq_true, Bool.not_eq_false, Int.not_lt, Int.not_le, Nat.not_lt, Nat.not_le, ne_eq, Classical.not_not]; have h1 := friends_bd hE (k := k); have h2 := hS.harm k; rw [show j = W.troops.length by omega] at hm; omega
        refine cF (by rw [← h_76]; rfl) <| sk <| nB <| nT <| rg <| vl (bad rfl rfl (inI (by omega))) rfl <| vl (mv rfl) rfl <| nl <| ?_
        exact nI _ _ ⟨k + 1, rfl, rfl, z_39, B_5, OH_8, by omega⟩ (by omega) (.cons rfl (.cons rfl (.cons rfl (.cons rfl (.cons rfl (.cons (loI rfl (by first | omega | rfl | (simp <;> omega))) .nil))))))
    · refine xt <| xT <| xK <| xB <| nT <| sq <| rg <| vl (as_ rfl) rfl <| nl <| nT <| rt <| tR (.tmp rfl .nil) <| ?_
      exact ⟨rfl, z_21⟩
theorem hitFriends_any (c0 : Array Value) (a1 : Option Addr) (len1 cap1 : Nat) (w : World) (h0 : (.cons (.cons (.int .i64) (.cons (.int .i64) (.cons (.slice (.int .i64) 8) .nil))) (.cons (.slice (.cons (.int .i64) (.cons (.int .i64) .nil)) 16) (.cons (.slice (.int .i64) 8) (.cons (.slice (.int .i64) 8) (.cons (.slice (.cons (.int .i64) (.cons (.int .i64) (.cons (.int .i64) (.cons (.cons (.int .i64) (.cons (.int .i64) .nil)) (.cons (.int .i64) (.cons (.int .i64) .nil)))))) 56) (.cons (.int .i64) (.cons (.int .i64) .nil)))))) : Sh).Ok w c0.toList) (h1 : (.slice (.cons (.int .i64) (.cons (.int .i64) .nil)) 16 : Sh).Ok w [.slice a1 len1 cap1]) :
    Calls Try.prog 8 #[.agg c0, .slice a1 len1 cap1] w fun e w' => e = .returned (.bool true) ∧ Below w.heap.size w w' := by
  obtain ⟨a, W, e, hW⟩ := Wd.opens w _ (show Wd.sh.Ok w c0.toList from h0)
  have hc : c0 = (Wd.cells a W).toArray := by rw [← e]
  subst hc
  obtain ⟨A, c, l, e2, hl⟩ := Rep.opens_slice (R := Blw.rep) (by_ := 16) Blw.opens rfl (by decide) h1
  simp only [List.cons.injEq, Value.slice.injEq, and_true] at e2
  obtain ⟨rfl, rfl, rfl⟩ := e2
  exact hitFriends_walk a W _ _ l w hW hl
end Go.Proofs.Yticfnngppcmidaa
