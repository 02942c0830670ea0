/-
  What the laws of hits call, on. (Printed by bin/hitl.py.)
-/
import Derived.Test.YticfnngppcmidaaHitK
import Derived.Test.YticfnngppcmidaaGolB
set_option linter.unusedVariables false
set_option linter.unusedSimpArgs false
namespace Go.Proofs.Yticfnngppcmidaa
open Go.RowKit

theorem HitL_zv_api_Troop : Zv Try.prog 39 (.agg #[.int .i64 0, .int .i64 0, .int .i64 0, .int .i64 0, .int .i64 0, .int .i64 0, .int .i64 0]) := fun _ => by kernel_rfl
theorem HitL_fd_api_World_4 : Fd Try.prog 28 4 6 := fun _ _ _ => by kernel_rfl
theorem HitL_ag_S_api_Troop : Ag Try.prog 26 false := fun _ => by kernel_rfl
theorem HitL_sz_api_Troop : Sz Try.prog 39 7 := fun _ => by kernel_rfl
theorem HitL_ag_api_Troop : Ag Try.prog 39 true := fun _ => by kernel_rfl
theorem HitL_fd_api_Troop_0 : Fd Try.prog 39 0 0 := fun _ _ _ => by kernel_rfl
theorem HitL_ag_int : Ag Try.prog 3 false := fun _ => by kernel_rfl
theorem HitL_en_cmp_isNaN_int_ : Enters Try.prog 74 := en Try.func74 (by kernel_rfl) (by kernel_rfl)
theorem HitL_sz_int : Sz Try.prog 3 1 := fun _ => by kernel_rfl
theorem HitL_en_cmp_Less_int_ : Enters Try.prog 60 := en Try.func60 (by kernel_rfl) (by kernel_rfl)
theorem HitL_sz_api_Blow : Sz Try.prog 69 2 := fun _ => by kernel_rfl
theorem HitL_ag_api_Blow : Ag Try.prog 69 true := fun _ => by kernel_rfl
theorem ret_false {b : Bool} (h : b = false) : Ending.returned (.bool b) = Ending.returned (.bool false) := by rw [h]
theorem blw_ok {w : World} {A : Option Addr} {c : Nat} {l : List Blw} (h : Blw.rep.SHas 16 w A c l) (k : Nat) : (l.getD k default).ok := by
  rw [List.getD_eq_getElem?_getD]
  cases ht : l[k]? with
  | none => exact ⟨by decide, by decide⟩
  | some t => exact Rep.SHas.all_ (Q := Blw.ok) (fun h => And.right (show _ ∧ _ from h)) h t (List.mem_of_getElem? ht)
theorem find_none_d {α : Type} [Inhabited α] {p : α → Bool} {l : List α} (h : ∀ i, i < l.length → p (l.getD i default) = false) : l.find? p = none :=
  List.find?_eq_none.2 fun x hx => by
    obtain ⟨i, hi, rfl⟩ := List.getElem_of_mem hx
    have := h i hi
    rw [List.getD_eq_getElem?_getD, List.getElem?_eq_getElem hi] at this
    simpa using this
theorem find_some_d {α : Type} [Inhabited α] {p : α → Bool} {l : List α} {k : Nat} (hk : k < l.length) (h1 : p (l.getD k default) = true) (h : ∀ i, i < k → p (l.getD i default) = false) : l.find? p = some (l.getD k default) := by
  have e : l.getD k default = l[k] := by rw [List.getD_eq_getElem?_getD, List.getElem?_eq_getElem hk]; rfl
  rw [e] at h1 ⊢
  refine List.find?_eq_some_iff_getElem.2 ⟨h1, k, hk, rfl, fun j hj => ?_⟩
  have := h j hj
  rw [List.getD_eq_getElem?_getD, List.getElem?_eq_getElem (by omega : j < l.length)] at this
  simpa using this
def trOfD (l : List Trp) (x : Int) : Option Trp := l.find? fun t => t.id == x
def trOfV (l : List Trp) (x : Int) : Value := .tuple #[.agg ((trOfD l x).getD default).cells.toArray, .bool (trOfD l x).isSome]
theorem trOf_at {l : List Trp} {x : Int} {k : Nat} (hk : k < l.length) (h1 : ((fun t => t.id == x) : Trp → Bool) (l.getD k default) = true) (h : ∀ i, i < k → ((fun t => t.id == x) : Trp → Bool) (l.getD i default) = false) : trOfV l x = .tuple #[.agg (l.getD k default).cells.toArray, .bool true] := by
  have e : trOfD l x = some (l.getD k default) := find_some_d hk h1 h
  unfold trOfV; rw [e]; rfl
theorem trOf_no {l : List Trp} {x : Int} (h : ∀ i, i < l.length → ((fun t => t.id == x) : Trp → Bool) (l.getD i default) = false) : trOfV l x = .tuple #[.agg (default : Trp).cells.toArray, .bool false] := by
  have e : trOfD l x = none := find_none_d h
  unfold trOfV; rw [e]; rfl
def sortedI (l : List Int) : Bool := (List.range (l.length - 1)).all fun i => !decide (l.getD (i + 1) 0 < l.getD i 0)
theorem sorted_yes {l : List Int} (h : ∀ i, i + 1 < l.length → ¬ l.getD (i + 1) 0 < l.getD i 0) : sortedI l = true := by
  unfold sortedI
  rw [List.all_eq_true]
  intro i hi
  have := h i (by have := List.mem_range.1 hi; omega)
  simpa using this
theorem sorted_no {l : List Int} {i : Nat} (hi : i + 1 < l.length) (h : l.getD (i + 1) 0 < l.getD i 0) : sortedI l = false := by
  unfold sortedI
  rw [List.all_eq_false]
  exact ⟨i, List.mem_range.2 (by omega), by rw [decide_eq_true h]; decide⟩
/-- So many from both ends have changed their places. -/
def revN {α : Type} (l : List α) (k : Nat) : List α := l.mapIdx fun i x => if i < k ∨ l.length - k ≤ i then (l[l.length - 1 - i]?).getD x else x
theorem revN_len {α : Type} (l : List α) (k : Nat) : (revN l k).length = l.length := by unfold revN; rw [List.length_mapIdx]
theorem revN_get {α : Type} (l : List α) (k i : Nat) (hi : i < l.length) : (revN l k)[i]? = if i < k ∨ l.length - k ≤ i then l[l.length - 1 - i]? else l[i]? := by
  unfold revN
  rw [List.getElem?_mapIdx, List.getElem?_eq_getElem hi]
  split
  · rename_i h
    rw [List.getElem?_eq_getElem (by omega : l.length - 1 - i < l.length)]
    simp only [Option.map_some, if_pos h, Option.getD_some]
  · rename_i h
    simp only [Option.map_some, if_neg h]
theorem revN_zero {α : Type} (l : List α) : revN l 0 = l := by
  apply List.ext_getElem?
  intro i
  by_cases hi : i < l.length
  · rw [revN_get l 0 i hi, if_neg (by omega)]
  · rw [List.getElem?_eq_none (by rw [revN_len]; omega), List.getElem?_eq_none (by omega)]
theorem revN_all {α : Type} {l : List α} {k : Nat} (hk : l.length ≤ 2 * k + 1) : revN l k = l.reverse := by
  apply List.ext_getElem?
  intro i
  by_cases hi : i < l.length
  · rw [revN_get l k i hi, List.getElem?_reverse hi]
    split
    · rfl
    · rename_i h
      rw [show l.length - 1 - i = i by omega]
  · rw [List.getElem?_eq_none (by rw [revN_len]; omega), List.getElem?_eq_none (by rw [List.length_reverse]; omega)]
theorem revN_succ {α : Type} [Inhabited α] {l : List α} {k : Nat} {j : Int} (hj : j = (l.length : Int) - 1 - k) (hk : (k : Int) < j) : revN l (k + 1) = ((revN l k).set k ((revN l k).getD j.toNat default)).set j.toNat ((revN l k).getD k default) := by
  have hl := revN_len l k
  apply List.ext_getElem?
  intro i
  by_cases hi : i < l.length
  · have e1 : (revN l k).getD j.toNat default = l[j.toNat]'(by omega) := by
      rw [List.getD_eq_getElem?_getD, revN_get l k _ (by omega), if_neg (by omega), List.getElem?_eq_getElem (by omega)]; rfl
    have e2 : (revN l k).getD k default = l[k]'(by omega) := by
      rw [List.getD_eq_getElem?_getD, revN_get l k _ (by omega), if_neg (by omega), List.getElem?_eq_getElem (by omega)]; rfl
    rw [e1, e2, revN_get l (k + 1) i hi, List.getElem?_set, List.length_set, hl, List.getElem?_set, hl, revN_get l k i hi]
    by_cases h1 : j.toNat = i
    · subst h1
      rw [if_pos (by omega), if_pos rfl, if_pos hi, List.getElem?_eq_getElem (by omega)]
      simp only [Option.some.injEq]
      congr 1; omega
    · rw [if_neg h1]
      by_cases h2 : k = i
      · subst h2
        rw [if_pos (by omega), if_pos rfl, if_pos hi, List.getElem?_eq_getElem (by omega)]
        simp only [Option.some.injEq]
        congr 1; omega
      · rw [if_neg h2]
        by_cases h3 : i < k ∨ l.length - k ≤ i
        · rw [if_pos h3, if_pos (by omega)]
        · rw [if_neg h3, if_neg (by omega)]
  · rw [List.getElem?_eq_none (by rw [revN_len]; omega), List.getElem?_eq_none (by rw [List.length_set, List.length_set, hl]; omega)]
set_option maxRecDepth 100000 in
set_option maxHeartbeats 400000 in
theorem troopOf_any (x : Int) (a : Wd.At) (W : Wd) (w : World) (hW : Wd.Has w a W) :
    Calls Try.prog 44 #[.agg ((Wd.cells a W).toArray), .int .i64 x] w (fun e w' => e = .returned (trOfV W.troops x) ∧ Ext w w') := by
  have hll := hW.T.len_le
  refine calls_W (n := 22) Try.func44 rfl rfl rfl ?_
  refine sq <| rg <| bx rfl rfl rfl rfl fun w_1 b_2 x_3 l_4 B_5 => ?_
  have q_6 := x_3.size
  have z_1 := Ext.tr (Ext.rf w) x_3
  have q_7 := B_5.lt
  refine al rfl HitL_zv_api_Troop rfl rfl fun w_8 b_9 x_10 l_11 B_12 => ?_
  have q_13 := x_10.size
  have z_8 := Ext.tr z_1 x_10
  have q_14 := B_12.lt
  refine vl (as_ rfl) rfl <| nl <| nT <| sq <| sq <| rg <| vl (fa HitL_fd_api_World_4 rfl) rfl <| ?_
  have B_5 := B_5.later x_10
  refine vl (ld rfl (B_5.one HitL_ag_S_api_Troop rfl)) rfl <| vl (ln Try.underlying26 rfl) rfl <| vl (mv rfl) rfl <| nl <| nT <| bk <| ?_
  refine lp (fun mI EI wI => ∃ k : Nat, EI = [(1, .int .i64 x), (4, .pointer (some ⟨b_9, 0, none⟩)), (9, .slice a.T W.troops.length a.t), (10, .int .i64 (W.troops.length : Int)), (11, .int .i64 (k : Int))] ∧ mI = W.troops.length - k ∧ Ext w wI ∧ Blk wI b_9 [.int .i64 0, .int .i64 0, .int .i64 0, .int .i64 0, .int .i64 0, .int .i64 0, .int .i64 0] 39 (0, 0) ∧ (k ≤ W.troops.length) ∧ (∀ i, i < k → ((fun t => t.id == x) : Trp → Bool) (W.troops.getD i default) = false)) _ _ ⟨0, rfl, rfl, z_8, B_12, by omega, fun i hi => by omega⟩ (.cons rfl (.cons rfl (.cons rfl (.cons rfl (.cons (loI rfl (by first | omega | rfl | (simp <;> omega))) .nil))))) ?_
  rintro m_16 E_17 w_15 ⟨k, rfl, rfl, z_15, B_12, hk, hg⟩
  have q_18 := z_15.size
  have q_19 := B_12.lt
  refine sq <| rg <| vl (blt rfl rfl) rfl <| nl <| nT <| sq <| ?_
  refine clt rfl (fun h_20 => ?_) (fun h_20 => ?_)
  · refine sk <| nT <| sq <| bk <| sq <| rg <| vl (iA k Try.underlying26 HitL_sz_api_Troop rfl rfl ((hW.T.keep z_15).adr (Nat.zero_lt_of_lt (show k < _ from (by omega)))) rfl (by omega)) rfl <| vl (ld rfl (Rep.SHas.elt hcT ((hW.T.keep z_15).adh (Nat.zero_lt_of_lt (show k < _ from (by omega)))) (get_d (l := W.troops) (u := default) (by omega)) HitL_ag_api_Troop HitL_sz_api_Troop)) rfl <| al rfl HitL_zv_api_Troop rfl rfl fun w_21 b_22 x_23 l_24 B_25 => ?_
    have q_26 := x_23.size
    have z_21 := Ext.tr z_15 x_23
    have q_27 := B_25.lt
    refine st (new := [.int .i64 ((W.troops.getD k default).id), .int .i64 ((W.troops.getD k default).owner), .int .i64 ((W.troops.getD k default).kind), .int .i64 ((W.troops.getD k default).spot.x), .int .i64 ((W.troops.getD k default).spot.y), .int .i64 ((W.troops.getD k default).life), .int .i64 ((W.troops.getD k default).load)]) rfl rfl B_25 rfl HitL_sz_api_Troop rfl rfl rfl fun w_28 m_29 B_25 => ?_
    have q_31 := m_29.size
    have z_28 := Ext.mod z_21 m_29 (by simp only [List.mem_singleton, forall_eq]; omega)
    have q_30 := m_29.size
    refine nl <| nT <| sq <| rg <| vl (fa HitL_fd_api_Troop_0 rfl) rfl <| vl (ld rfl (B_25.one HitL_ag_int rfl)) rfl <| vl (mv rfl) rfl <| vl (beq rfl rfl) rfl <| nl <| nT <| ?_
    refine ceq rfl (fun h_32 => ?_) (fun h_32 => ?_)
    · refine sq <| rg <| vl (ld rfl (B_25.all HitL_ag_api_Troop HitL_sz_api_Troop)) rfl <| ?_
      have B_12 := B_12.later x_23
      have B_12 := B_12.mod m_29 (by simp only [List.mem_singleton]; omega)
      refine st (new := [.int .i64 ((W.troops.getD k default).id), .int .i64 ((W.troops.getD k default).owner), .int .i64 ((W.troops.getD k default).kind), .int .i64 ((W.troops.getD k default).spot.x), .int .i64 ((W.troops.getD k default).spot.y), .int .i64 ((W.troops.getD k default).life), .int .i64 ((W.troops.getD k default).load)]) rfl rfl B_12 rfl HitL_sz_api_Troop rfl rfl rfl fun w_33 m_34 B_12 => ?_
      have q_36 := m_34.size
      have z_33 := Ext.mod z_28 m_34 (by simp only [List.mem_singleton, forall_eq]; omega)
      have q_35 := m_34.size
      refine vl (as_ rfl) rfl <| nl <| nT <| rt <| tB <| tT <| tK <| tB <| tT <| tR (.cell rfl (B_12.all HitL_ag_api_Troop HitL_sz_api_Troop) (.tmp rfl .nil)) <| ?_
      exact ⟨by rw [trOf_at (k := k) (by omega) (by simpa using h_32) hg]; rfl, z_33⟩
    · refine sk <| nB <| nT <| rg <| vl (bad rfl rfl (inI (by omega))) rfl <| vl (mv rfl) rfl <| nl <| ?_
      have B_12 := B_12.later x_23
      have B_12 := B_12.mod m_29 (by simp only [List.mem_singleton]; omega)
      exact nI _ _ ⟨k + 1, rfl, rfl, z_28, B_12, by omega, lt_succ_all hg (by simpa using h_32)⟩ (by omega) (.cons rfl (.cons rfl (.cons rfl (.cons rfl (.cons (loI rfl (by first | omega | rfl | (simp <;> omega))) .nil)))))
  · refine xt <| xT <| xK <| xB <| nT <| sq <| rg <| vl (v := .agg #[.int .i64 0, .int .i64 0, .int .i64 0, .int .i64 0, .int .i64 0, .int .i64 0, .int .i64 0]) (bd rfl (by kernel_rfl)) rfl <| st (new := [.int .i64 0, .int .i64 0, .int .i64 0, .int .i64 0, .int .i64 0, .int .i64 0, .int .i64 0]) rfl rfl B_12 rfl HitL_sz_api_Troop rfl rfl rfl fun w_37 m_38 B_12 => ?_
    have q_40 := m_38.size
    have z_37 := Ext.mod z_15 m_38 (by simp only [List.mem_singleton, forall_eq]; omega)
    have q_39 := m_38.size
    refine vl (as_ rfl) rfl <| nl <| nT <| rt <| tR (.cell rfl (B_12.all HitL_ag_api_Troop HitL_sz_api_Troop) (.tmp rfl .nil)) <| ?_
    exact ⟨by rw [trOf_no (fun i hi => hg i (by omega))]; rfl, z_37⟩
set_option maxRecDepth 100000 in
set_option maxHeartbeats 400000 in
theorem isNaN_I (n : Int) (w : World) :
    Calls Try.prog 74 #[.int .i64 n] w (fun e w' => e = .returned (.bool false) ∧ Ext w w') := by
  refine calls_W (n := 6) Try.func74 rfl rfl rfl ?_
  refine sq <| rg <| vl (as_ rfl) rfl <| nl <| nT <| sq <| rg <| vl (mv rfl) rfl <| vl (mv rfl) rfl <| vl (bne rfl rfl) rfl <| vl (as_ rfl) rfl <| nl <| nT <| rt <| tR (.tmp rfl .nil) <| ?_
  exact ⟨ret_false (by simp), (Ext.rf w)⟩
set_option maxRecDepth 100000 in
set_option maxHeartbeats 400000 in
theorem less_I (n m : Int) (w : World) :
    Calls Try.prog 60 #[.int .i64 n, .int .i64 m] w (fun e w' => e = .returned (.bool (decide (n < m))) ∧ Ext w w') := by
  refine calls_W (n := 17) Try.func60 rfl rfl rfl ?_
  refine sq <| rg <| vl (as_ rfl) rfl <| nl <| nT <| sq <| rg <| vl (mv rfl) rfl <| ca HitL_en_cmp_isNaN_int_ rfl rfl ((isNaN_I n _).mono ?_)
  rintro e w_1 ⟨rfl, x_2⟩
  refine ⟨_, rfl, ?_⟩
  have q_3 := x_2.size
  have z_1 := Ext.tr (Ext.rf w) x_2
  refine vl (mv rfl) rfl <| vQ (v := undef) rfl rfl rfl rfl (fun hc => nomatch hc) rfl <| vQ (v := undef) rfl rfl rfl rfl (fun hc => nomatch hc) rfl <| vQ (v := undef) rfl rfl rfl rfl (fun hc => nomatch hc) rfl <| vl (pkF rfl rfl) rfl <| vl (mv rfl) rfl <| ug rfl rfl rfl <| vl (mv rfl) rfl <| ug rfl rfl rfl <| vl (mv rfl) rfl <| ug rfl rfl rfl <| vl (blt rfl rfl) rfl <| vl (pkF rfl rfl) rfl <| vl (as_ rfl) rfl <| nl <| nT <| rt <| tR (.tmp rfl .nil) <| ?_
  exact ⟨rfl, z_1⟩
set_option maxRecDepth 100000 in
set_option maxHeartbeats 400000 in
theorem isSorted_I (A : Option Addr) (c : Nat) (l : List Int) (w : World) (hl : repI.SHas 8 w A c l) :
    Calls Try.prog 43 #[.slice A l.length c] w (fun e w' => e = .returned (.bool (sortedI l)) ∧ Ext w w') := by
  have hll := hl.len_le
  refine calls_W (n := 21) Try.func43 rfl rfl rfl ?_
  refine sq <| rg <| vl (as_ rfl) rfl <| nl <| nT <| sq <| sq <| rg <| vl (mv rfl) rfl <| vl (ln Try.underlying22 rfl) rfl <| vl (bsu rfl rfl (inI (by omega))) rfl <| vl (as_ rfl) rfl <| nl <| nT <| bk <| ?_
  refine lp (fun mI EI wI => ∃ k : Nat, ∃ j : Int, EI = [(0, .slice A l.length c), (3, .int .i64 j)] ∧ mI = l.length - k ∧ Ext w wI ∧ (k ≤ l.length ∧ j = (l.length : Int) - 1 - k) ∧ (∀ i, j.toNat ≤ i → i + 1 < l.length → ¬ l.getD (i + 1) 0 < l.getD i 0)) _ _ ⟨0, (l.length : Int) - 1, rfl, rfl, (Ext.rf w), ⟨by omega, by omega⟩, fun i hi hj => by omega⟩ (.cons rfl (.cons (loI rfl (by first | omega | rfl | (simp <;> omega))) .nil)) ?_
  rintro m_2 E_3 w_1 ⟨k, j, rfl, rfl, z_1, hk, hg⟩
  have q_4 := z_1.size
  refine sq <| sq <| rg <| vl (mv rfl) rfl <| vl (bgt rfl rfl) rfl <| nl <| nT <| ?_
  refine clt rfl (fun h_5 => ?_) (fun h_5 => ?_)
  · refine sk <| nT <| sq <| bk <| sq <| ?_
    refine rd [(3, 0), (8, 0), (9, 0)] [0, 1, 2, 3, 4, 5, 6, 7, 8, 9] (by kernel_rfl) (by kernel_rfl) ?_
    refine fw rfl rfl (fun _ => mv rfl) rfl <| fw rfl rfl (fun _ => mv rfl) rfl <| fw rfl rfl (fun _ => iA j.toNat Try.underlying22 HitL_sz_int rfl rfl ((hl.keep z_1).adr (Nat.zero_lt_of_lt (show j.toNat < _ from (by omega)))) (by omega) (by omega)) rfl <| fq rfl rfl (fun _ x => ld rfl (Rep.SHas.one' hcI ((hl.keep (Ext.tr z_1 x)).adh (Nat.zero_lt_of_lt (show j.toNat < _ from (by omega)))) (get_d (l := l) (u := 0) (by omega)) rfl HitL_ag_int)) rfl <| fw rfl rfl (fun _ => mv rfl) rfl <| fw rfl rfl (fun _ => mv rfl) rfl <| fw rfl rfl (fun _ => bsu rfl rfl (inI (by omega))) rfl <| fw rfl rfl (fun _ => iA ((j - 1).toNat) Try.underlying22 HitL_sz_int rfl rfl ((hl.keep z_1).adr (Nat.zero_lt_of_lt (show (j - 1).toNat < _ from (by omega)))) (by omega) (by omega)) rfl <| fq rfl rfl (fun _ x => ld rfl (Rep.SHas.one' hcI ((hl.keep (Ext.tr z_1 x)).adh (Nat.zero_lt_of_lt (show (j - 1).toNat < _ from (by omega)))) (get_d (l := l) (u := 0) (by omega)) rfl HitL_ag_int)) rfl <| fc rfl rfl HitL_en_cmp_Less_int_ rfl (fun _ x => less_I (l.getD j.toNat 0) (l.getD ((j - 1).toNat) 0) _) rfl <| fn fun w_6 x_7 => ?_
    have q_8 := x_7.size
    have z_6 := Ext.tr z_1 x_7
    refine nT <| ?_
    refine clt rfl (fun h_9 => ?_) (fun h_9 => ?_)
    · refine sq <| rg <| vl (as_ rfl) rfl <| nl <| nT <| rt <| tB <| tT <| tK <| tB <| tT <| tR (.tmp rfl .nil) <| ?_
      exact ⟨by rw [sorted_no (i := (j - 1).toNat) (by omega) (by rw [show (j - 1).toNat + 1 = j.toNat by omega]; exact h_9)]; rfl, z_6⟩
    · refine sk <| nB <| nT <| rg <| vl (mv rfl) rfl <| vl (bsu rfl rfl (inI (by omega))) rfl <| vl (as_ rfl) rfl <| nl <| ?_
      exact nI _ _ ⟨k + 1, j - 1, rfl, rfl, z_6, ⟨by omega, by omega⟩, fun i hi hj => if e : i = (j - 1).toNat then (by have h2 := h_9; rw [show j.toNat = i + 1 by omega, ← e] at h2; exact h2) else hg i (by omega) hj⟩ (by omega) (.cons rfl (.cons (loI rfl (by first | omega | rfl | (simp <;> omega))) .nil))
  · refine xt <| xT <| xK <| xB <| nT <| sq <| rg <| vl (as_ rfl) rfl <| nl <| nT <| rt <| tR (.tmp rfl .nil) <| ?_
    exact ⟨by rw [sorted_yes fun i hi => hg i (by omega) hi]; rfl, z_1⟩
set_option maxRecDepth 100000 in
set_option maxHeartbeats 400000 in
theorem rev_W (A : Option Addr) (c : Nat) (l : List Blw) (Z : Nat) (w : World) (OL : Blw.rep.SOwn 69 16 w Z (Rep.blkOf A) A c l) :
    Calls Try.prog 41 #[.slice A l.length c] w (fun e w' => e = .returned (.tuple #[]) ∧ Blw.rep.SOwn 69 16 w' Z (Rep.blkOf A) A c l.reverse ∧ Mod (Rep.blkOf A) w w') := by
  have u0 := fun q hq => (OL.lt q hq).2
  have hll := OL.has.len_le
  refine calls_W (n := 28) Try.func41 rfl rfl rfl ?_
  refine sq <| rg <| vl (mv rfl) rfl <| vl (ln Try.underlying60 rfl) rfl <| vl (bsu rfl rfl (inI (by omega))) rfl <| vl (as_ rfl) rfl <| vl (as_ rfl) rfl <| nl <| nT <| bk <| ?_
  refine lp (fun mI EI wI => ∃ k : Nat, ∃ j : Int, EI = [(0, .slice A l.length c), (2, .int .i64 (k : Int)), (3, .int .i64 j)] ∧ mI = l.length - k ∧ Mod (Rep.blkOf A) w wI ∧ Blw.rep.SOwn 69 16 wI Z (Rep.blkOf A) A c (revN l k) ∧ (j = (l.length : Int) - 1 - k ∧ 2 * k ≤ l.length + 1)) _ _ ⟨0, (l.length : Int) - 1, rfl, rfl, (Mod.rf (Rep.blkOf A) w), (by rw [revN_zero]; exact OL), ⟨by omega, by omega⟩⟩ (.cons rfl (.cons (loI rfl (by first | omega | rfl | (simp <;> omega))) (.cons (loI rfl (by first | omega | rfl | (simp <;> omega))) .nil))) ?_
  rintro m_2 E_3 w_1 ⟨k, j, rfl, rfl, z_1, OL, hk⟩
  have q_4 := z_1.size
  have u_5 := fun q hq => (OL.lt q hq).2
  have hrl := revN_len l k
  have hok := fun i => blw_ok OL.has i
  refine sq <| sq <| rg <| vl (mv rfl) rfl <| vl (mv rfl) rfl <| vl (blt rfl rfl) rfl <| nl <| nT <| ?_
  refine clt rfl (fun h_6 => ?_) (fun h_6 => ?_)
  · refine sk <| nT <| sq <| bk <| ?_
    refine rd [(7, 0), (11, 0), (13, 3), (15, 3)] [0, 1, 2, 3, 4, 5, 6, 7, 8, 9, 10, 11, 12, 13, 14, 15] (by kernel_rfl) (by kernel_rfl) ?_
    refine fw rfl rfl (fun _ => mv rfl) rfl <| fw rfl rfl (fun _ => mv rfl) rfl <| fw rfl rfl (fun _ => mv rfl) rfl <| fw rfl rfl (fun _ => mv rfl) rfl <| fw rfl rfl (fun _ => mv rfl) rfl <| fw rfl rfl (fun _ => mv rfl) rfl <| fw rfl rfl (fun _ => iA j.toNat Try.underlying60 HitL_sz_api_Blow rfl rfl (OL.has.adr (Nat.zero_lt_of_lt (show j.toNat < _ from (by (try rw [List.length_set]); omega)))) (by omega) (by (try rw [List.length_set]); omega)) rfl <| fq rfl rfl (fun _ x => ld rfl (Rep.SHas.elt hcW ((OL.later x).has.adh (Nat.zero_lt_of_lt (show j.toNat < _ from (by (try rw [List.length_set]); omega)))) (get_d (l := revN l k) (u := default) (by (try rw [List.length_set]); omega)) HitL_ag_api_Blow HitL_sz_api_Blow)) rfl <| fw rfl rfl (fun _ => mv rfl) rfl <| fw rfl rfl (fun _ => mv rfl) rfl <| fw rfl rfl (fun _ => iA k Try.underlying60 HitL_sz_api_Blow rfl rfl (OL.has.adr (Nat.zero_lt_of_lt (show k < _ from (by (try rw [List.length_set]); omega)))) rfl (by (try rw [List.length_set]); omega)) rfl <| fq rfl rfl (fun _ x => ld rfl (Rep.SHas.elt hcW ((OL.later x).has.adh (Nat.zero_lt_of_lt (show k < _ from (by (try rw [List.length_set]); omega)))) (get_d (l := revN l k) (u := default) (by (try rw [List.length_set]); omega)) HitL_ag_api_Blow HitL_sz_api_Blow)) rfl <| fw rfl rfl (fun _ => iA k Try.underlying60 HitL_sz_api_Blow rfl rfl (OL.has.adr (Nat.zero_lt_of_lt (show k < _ from (by (try rw [List.length_set]); omega)))) rfl (by (try rw [List.length_set]); omega)) rfl <| fb rfl rfl rfl fun w_7 x_8 Q hK => soE (q' := (revN l k).getD j.toNat default) (i := k) (es := [.int .i64 (((revN l k).getD j.toNat default).who), .int .i64 (((revN l k).getD j.toNat default).whom)]) (OL.later x_8) Rep.flat_bare (by (try rw [List.length_set]); omega) rfl rfl rfl rfl (fun _ => ⟨rfl, (hok _)⟩) HitL_sz_api_Blow fun w_9 m_10 O_11 => hK _ _ ?_
    have q_12 := x_8.size
    have z_7 := z_1.trans (Mod.of_ext x_8)
    have q_13 := m_10.size
    have z_9 := z_7.md m_10 (fun q hq => .inl hq)
    have q_14 := m_10.size
    refine fw rfl rfl (fun _ => iA j.toNat Try.underlying60 HitL_sz_api_Blow rfl rfl (O_11.has.adr (Nat.zero_lt_of_lt (show j.toNat < _ from (by (try rw [List.length_set]); omega)))) (by omega) (by (try rw [List.length_set]); omega)) rfl <| fb rfl rfl rfl fun w_15 x_16 Q hK => soE (q' := (revN l k).getD k default) (i := j.toNat) (es := [.int .i64 (((revN l k).getD k default).who), .int .i64 (((revN l k).getD k default).whom)]) (O_11.later x_16) Rep.flat_bare (by (try rw [List.length_set]); omega) rfl rfl rfl rfl (fun _ => ⟨rfl, (hok _)⟩) HitL_sz_api_Blow fun w_17 m_18 O_19 => hK _ _ ?_
    have q_20 := x_16.size
    have z_15 := z_9.trans (Mod.of_ext x_16)
    have q_21 := m_18.size
    have z_17 := z_15.md m_18 (fun q hq => .inl hq)
    have q_22 := m_18.size
    refine fn fun w_23 x_24 => ?_
    have q_25 := x_24.size
    have z_23 := z_17.trans (Mod.of_ext x_24)
    refine nB <| nT <| rg <| vl (mv rfl) rfl <| vl (bad rfl rfl (inI (by omega))) rfl <| vl (mv rfl) rfl <| vl (bsu rfl rfl (inI (by omega))) rfl <| vl (as_ rfl) rfl <| vl (as_ rfl) rfl <| nl <| ?_
    have O_19 := O_19.later x_24
    exact nI _ _ ⟨k + 1, j - 1, rfl, rfl, z_23, (by rw [revN_succ (j := j) (by omega) (by omega)]; exact O_19), ⟨by omega, by omega⟩⟩ (by omega) (.cons rfl (.cons (loI rfl (by first | omega | rfl | (simp <;> omega))) (.cons (loI rfl (by first | omega | rfl | (simp <;> omega))) .nil)))
  · refine xt <| xT <| xK <| xB <| ne <| tR .nil <| ?_
    exact ⟨rfl, by rw [← revN_all (k := k) (by omega)]; exact OL, z_1⟩
end Go.Proofs.Yticfnngppcmidaa
