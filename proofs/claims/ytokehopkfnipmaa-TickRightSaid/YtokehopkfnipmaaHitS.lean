import Derived.Test.YtokehopkfnipmaaTroF
import Derived.Test.YtokehopkfnipmaaRpt
import Derived.Test.YtokehopkfnipmaaTroH
set_option linter.unusedVariables false
set_option linter.unusedSimpArgs false
namespace Go.Proofs.Ytokehopkfnipmaa
open Go.RowKit

theorem HitG_fd_api_Troop_2 : Fd Try.prog 80 2 2 := fun _ _ _ => by kernel_rfl
theorem HitG_ag_int : Ag Try.prog 3 false := fun _ => by kernel_rfl
theorem HitG_en_troop_Kind : Enters Try.prog 39 := en Try.func39 (by kernel_rfl) (by kernel_rfl)
theorem HitG_zv_api_Kind : Zv Try.prog 84 (.agg #[.int .i64 0, .int .i64 0, .int .i64 0, .int .i64 0]) := fun _ => by kernel_rfl
theorem HitG_sz_api_Kind : Sz Try.prog 84 4 := fun _ => by kernel_rfl
theorem HitG_fd_api_Troop_3 : Fd Try.prog 80 3 3 := fun _ _ _ => by kernel_rfl
theorem HitG_ag_api_Cell : Ag Try.prog 70 true := fun _ => by kernel_rfl
theorem HitG_sz_api_Cell : Sz Try.prog 70 2 := fun _ => by kernel_rfl
theorem HitG_en_line_Apart : Enters Try.prog 154 := en Try.func154 (by kernel_rfl) (by kernel_rfl)
theorem HitG_fd_api_Troop_1 : Fd Try.prog 80 1 1 := fun _ _ _ => by kernel_rfl
theorem HitG_fd_api_Kind_1 : Fd Try.prog 84 1 1 := fun _ _ _ => by kernel_rfl
theorem HitG_fd_api_World_0 : Fd Try.prog 58 0 0 := fun _ _ _ => by kernel_rfl
theorem HitG_ag_api_Field : Ag Try.prog 54 true := fun _ => by kernel_rfl
theorem HitG_sz_api_Field : Sz Try.prog 54 3 := fun _ => by kernel_rfl
theorem HitG_en_sight_Sees : Enters Try.prog 155 := en Try.func155 (by kernel_rfl) (by kernel_rfl)
theorem HitG_ag_api_World : Ag Try.prog 58 true := fun _ => by kernel_rfl
theorem HitG_sz_api_World : Sz Try.prog 58 9 := fun _ => by kernel_rfl
theorem HitG_en_troop_Check : Enters Try.prog 30 := en Try.func30 (by kernel_rfl) (by kernel_rfl)
theorem HitG_fd_api_World_4 : Fd Try.prog 58 4 6 := fun _ _ _ => by kernel_rfl
theorem HitG_ag_S_api_Troop : Ag Try.prog 56 false := fun _ => by kernel_rfl
theorem HitG_sz_api_Troop : Sz Try.prog 80 7 := fun _ => by kernel_rfl
theorem HitG_ag_api_Troop : Ag Try.prog 80 true := fun _ => by kernel_rfl
theorem HitG_zv_api_Troop : Zv Try.prog 80 (.agg #[.int .i64 0, .int .i64 0, .int .i64 0, .int .i64 0, .int .i64 0, .int .i64 0, .int .i64 0]) := fun _ => by kernel_rfl
theorem HitG_fd_api_Troop_0 : Fd Try.prog 80 0 0 := fun _ _ _ => by kernel_rfl
theorem HitG_ib_bool : (Try.prog.info? 4).map (fun i => (i.zero, i.size, i.bytes)) = some (some (.bool false), 1, 1) := by kernel_rfl
theorem HitG_sz_api_Blow : Sz Try.prog 193 2 := fun _ => by kernel_rfl
theorem HitG_ag_api_Blow : Ag Try.prog 193 true := fun _ => by kernel_rfl
theorem HitG_zv_api_Blow : Zv Try.prog 193 (.agg #[.int .i64 0, .int .i64 0]) := fun _ => by kernel_rfl
theorem HitG_fd_api_Blow_0 : Fd Try.prog 193 0 0 := fun _ _ _ => by kernel_rfl
theorem HitG_zv_int : Zv Try.prog 3 (.int .i64 0) := fun _ => by kernel_rfl
theorem HitG_fd_api_Blow_1 : Fd Try.prog 193 1 1 := fun _ _ _ => by kernel_rfl
theorem HitG_sz_bool : Sz Try.prog 4 1 := fun _ => by kernel_rfl
theorem HitG_ag_bool : Ag Try.prog 4 false := fun _ => by kernel_rfl
theorem HitG_en_hit_counts : Enters Try.prog 133 := en Try.func133 (by kernel_rfl) (by kernel_rfl)
theorem HitG_sz_int : Sz Try.prog 3 1 := fun _ => by kernel_rfl
theorem HitG_fd_api_Kind_2 : Fd Try.prog 84 2 2 := fun _ _ _ => by kernel_rfl
def countsC (f : Fld) (x y : Trp) : Bool := if (x.owner == y.owner || decide (reachOf x.kind < far x.spot y.spot)) = true then false else seesV f x.spot y.spot
def idl (l : List Trp) : List (Int × Int) := (List.range l.length).map fun i => ((l.getD i default).id, (i : Int))
theorem idl_take {l : List Trp} {k : Nat} (h : k < l.length) : idl (l.take (k + 1)) = idl (l.take k) ++ [((l.getD k default).id, (k : Int))] := by
 have e1 : (l.take (k + 1)).length = k + 1 := by rw [List.length_take]; omega
 have e2 : (l.take k).length = k := by rw [List.length_take]; omega
 unfold idl
 rw [e1, e2, List.range_succ, List.map_append]
 congr 1
 ·refine List.map_congr_left fun i hi => ?_
  have hi := List.mem_range.1 hi
  simp only [List.getD_eq_getElem?_getD, List.getElem?_take]
  rw [if_pos (by omega), if_pos hi]
 ·simp only [List.map_cons, List.map_nil, List.getD_eq_getElem?_getD, List.getElem?_take]
  rw [if_pos (by omega)]
theorem idl_mem {l : List Trp} {p : Int × Int} (h : p ∈ idl l) : ∃ i, i < l.length ∧ p = ((l.getD i default).id, (i : Int)) := by
 obtain ⟨i, hi, rfl⟩ := List.mem_map.1 h
 exact ⟨i, List.mem_range.1 hi, rfl⟩
theorem getI_mem {l : List (Int × Int)} {k v : Int} (h : getI l k = some v) : (k, v) ∈ l := by
 unfold getI at h
 cases hf : l.find? (fun p => p.1 == k) with
 | none => rw [hf] at h; exact nomatch h
 | some p =>
  rw [hf] at h
  injection h with h
  have h1 := List.mem_of_find?_eq_some hf
  have h2 := List.find?_some hf
  have h3 : p.1 = k := by simpa using h2
  rw [← h3, ← h]; exact h1
theorem getI_none {l : List (Int × Int)} {k : Int} (h : ∀ p ∈ l, p.1 ≠ k) : getI l k = none := by
 unfold getI
 rw [List.find?_eq_none.2 fun p hp => by simpa using h p hp]; rfl
theorem place_of {W : Wd} {x v : Int} (h : getI (idl W.troops) x = some v) : ∃ i, i < W.troops.length ∧ v = (i : Int) ∧ (W.troops.getD i default).id = x := by
 obtain ⟨i, hi, he⟩ := idl_mem (getI_mem h)
 injection he with h1 h2
 exact ⟨i, hi, h2, h1.symm⟩
theorem place_at {W : Wd} (hG : Good W) (x : Int) (h : (getI (idl W.troops) x).isSome = true) : ((getI (idl W.troops) x).getD 0).toNat < W.troops.length ∧ 0 ≤ (getI (idl W.troops) x).getD 0 := by
 cases hg : getI (idl W.troops) x with
 | none => rw [hg] at h; exact nomatch h
 | some v =>
  obtain ⟨i, hi, hv, _⟩ := place_of hg
  show v.toNat < _ ∧ 0 ≤ v
  omega
theorem place_pos (W : Wd) (x : Int) : 0 ≤ (getI (idl W.troops) x).getD 0 := by
 cases hg : getI (idl W.troops) x with
 | none => exact Int.le_refl _
 | some v => obtain ⟨i, hi, hv, _⟩ := place_of hg; show 0 ≤ v; omega
theorem Good.ids_lt {W : Wd} (hG : Good W) {i j : Nat} (hij : i < j) (hj : j < W.troops.length) : (W.troops.getD i default).id < (W.troops.getD j default).id := by
 induction j with
 | zero => omega
 | succ j ih =>
  obtain ⟨t, ht⟩ := get_of hj
  have h1 := (hG.ids (j + 1) t ht).1
  have h2 : W.lastId (j + 1) = (W.troops.getD j default).id := by
   unfold Wd.lastId
   simp
  have e1 : W.troops.getD (j + 1) default = t := by rw [List.getD_eq_getElem?_getD, ht]; rfl
  rw [e1]
  rcases Nat.lt_succ_iff_lt_or_eq.1 hij with h | rfl
  ·have := ih h (by omega); omega
  ·omega
theorem place_new {W : Wd} (hG : Good W) {k : Nat} (hk : k < W.troops.length) : getI (idl (W.troops.take k)) (W.troops.getD k default).id = none := by
 refine getI_none fun p hp => ?_
 obtain ⟨i, hi, rfl⟩ := idl_mem hp
 rw [List.length_take] at hi
 have h1 := hG.ids_lt (i := i) (j := k) (by omega) hk
 have h2 : (W.troops.take k).getD i default = W.troops.getD i default := by
  simp only [List.getD_eq_getElem?_getD, List.getElem?_take]
  rw [if_pos (by omega)]
 show ((W.troops.take k).getD i default).id ≠ _
 rw [h2]; omega
theorem Good.nearD {W : Wd} (hG : Good W) (i : Nat) : -1000 ≤ (W.troops.getD i default).spot.x ∧ (W.troops.getD i default).spot.x ≤ 1000 ∧ -1000 ≤ (W.troops.getD i default).spot.y ∧ (W.troops.getD i default).spot.y ≤ 1000 := by
 rw [List.getD_eq_getElem?_getD]
 cases ht : W.troops[i]? with
 | none => exact ⟨by decide, by decide, by decide, by decide⟩
 | some t =>
  obtain ⟨i1, i2, i3, i4, i5, i6⟩ := Fld.idx hG.field (Fld.ground_in (hG.troops i t ht).ground)
  obtain ⟨y1, y2, y3, y4, _, _⟩ := Fld.good hG.field
  show -1000 ≤ t.spot.x ∧ t.spot.x ≤ 1000 ∧ -1000 ≤ t.spot.y ∧ t.spot.y ≤ 1000
  omega
def blowNo (W : Wd) (s : List Bool × List Int) (b : Blw) : Bool :=
 (((!(getI (idl W.troops) b.who).isSome || !(getI (idl W.troops) b.whom).isSome) || s.1.getD ((getI (idl W.troops) b.who).getD 0).toNat false) || !countsC W.field (W.troops.getD ((getI (idl W.troops) b.who).getD 0).toNat default) (W.troops.getD ((getI (idl W.troops) b.whom).getD 0).toNat default))
def blow (W : Wd) (s : List Bool × List Int) (b : Blw) : List Bool × List Int :=
 if blowNo W s b = true then s
 else (s.1.set ((getI (idl W.troops) b.who).getD 0).toNat true, s.2.set ((getI (idl W.troops) b.whom).getD 0).toNat (s.2.getD ((getI (idl W.troops) b.whom).getD 0).toNat 0 + harmOf (W.troops.getD ((getI (idl W.troops) b.who).getD 0).toNat default).kind))
theorem blow_yes {W : Wd} {s : List Bool × List Int} {b : Blw} (h : blowNo W s b = false) : blow W s b = (s.1.set ((getI (idl W.troops) b.who).getD 0).toNat true, s.2.set ((getI (idl W.troops) b.whom).getD 0).toNat (s.2.getD ((getI (idl W.troops) b.whom).getD 0).toNat 0 + harmOf (W.troops.getD ((getI (idl W.troops) b.who).getD 0).toNat default).kind)) := by
 unfold blow; rw [h]; rfl
theorem blow_no {W : Wd} {s : List Bool × List Int} {b : Blw} (h : blowNo W s b = true) : blow W s b = s := by unfold blow; rw [h]; rfl
def blows (W : Wd) (l : List Blw) : List Bool × List Int := l.foldl (blow W) (List.replicate W.troops.length false, List.replicate W.troops.length 0)
theorem blows_app (W : Wd) (l : List Blw) (b : Blw) : blows W (l ++ [b]) = blow W (blows W l) b := by unfold blows; rw [List.foldl_append]; rfl
theorem blows_take (W : Wd) {l : List Blw} {k : Nat} (h : k < l.length) : blows W (l.take (k + 1)) = blow W (blows W (l.take k)) (l.getD k default) := by
 rw [List.take_succ_eq_append_getElem h, blows_app, List.getD_eq_getElem?_getD, List.getElem?_eq_getElem h]; rfl
theorem harm_bd (k : Int) : 0 ≤ harmOf k ∧ harmOf k ≤ 4 := by unfold harmOf; split <;> (try split) <;> omega
def BlowInv (n m : Nat) (s : List Bool × List Int) : Prop := s.1.length = n ∧ s.2.length = n ∧ ∀ j, 0 ≤ s.2.getD j 0 ∧ s.2.getD j 0 ≤ 4 * m
theorem blow_inv (W : Wd) {n m : Nat} {s : List Bool × List Int} (b : Blw) (h : BlowInv n m s) : BlowInv n (m + 1) (blow W s b) := by
 obtain ⟨h1, h2, h3⟩ := h
 cases hb : blowNo W s b with
 | true => rw [blow_no hb]; exact ⟨h1, h2, fun j => by have := h3 j; omega⟩
 | false =>
  rw [blow_yes hb]
  refine ⟨by rw [List.length_set]; exact h1, by rw [List.length_set]; exact h2, fun j => ?_⟩
  have hj := h3 j
  have hx := harm_bd (W.troops.getD ((getI (idl W.troops) b.who).getD 0).toNat default).kind
  have hm := h3 ((getI (idl W.troops) b.whom).getD 0).toNat
  show 0 ≤ (s.2.set _ _).getD j 0 ∧ (s.2.set _ _).getD j 0 ≤ _
  generalize ((getI (idl W.troops) b.whom).getD 0).toNat = i at *
  generalize harmOf _ = q at *
  rw [List.getD_eq_getElem?_getD] at hj
  rw [List.getD_eq_getElem?_getD, List.getElem?_set]
  split
  ·split
   ·rw [Option.getD_some]; omega
   ·rw [Option.getD_none]; omega
  ·omega
theorem blow_invs (W : Wd) {n : Nat} : ∀ (l : List Blw) {m : Nat} {s : List Bool × List Int}, BlowInv n m s → BlowInv n (m + l.length) (l.foldl (blow W) s)
 | [], m, s, h => h
 | b :: l, m, s, h => by
  have := blow_invs W l (blow_inv W b h)
  rw [Nat.add_assoc, Nat.add_comm 1] at this
  exact this
theorem blows_bd (W : Wd) (l : List Blw) : (blows W l).1.length = W.troops.length ∧ (blows W l).2.length = W.troops.length ∧ ∀ j, 0 ≤ (blows W l).2.getD j 0 ∧ (blows W l).2.getD j 0 ≤ 4 * l.length := by
 have h0 : BlowInv W.troops.length 0 (List.replicate W.troops.length false, List.replicate W.troops.length 0) := by
  refine ⟨List.length_replicate, List.length_replicate, fun j => ?_⟩
  have : (List.replicate W.troops.length (0 : Int)).getD j 0 = 0 := by
   rw [List.getD_eq_getElem?_getD, List.getElem?_replicate]; split <;> rfl
  show 0 ≤ (List.replicate W.troops.length (0 : Int)).getD j 0 ∧ (List.replicate W.troops.length (0 : Int)).getD j 0 ≤ _
  rw [this]; decide
 obtain ⟨h1, h2, h3⟩ := blow_invs W l h0
 refine ⟨h1, h2, fun j => ?_⟩
 have := h3 j
 rw [Nat.zero_add] at this
 exact this
def blowE (W : Wd) (l : List Blw) : Int := if W.chk ≠ 0 then W.chk else if 200 < l.length then 2 else 0
def harmW (W : Wd) (l : List Blw) : List Int := if blowE W l ≠ 0 then [] else (blows W l).2
theorem blow_none {W : Wd} {l : List Blw} {w w1 : World} {v : Int} (h : blowE W l = v) (hv : v ≠ 0) (x : Ext w w1) : ∃ A c, (Ending.returned (.tuple #[.slice none 0 0, .int .i64 v]) = .returned (.tuple #[.slice A (harmW W l).length c, .int .i64 (blowE W l)])) ∧ repI.SOwn 3 8 w1 w.heap.size (Rep.blkOf A) A c (harmW W l) ∧ Ext w w1 := by
 have e : harmW W l = [] := by unfold harmW; rw [h, if_pos hv]
 rw [e, h]
 exact ⟨none, 0, rfl, Rep.SOwn.nil _, x⟩
theorem blow_some {W : Wd} {l : List Blw} (h : W.chk = 0) (h2 : ¬ (200 : Int) < l.length) : blowE W l = 0 ∧ harmW W l = (blows W l).2 := by
 have e : blowE W l = 0 := by unfold blowE; rw [if_neg (by simpa using h), if_neg (by omega)]
 exact ⟨e, by unfold harmW; rw [e]; rfl⟩
set_option maxRecDepth 100000 in
set_option maxHeartbeats 400000 in
theorem counts_any (a : Wd.At) (W : Wd) (x y : Trp) (w : World) (hW : Wd.Has w a W) (h : -1000 ≤ x.spot.x ∧ x.spot.x ≤ 1000 ∧ -1000 ≤ x.spot.y ∧ x.spot.y ≤ 1000) (h2 : -1000 ≤ y.spot.x ∧ y.spot.x ≤ 1000 ∧ -1000 ≤ y.spot.y ∧ y.spot.y ≤ 1000) :
  Calls Try.prog 133 #[.agg ((Wd.cells a W).toArray), .agg #[.int .i64 x.id, .int .i64 x.owner, .int .i64 x.kind, .int .i64 x.spot.x, .int .i64 x.spot.y, .int .i64 x.life, .int .i64 x.load], .agg #[.int .i64 y.id, .int .i64 y.owner, .int .i64 y.kind, .int .i64 y.spot.x, .int .i64 y.spot.y, .int .i64 y.life, .int .i64 y.load]] w (fun e w' => e = .returned (.bool (countsC W.field x y)) ∧ Ext w w') := by
 refine calls_W (n := 51) Try.func133 rfl rfl rfl ?_
 refine sq <| rg <| bx rfl rfl rfl rfl fun w_1 b_2 x_3 l_4 B_5 => ?_
 have q_6 := x_3.size
 have z_1 := Ext.tr (Ext.rf w) x_3
 have q_7 := B_5.lt
 refine bx rfl rfl rfl rfl fun w_8 b_9 x_10 l_11 B_12 => ?_
 have q_13 := x_10.size
 have z_8 := Ext.tr z_1 x_10
 have q_14 := B_12.lt
 refine bx rfl rfl rfl rfl fun w_15 b_16 x_17 l_18 B_19 => ?_
 have q_20 := x_17.size
 have z_15 := Ext.tr z_8 x_17
 have q_21 := B_19.lt
 refine vl (as_ rfl) rfl <| nl <| nT <| sq <| rg <| vl (fa HitG_fd_api_Troop_2 rfl) rfl <| ?_
 have B_12 := B_12.later x_17
 refine vl (ld rfl (B_12.one HitG_ag_int rfl)) rfl <| ca HitG_en_troop_Kind rfl rfl ((kind_any (x.kind) _).mono ?_)
 rintro e w_22 ⟨rfl, x_23⟩
 refine ⟨_, rfl, ?_⟩
 have q_24 := x_23.size
 have z_22 := Ext.tr z_15 x_23
 refine vl (mv rfl) rfl <| vl (ex rfl rfl) rfl <| vl (ex rfl rfl) rfl <| al rfl HitG_zv_api_Kind rfl rfl fun w_25 b_26 x_27 l_28 B_29 => ?_
 have q_30 := x_27.size
 have z_25 := Ext.tr z_22 x_27
 have q_31 := B_29.lt
 refine st (new := [.int .i64 (Wd.lifeOf x.kind), .int .i64 (reachOf x.kind), .int .i64 (harmOf x.kind), .int .i64 (Wd.priceOf x.kind)]) rfl rfl B_29 rfl HitG_sz_api_Kind rfl rfl rfl fun w_32 m_33 B_29 => ?_
 have q_35 := m_33.size
 have z_32 := Ext.mod z_25 m_33 (by simp only [List.mem_singleton, forall_eq]; omega)
 have q_34 := m_33.size
 refine vl (as_ rfl) rfl <| nl <| nT <| sq <| rg <| vl (fa HitG_fd_api_Troop_3 rfl) rfl <| ?_
 have B_12 := B_12.later (Ext.tr x_23 x_27)
 have B_12 := B_12.mod m_33 (by simp only [List.mem_singleton]; omega)
 refine vl (ld rfl (B_12.par [.int .i64 x.spot.x, .int .i64 x.spot.y] HitG_ag_api_Cell HitG_sz_api_Cell rfl)) rfl <| vl (fa HitG_fd_api_Troop_3 rfl) rfl <| ?_
 have B_19 := B_19.later (Ext.tr x_23 x_27)
 have B_19 := B_19.mod m_33 (by simp only [List.mem_singleton]; omega)
 refine vl (ld rfl (B_19.par [.int .i64 y.spot.x, .int .i64 y.spot.y] HitG_ag_api_Cell HitG_sz_api_Cell rfl)) rfl <| ca HitG_en_line_Apart rfl rfl ((apart_in x.spot y.spot _ (by omega) (by omega)).mono ?_)
 rintro e w_36 ⟨rfl, x_37⟩
 refine ⟨_, rfl, ?_⟩
 have q_38 := x_37.size
 have z_36 := Ext.tr z_32 x_37
 refine vl (mv rfl) rfl <| vl (ex rfl rfl) rfl <| vl (ex rfl rfl) rfl <| vl (ex rfl rfl) rfl <| vl (as_ rfl) rfl <| vl (as_ rfl) rfl <| vl (as_ rfl) rfl <| nl <| nT <| sq <| sq <| rg <| vl (fa HitG_fd_api_Troop_1 rfl) rfl <| ?_
 have B_12 := B_12.later x_37
 refine vl (ld rfl (B_12.one HitG_ag_int rfl)) rfl <| vl (fa HitG_fd_api_Troop_1 rfl) rfl <| ?_
 have B_19 := B_19.later x_37
 refine vl (ld rfl (B_19.one HitG_ag_int rfl)) rfl <| vl (beq rfl rfl) rfl <| vl (mv rfl) rfl <| vQ rfl rfl rfl rfl (fun hc => mv rfl) rfl <| vQ rfl rfl rfl rfl (fun hc => fa HitG_fd_api_Kind_1 rfl) rfl <| ?_
 have B_29 := B_29.later x_37
 refine vQ rfl rfl rfl rfl (fun hc => ld (gt hc rfl) (B_29.one HitG_ag_int rfl)) rfl <| vQ rfl rfl rfl rfl (fun hc => bgt (gt hc rfl) (gt hc rfl)) rfl <| vl (pO rfl rfl rfl rfl) rfl <| nl <| nT <| ?_
 refine cb rfl (fun h_39 => ?_) (fun h_39 => ?_)
 ·refine sq <| rg <| vl (as_ rfl) rfl <| nl <| nT <| rt <| tT <| tR (.tmp rfl .nil) <| ?_
  exact ⟨by unfold countsC; rw [h_39]; rfl, z_36⟩
 ·refine sk <| nT <| sq <| rg <| vl (fa HitG_fd_api_World_0 rfl) rfl <| ?_
  have B_5 := B_5.later (Ext.tr x_10 (Ext.tr x_17 (Ext.tr x_23 x_27)))
  have B_5 := B_5.mod m_33 (by simp only [List.mem_singleton]; omega)
  have B_5 := B_5.later x_37
  refine vl (ld rfl (B_5.par [.int .i64 W.field.wide, .int .i64 W.field.high, .slice a.P W.field.places.length a.p] HitG_ag_api_Field HitG_sz_api_Field rfl)) rfl <| vl (fa HitG_fd_api_Troop_3 rfl) rfl <| vl (ld rfl (B_12.par [.int .i64 x.spot.x, .int .i64 x.spot.y] HitG_ag_api_Cell HitG_sz_api_Cell rfl)) rfl <| vl (fa HitG_fd_api_Troop_3 rfl) rfl <| vl (ld rfl (B_19.par [.int .i64 y.spot.x, .int .i64 y.spot.y] HitG_ag_api_Cell HitG_sz_api_Cell rfl)) rfl <| ca HitG_en_sight_Sees rfl rfl ((sees_any W.field x.spot y.spot _ _ _ (hW.P.keep z_36)).mono ?_)
  rintro e w_40 ⟨rfl, x_41⟩
  refine ⟨_, rfl, ?_⟩
  have q_42 := x_41.size
  have z_40 := Ext.tr z_36 x_41
  refine vl (mv rfl) rfl <| vl (ex rfl rfl) rfl <| vl (ex rfl rfl) rfl <| vl (as_ rfl) rfl <| vl (as_ rfl) rfl <| nl <| nT <| sq <| rg <| vl (mv rfl) rfl <| vl (as_ rfl) rfl <| nl <| nT <| rt <| tR (.tmp rfl .nil) <| ?_
  exact ⟨by unfold countsC; rw [h_39]; rfl, z_40⟩
set_option maxRecDepth 100000 in
set_option maxHeartbeats 400000 in
theorem blows_any (a : Wd.At) (W : Wd) (l : List Blw) (A : Option Addr) (c : Nat) (w : World) (hW : Wd.Has w a W) (hl : Blw.rep.SHas 16 w A c l) :
  Calls Try.prog 91 #[.agg ((Wd.cells a W).toArray), .slice A l.length c] w (fun e w' => ∃ A c, e = .returned (.tuple #[.slice A (harmW W l).length c, .int .i64 (blowE W l)]) ∧ repI.SOwn 3 8 w' w.heap.size (Rep.blkOf A) A c (harmW W l) ∧ Ext w w') := by
 refine calls_W (n := 120) Try.func91 rfl rfl rfl ?_
 refine sq <| rg <| bx rfl rfl rfl rfl fun w_1 b_2 x_3 l_4 B_5 => ?_
 have q_6 := x_3.size
 have z_1 := Ext.tr (Ext.rf w) x_3
 have q_7 := B_5.lt
 refine vl (as_ rfl) rfl <| vl (as_ rfl) rfl <| nl <| nT <| sq <| sq <| rg <| vl (ld rfl (B_5.all HitG_ag_api_World HitG_sz_api_World)) rfl <| ca HitG_en_troop_Check rfl rfl ((check_any a W _ (hW.keep z_1)).mono ?_)
 rintro e w_8 ⟨rfl, x_9⟩
 refine ⟨_, rfl, ?_⟩
 have q_10 := x_9.size
 have z_8 := Ext.tr z_1 x_9
 refine vl (as_ rfl) rfl <| nl <| nT <| sq <| rg <| vl (mv rfl) rfl <| vl (bne rfl rfl) rfl <| nl <| nT <| ?_
 refine cne rfl (fun h_11 => ?_) (fun h_11 => ?_)
 ·refine sq <| rg <| vl (mv rfl) rfl <| vl (as_ rfl) rfl <| vl (as_ rfl) rfl <| nl <| nT <| rt <| tT <| tR (.tmp rfl (.tmp rfl .nil)) <| ?_
  exact blow_none (by unfold blowE; rw [if_pos h_11]) h_11 z_8
 ·have hG := Good.of_chk h_11
  have hnt := hG.nt
  have hnr := fun i => hG.nearD i
  have hidx := fun x => place_at hG x
  have hpos := fun x => place_pos W x
  have hll := hl.len_le
  refine sk <| nT <| sq <| sq <| rg <| vl (mv rfl) rfl <| vl (ln Try.underlying107 rfl) rfl <| vl (bgt rfl rfl) rfl <| nl <| nT <| ?_
  refine clt rfl (fun h_12 => ?_) (fun h_12 => ?_)
  ·refine sq <| rg <| vl (as_ rfl) rfl <| vl (as_ rfl) rfl <| nl <| nT <| rt <| tT <| tR (.tmp rfl (.tmp rfl .nil)) <| ?_
   exact blow_none (by unfold blowE; rw [if_neg (by simpa using h_11), if_pos (by omega)]) (by decide) z_8
  ·refine sk <| nT <| sq <| rg <| mm rfl fun w_13 r_14 x_15 l_16 M_17 => ?_
   have q_18 := x_15.size
   have z_13 := Ext.tr z_8 x_15
   have q_19 := M_17.lt
   refine vl (as_ rfl) rfl <| nl <| nT <| sq <| sq <| rg <| vl (fa HitG_fd_api_World_4 rfl) rfl <| ?_
   have B_5 := B_5.later (Ext.tr x_9 x_15)
   refine vl (ld rfl (B_5.one HitG_ag_S_api_Troop rfl)) rfl <| vl (ln Try.underlying56 rfl) rfl <| vl (mv rfl) rfl <| nl <| nT <| bk <| ?_
   refine lp (fun mI EI wI => ∃ k : Nat, EI = [(1, .slice A l.length c), (2, .pointer (some ⟨b_2, 0, none⟩)), (4, .slice none 0 0), (5, .int .i64 0), (7, .map (some r_14)), (30, .slice a.T W.troops.length a.t), (31, .int .i64 (W.troops.length : Int)), (32, .int .i64 (k : Int))] ∧ mI = W.troops.length - k ∧ Ext w wI ∧ Blk wI b_2 (Wd.cells a W) 58 (0, 0) ∧ MapI wI r_14 (idl (W.troops.take k)) ∧ (k ≤ W.troops.length)) _ _ ⟨0, rfl, rfl, z_13, B_5, M_17, by omega⟩ (.cons rfl (.cons rfl (.cons rfl (.cons rfl (.cons rfl (.cons rfl (.cons rfl (.cons (loI rfl (by first | omega | rfl | (simp <;> omega))) .nil)))))))) ?_
   rintro m_21 E_22 w_20 ⟨k, rfl, rfl, z_20, B_5, MP, hk⟩
   have q_23 := z_20.size
   have q_24 := B_5.lt
   have q_25 := MP.lt
   refine sq <| rg <| vl (blt rfl rfl) rfl <| nl <| nT <| sq <| ?_
   refine clt rfl (fun h_26 => ?_) (fun h_26 => ?_)
   ·refine sk <| nT <| sq <| bk <| sq <| rg <| vl (mv rfl) rfl <| vl (iA k Try.underlying56 HitG_sz_api_Troop rfl rfl ((hW.T.keep z_20).adr (Nat.zero_lt_of_lt (show k < _ from (by have p1 := hpos (l.getD k default).who; have p2 := hpos (l.getD k default).whom; omega)))) rfl (by have p1 := hpos (l.getD k default).who; have p2 := hpos (l.getD k default).whom; omega)) rfl <| vl (ld rfl (Rep.SHas.elt hcT ((hW.T.keep z_20).adh (Nat.zero_lt_of_lt (show k < _ from (by have p1 := hpos (l.getD k default).who; have p2 := hpos (l.getD k default).whom; omega)))) (get_d (l := W.troops) (u := default) (by have p1 := hpos (l.getD k default).who; have p2 := hpos (l.getD k default).whom; omega)) HitG_ag_api_Troop HitG_sz_api_Troop)) rfl <| al rfl HitG_zv_api_Troop rfl rfl fun w_27 b_28 x_29 l_30 B_31 => ?_
    have q_32 := x_29.size
    have z_27 := Ext.tr z_20 x_29
    have q_33 := B_31.lt
    refine vl (as_ rfl) rfl <| st (new := [.int .i64 ((W.troops.getD k default).id), .int .i64 ((W.troops.getD k default).owner), .int .i64 ((W.troops.getD k default).kind), .int .i64 ((W.troops.getD k default).spot.x), .int .i64 ((W.troops.getD k default).spot.y), .int .i64 ((W.troops.getD k default).life), .int .i64 ((W.troops.getD k default).load)]) rfl rfl B_31 rfl HitG_sz_api_Troop rfl rfl rfl fun w_34 m_35 B_31 => ?_
    have q_37 := m_35.size
    have z_34 := Ext.mod z_27 m_35 (by simp only [List.mem_singleton, forall_eq]; omega)
    have q_36 := m_35.size
    refine nl <| nT <| rg <| vl (mv rfl) rfl <| vl (fa HitG_fd_api_Troop_0 rfl) rfl <| vl (ld rfl (B_31.one HitG_ag_int rfl)) rfl <| vl (mv rfl) rfl <| ?_
    have MP := MP.later x_29
    have MP := MP.mod m_35 (by simp only [List.mem_singleton]; omega)
    refine mu Try.underlying149 Try.underlying3 MP (place_new hG (by omega)) rfl rfl rfl fun w_38 m_39 MP => ?_
    have q_40 := m_39.size
    have z_38 := Ext.mod z_34 m_39 (by simp only [List.mem_singleton, forall_eq]; omega)
    have q_41 := m_39.size
    refine nl <| nB <| nT <| rg <| vl (bad rfl rfl (inI (by have p1 := hpos (l.getD k default).who; have p2 := hpos (l.getD k default).whom; omega))) rfl <| vl (mv rfl) rfl <| nl <| ?_
    have B_5 := B_5.later x_29
    have B_5 := B_5.mod m_35 (by simp only [List.mem_singleton]; omega)
    have B_5 := B_5.mod m_39 (by simp only [List.mem_singleton]; omega)
    exact nI _ _ ⟨k + 1, rfl, rfl, z_38, B_5, (by rw [idl_take (by omega)]; exact MP), by omega⟩ (by omega) (.cons rfl (.cons rfl (.cons rfl (.cons rfl (.cons rfl (.cons rfl (.cons rfl (.cons (loI rfl (by first | omega | rfl | (simp <;> omega))) .nil))))))))
   ·refine xt <| xT <| xK <| xB <| nT <| sq <| rg <| vl (fa HitG_fd_api_World_4 rfl) rfl <| vl (ld rfl (B_5.one HitG_ag_S_api_Troop rfl)) rfl <| vl (ln Try.underlying56 rfl) rfl <| mO (R := repI) (by_ := 8) (B := w.heap.size) (c := W.troops.length) (zv := (.int .i64 0)) (q := 0) Rep.flat_plain Try.underlying34 info_int rfl rfl (fun j u h => raw0I j u h) (fun _ => ⟨rfl, okI_iff.2 (by decide)⟩) rfl rfl rfl (by omega) (by omega) (by omega) fun w_42 b_43 x_44 l_45 O_46 => ?_
    have q_47 := x_44.size
    have z_42 := Ext.tr z_20 x_44
    have u_48 := fun q hq => (O_46.lt q hq).2
    have lo_49 : ∀ q ∈ Rep.blkOf (some ⟨b_43, 0, none⟩), b_43 ≤ q := fun q hq => Nat.le_of_eq (List.mem_singleton.1 hq).symm
    refine vl (as_ rfl) rfl <| nl <| nT <| sq <| rg <| vl (fa HitG_fd_api_World_4 rfl) rfl <| ?_
    have B_5 := B_5.later x_44
    refine vl (ld rfl (B_5.one HitG_ag_S_api_Troop rfl)) rfl <| vl (ln Try.underlying56 rfl) rfl <| mO (R := repB) (by_ := 1) (B := w.heap.size) (c := W.troops.length) (zv := (.bool false)) (q := false) Rep.flat_plain Try.underlying29 HitG_ib_bool rfl rfl (fun j u h => raw0B j u h) (fun _ => ⟨rfl, trivial⟩) rfl rfl rfl (by omega) (by omega) (by omega) fun w_50 b_51 x_52 l_53 O_54 => ?_
    have q_55 := x_52.size
    have z_50 := Ext.tr z_42 x_52
    have u_56 := fun q hq => (O_54.lt q hq).2
    have lo_57 : ∀ q ∈ Rep.blkOf (some ⟨b_51, 0, none⟩), b_51 ≤ q := fun q hq => Nat.le_of_eq (List.mem_singleton.1 hq).symm
    refine vl (as_ rfl) rfl <| nl <| nT <| sq <| sq <| rg <| vl (mv rfl) rfl <| vl (ln Try.underlying107 rfl) rfl <| vl (mv rfl) rfl <| nl <| nT <| bk <| ?_
    have MP := MP.later (Ext.tr x_44 x_52)
    have O_46 := O_46.later x_52
    have B_5 := B_5.later x_52
    refine lp (fun mI EI wI => ∃ k : Nat, EI = [(2, .pointer (some ⟨b_2, 0, none⟩)), (4, .slice none 0 0), (5, .int .i64 0), (7, .map (some r_14)), (10, .slice (some ⟨b_43, 0, none⟩) W.troops.length W.troops.length), (11, .slice (some ⟨b_51, 0, none⟩) W.troops.length W.troops.length), (50, .slice A l.length c), (51, .int .i64 (l.length : Int)), (52, .int .i64 (k : Int))] ∧ mI = l.length - k ∧ Ext w wI ∧ Blk wI b_2 (Wd.cells a W) 58 (0, 0) ∧ MapI wI r_14 (idl W.troops) ∧ repI.SOwn 3 8 wI w.heap.size (Rep.blkOf (some ⟨b_43, 0, none⟩)) (some ⟨b_43, 0, none⟩) W.troops.length ((blows W (l.take k)).2) ∧ repB.SOwn 4 1 wI w.heap.size (Rep.blkOf (some ⟨b_51, 0, none⟩)) (some ⟨b_51, 0, none⟩) W.troops.length ((blows W (l.take k)).1) ∧ (k ≤ l.length) ∧ (∀ q ∈ Rep.blkOf (some ⟨b_43, 0, none⟩), q = b_2 → False) ∧ (∀ q ∈ Rep.blkOf (some ⟨b_43, 0, none⟩), q = r_14 → False) ∧ (∀ q ∈ Rep.blkOf (some ⟨b_51, 0, none⟩), q = b_2 → False) ∧ (∀ q ∈ Rep.blkOf (some ⟨b_51, 0, none⟩), q = r_14 → False) ∧ (∀ q ∈ Rep.blkOf (some ⟨b_51, 0, none⟩), q ∈ Rep.blkOf (some ⟨b_43, 0, none⟩) → False)) _ _ ⟨0, rfl, rfl, z_50, B_5, (by have e : k = W.troops.length := (by omega); rw [e, List.take_length] at MP; exact MP), O_46, O_54, by omega, (fun q hq hb => by (have := lo_49 q hq; omega)), (fun q hq hb => by (have := lo_49 q hq; omega)), (fun q hq hb => by (have := lo_57 q hq; omega)), (fun q hq hb => by (have := lo_57 q hq; omega)), (fun q hq hb => by (have := lo_57 q hq; (have := u_48 q hb; omega)))⟩ (.cons rfl (.cons rfl (.cons rfl (.cons rfl (.cons rfl (.cons rfl (.cons rfl (.cons rfl (.cons (loI rfl (by first | omega | rfl | (simp <;> omega))) .nil))))))))) ?_
    rintro m_64 E_65 w_63 ⟨k, rfl, rfl, z_63, B_5, MP, OH, OB, hk, d_58, d_59, d_60, d_61, d_62⟩
    have q_66 := z_63.size
    have q_67 := B_5.lt
    have q_68 := MP.lt
    have u_69 := fun q hq => (OH.lt q hq).2
    have u_70 := fun q hq => (OB.lt q hq).2
    obtain ⟨hb1, hb2, hb3⟩ := blows_bd W (l.take k)
    have hb4 : (l.take k).length ≤ k := List.length_take_le k l
    refine sq <| rg <| vl (blt rfl rfl) rfl <| nl <| nT <| sq <| ?_
    refine clt rfl (fun h_71 => ?_) (fun h_71 => ?_)
    ·refine sk <| nT <| sq <| bk <| sq <| rg <| vl (iA k Try.underlying107 HitG_sz_api_Blow rfl rfl ((hl.keep z_63).adr (Nat.zero_lt_of_lt (show k < _ from (by have p1 := hpos (l.getD k default).who; have p2 := hpos (l.getD k default).whom; omega)))) rfl (by have p1 := hpos (l.getD k default).who; have p2 := hpos (l.getD k default).whom; omega)) rfl <| vl (ld rfl (Rep.SHas.elt hcW ((hl.keep z_63).adh (Nat.zero_lt_of_lt (show k < _ from (by have p1 := hpos (l.getD k default).who; have p2 := hpos (l.getD k default).whom; omega)))) (get_d (l := l) (u := default) (by have p1 := hpos (l.getD k default).who; have p2 := hpos (l.getD k default).whom; omega)) HitG_ag_api_Blow HitG_sz_api_Blow)) rfl <| al rfl HitG_zv_api_Blow rfl rfl fun w_72 b_73 x_74 l_75 B_76 => ?_
     have q_77 := x_74.size
     have z_72 := Ext.tr z_63 x_74
     have q_78 := B_76.lt
     refine st (new := [.int .i64 ((l.getD k default).who), .int .i64 ((l.getD k default).whom)]) rfl rfl B_76 rfl HitG_sz_api_Blow rfl rfl rfl fun w_79 m_80 B_76 => ?_
     have q_82 := m_80.size
     have z_79 := Ext.mod z_72 m_80 (by simp only [List.mem_singleton, forall_eq]; omega)
     have q_81 := m_80.size
     refine nl <| nT <| sq <| rg <| vl (mv rfl) rfl <| vl (fa HitG_fd_api_Blow_0 rfl) rfl <| vl (ld rfl (B_76.one HitG_ag_int rfl)) rfl <| ?_
     have MP := MP.later x_74
     have MP := MP.mod m_80 (by simp only [List.mem_singleton]; omega)
     refine vl (lk Try.underlying149 Try.underlying3 HitG_zv_int MP rfl rfl) rfl <| vl (mv rfl) rfl <| vl (ex rfl rfl) rfl <| vl (ex rfl rfl) rfl <| vl (as_ rfl) rfl <| vl (as_ rfl) rfl <| nl <| nT <| sq <| rg <| vl (mv rfl) rfl <| vl (fa HitG_fd_api_Blow_1 rfl) rfl <| vl (ld rfl (B_76.one HitG_ag_int rfl)) rfl <| vl (lk Try.underlying149 Try.underlying3 HitG_zv_int MP rfl rfl) rfl <| vl (mv rfl) rfl <| vl (ex rfl rfl) rfl <| vl (ex rfl rfl) rfl <| vl (as_ rfl) rfl <| vl (as_ rfl) rfl <| nl <| nT <| sq <| sq <| ?_
     refine rd [(10, 0), (13, 0), (15, 0), (18, 0), (20, 0), (23, 0), (24, 0)] [0, 1, 2, 3, 4, 5, 6, 7, 8, 9, 10, 11, 12, 13, 14, 15, 16, 17, 18, 19, 20, 21, 22, 23, 24, 25, 26] (by kernel_rfl) (by kernel_rfl) ?_
     refine fw rfl rfl (fun _ => mv rfl) rfl <| fw rfl rfl (fun _ => nt rfl) rfl <| fw rfl rfl (fun _ => mv rfl) rfl <| fW rfl rfl rfl rfl rfl rfl (fun hc _ => mv rfl) rfl <| fW rfl rfl rfl rfl rfl rfl (fun hc _ => nt (gt hc rfl)) rfl <| fw rfl rfl (fun _ => pO rfl rfl rfl rfl) rfl <| fw rfl rfl (fun _ => mv rfl) rfl <| fW rfl rfl rfl rfl rfl rfl (fun hc _ => mv rfl) rfl <| fW rfl rfl rfl rfl rfl rfl (fun hc _ => mv rfl) rfl <| ?_
     have OB := OB.later x_74
     have OB := OB.mod m_80 (fun q hq h => by have hb := List.mem_singleton.1 h; exfalso; (have := u_70 q hq; omega))
     refine fW rfl rfl rfl rfl rfl rfl (fun hc _ => iA (((getI (idl W.troops) ((l.getD k default).who)).getD 0).toNat) Try.underlying29 HitG_sz_bool (gt hc rfl) (gt hc rfl) (OB.has.adr (Nat.zero_lt_of_lt (show ((getI (idl W.troops) ((l.getD k default).who)).getD 0).toNat < _ from (by (try rw [hb1]); simp only [Bool.or_eq_true, Bool.or_eq_false_iff, Bool.and_eq_true, Bool.and_eq_false_iff, decide_eq_true_eq, decide_eq_false_iff_not, beq_iff_eq, bne_iff_ne, beq_eq_false_iff_ne, bne_eq_false_iff_eq, Bool.not_eq_true', Bool.not_eq_false', Bool.not_eq_true, Bool.not_eq_false, Int.not_lt, Int.not_le, Nat.not_lt, Nat.not_le, ne_eq, Classical.not_not] at hc; first | exact (hidx _ hc.1).1 | exact (hidx _ hc.2).1 | exact (hidx _ hc.1.1).1 | exact (hidx _ hc.1.2).1)))) (by (try simp only [Bool.or_eq_true, Bool.or_eq_false_iff, Bool.and_eq_true, Bool.and_eq_false_iff, decide_eq_true_eq, decide_eq_false_iff_not, beq_iff_eq, bne_iff_ne, beq_eq_false_iff_ne, bne_eq_false_iff_eq, Bool.not_eq_true', Bool.not_eq_false', Bool.not_eq_true, Bool.not_eq_false, Int.not_lt, Int.not_le, Nat.not_lt, Nat.not_le, ne_eq, Classical.not_not] at hc); have p1 := hpos (l.getD k default).who; have p2 := hpos (l.getD k default).whom; omega) (by (try rw [hb1]); simp only [Bool.or_eq_true, Bool.or_eq_false_iff, Bool.and_eq_true, Bool.and_eq_false_iff, decide_eq_true_eq, decide_eq_false_iff_not, beq_iff_eq, bne_iff_ne, beq_eq_false_iff_ne, bne_eq_false_iff_eq, Bool.not_eq_true', Bool.not_eq_false', Bool.not_eq_true, Bool.not_eq_false, Int.not_lt, Int.not_le, Nat.not_lt, Nat.not_le, ne_eq, Classical.not_not] at hc; first | exact (hidx _ hc.1).1 | exact (hidx _ hc.2).1 | exact (hidx _ hc.1.1).1 | exact (hidx _ hc.1.2).1)) rfl <| fQ rfl rfl rfl rfl rfl rfl (fun hc _ x => ld (gt hc rfl) (Rep.SHas.one' hcB ((OB.later x).has.adh (Nat.zero_lt_of_lt (show ((getI (idl W.troops) ((l.getD k default).who)).getD 0).toNat < _ from (by (try rw [hb1]); simp only [Bool.or_eq_true, Bool.or_eq_false_iff, Bool.and_eq_true, Bool.and_eq_false_iff, decide_eq_true_eq, decide_eq_false_iff_not, beq_iff_eq, bne_iff_ne, beq_eq_false_iff_ne, bne_eq_false_iff_eq, Bool.not_eq_true', Bool.not_eq_false', Bool.not_eq_true, Bool.not_eq_false, Int.not_lt, Int.not_le, Nat.not_lt, Nat.not_le, ne_eq, Classical.not_not] at hc; first | exact (hidx _ hc.1).1 | exact (hidx _ hc.2).1 | exact (hidx _ hc.1.1).1 | exact (hidx _ hc.1.2).1)))) (get_d (l := (blows W (l.take k)).1) (u := false) (by (try rw [hb1]); simp only [Bool.or_eq_true, Bool.or_eq_false_iff, Bool.and_eq_true, Bool.and_eq_false_iff, decide_eq_true_eq, decide_eq_false_iff_not, beq_iff_eq, bne_iff_ne, beq_eq_false_iff_ne, bne_eq_false_iff_eq, Bool.not_eq_true', Bool.not_eq_false', Bool.not_eq_true, Bool.not_eq_false, Int.not_lt, Int.not_le, Nat.not_lt, Nat.not_le, ne_eq, Classical.not_not] at hc; first | exact (hidx _ hc.1).1 | exact (hidx _ hc.2).1 | exact (hidx _ hc.1.1).1 | exact (hidx _ hc.1.2).1)) rfl HitG_ag_bool)) rfl <| fw rfl rfl (fun _ => pO rfl rfl rfl rfl) rfl <| fw rfl rfl (fun _ => mv rfl) rfl <| ?_
     have B_5 := B_5.later x_74
     have B_5 := B_5.mod m_80 (by simp only [List.mem_singleton]; omega)
     refine fQ rfl rfl rfl rfl rfl rfl (fun hc _ x => ld rfl ((B_5.later x).all HitG_ag_api_World HitG_sz_api_World)) rfl <| fW rfl rfl rfl rfl rfl rfl (fun hc _ => fa HitG_fd_api_World_4 rfl) rfl <| fQ rfl rfl rfl rfl rfl rfl (fun hc _ x => ld (gt hc rfl) ((B_5.later x).one HitG_ag_S_api_Troop rfl)) rfl <| fW rfl rfl rfl rfl rfl rfl (fun hc _ => mv rfl) rfl <| fW rfl rfl rfl rfl rfl rfl (fun hc _ => iA (((getI (idl W.troops) ((l.getD k default).who)).getD 0).toNat) Try.underlying56 HitG_sz_api_Troop (gt hc rfl) (gt hc rfl) ((hW.T.keep z_79).adr (Nat.zero_lt_of_lt (show ((getI (idl W.troops) ((l.getD k default).who)).getD 0).toNat < _ from (by (try rw [(rfl : W.troops.length = W.troops.length)]); simp only [Bool.or_eq_true, Bool.or_eq_false_iff, Bool.and_eq_true, Bool.and_eq_false_iff, decide_eq_true_eq, decide_eq_false_iff_not, beq_iff_eq, bne_iff_ne, beq_eq_false_iff_ne, bne_eq_false_iff_eq, Bool.not_eq_true', Bool.not_eq_false', Bool.not_eq_true, Bool.not_eq_false, Int.not_lt, Int.not_le, Nat.not_lt, Nat.not_le, ne_eq, Classical.not_not] at hc; first | exact (hidx _ hc.1).1 | exact (hidx _ hc.2).1 | exact (hidx _ hc.1.1).1 | exact (hidx _ hc.1.2).1)))) (by (try simp only [Bool.or_eq_true, Bool.or_eq_false_iff, Bool.and_eq_true, Bool.and_eq_false_iff, decide_eq_true_eq, decide_eq_false_iff_not, beq_iff_eq, bne_iff_ne, beq_eq_false_iff_ne, bne_eq_false_iff_eq, Bool.not_eq_true', Bool.not_eq_false', Bool.not_eq_true, Bool.not_eq_false, Int.not_lt, Int.not_le, Nat.not_lt, Nat.not_le, ne_eq, Classical.not_not] at hc); have p1 := hpos (l.getD k default).who; have p2 := hpos (l.getD k default).whom; omega) (by (try rw [(rfl : W.troops.length = W.troops.length)]); simp only [Bool.or_eq_true, Bool.or_eq_false_iff, Bool.and_eq_true, Bool.and_eq_false_iff, decide_eq_true_eq, decide_eq_false_iff_not, beq_iff_eq, bne_iff_ne, beq_eq_false_iff_ne, bne_eq_false_iff_eq, Bool.not_eq_true', Bool.not_eq_false', Bool.not_eq_true, Bool.not_eq_false, Int.not_lt, Int.not_le, Nat.not_lt, Nat.not_le, ne_eq, Classical.not_not] at hc; first | exact (hidx _ hc.1).1 | exact (hidx _ hc.2).1 | exact (hidx _ hc.1.1).1 | exact (hidx _ hc.1.2).1)) rfl <| fQ rfl rfl rfl rfl rfl rfl (fun hc _ x => ld (gt hc rfl) (Rep.SHas.elt hcT ((hW.T.keep (Ext.tr z_79 x)).adh (Nat.zero_lt_of_lt (show ((getI (idl W.troops) ((l.getD k default).who)).getD 0).toNat < _ from (by (try rw [(rfl : W.troops.length = W.troops.length)]); simp only [Bool.or_eq_true, Bool.or_eq_false_iff, Bool.and_eq_true, Bool.and_eq_false_iff, decide_eq_true_eq, decide_eq_false_iff_not, beq_iff_eq, bne_iff_ne, beq_eq_false_iff_ne, bne_eq_false_iff_eq, Bool.not_eq_true', Bool.not_eq_false', Bool.not_eq_true, Bool.not_eq_false, Int.not_lt, Int.not_le, Nat.not_lt, Nat.not_le, ne_eq, Classical.not_not] at hc; first | exact (hidx _ hc.1).1 | exact (hidx _ hc.2).1 | exact (hidx _ hc.1.1).1 | exact (hidx _ hc.1.2).1)))) (get_d (l := W.troops) (u := default) (by (try rw [(rfl : W.troops.length = W.troops.length)]); simp only [Bool.or_eq_true, Bool.or_eq_false_iff, Bool.and_eq_true, Bool.and_eq_false_iff, decide_eq_true_eq, decide_eq_false_iff_not, beq_iff_eq, bne_iff_ne, beq_eq_false_iff_ne, bne_eq_false_iff_eq, Bool.not_eq_true', Bool.not_eq_false', Bool.not_eq_true, Bool.not_eq_false, Int.not_lt, Int.not_le, Nat.not_lt, Nat.not_le, ne_eq, Classical.not_not] at hc; first | exact (hidx _ hc.1).1 | exact (hidx _ hc.2).1 | exact (hidx _ hc.1.1).1 | exact (hidx _ hc.1.2).1)) HitG_ag_api_Troop HitG_sz_api_Troop)) rfl <| fW rfl rfl rfl rfl rfl rfl (fun hc _ => fa HitG_fd_api_World_4 rfl) rfl <| fQ rfl rfl rfl rfl rfl rfl (fun hc _ x => ld (gt hc rfl) ((B_5.later x).one HitG_ag_S_api_Troop rfl)) rfl <| fW rfl rfl rfl rfl rfl rfl (fun hc _ => mv rfl) rfl <| fW rfl rfl rfl rfl rfl rfl (fun hc _ => iA (((getI (idl W.troops) ((l.getD k default).whom)).getD 0).toNat) Try.underlying56 HitG_sz_api_Troop (gt hc rfl) (gt hc rfl) ((hW.T.keep z_79).adr (Nat.zero_lt_of_lt (show ((getI (idl W.troops) ((l.getD k default).whom)).getD 0).toNat < _ from (by (try rw [(rfl : W.troops.length = W.troops.length)]); simp only [Bool.or_eq_true, Bool.or_eq_false_iff, Bool.and_eq_true, Bool.and_eq_false_iff, decide_eq_true_eq, decide_eq_false_iff_not, beq_iff_eq, bne_iff_ne, beq_eq_false_iff_ne, bne_eq_false_iff_eq, Bool.not_eq_true', Bool.not_eq_false', Bool.not_eq_true, Bool.not_eq_false, Int.not_lt, Int.not_le, Nat.not_lt, Nat.not_le, ne_eq, Classical.not_not] at hc; first | exact (hidx _ hc.1).1 | exact (hidx _ hc.2).1 | exact (hidx _ hc.1.1).1 | exact (hidx _ hc.1.2).1)))) (by (try simp only [Bool.or_eq_true, Bool.or_eq_false_iff, Bool.and_eq_true, Bool.and_eq_false_iff, decide_eq_true_eq, decide_eq_false_iff_not, beq_iff_eq, bne_iff_ne, beq_eq_false_iff_ne, bne_eq_false_iff_eq, Bool.not_eq_true', Bool.not_eq_false', Bool.not_eq_true, Bool.not_eq_false, Int.not_lt, Int.not_le, Nat.not_lt, Nat.not_le, ne_eq, Classical.not_not] at hc); have p1 := hpos (l.getD k default).who; have p2 := hpos (l.getD k default).whom; omega) (by (try rw [(rfl : W.troops.length = W.troops.length)]); simp only [Bool.or_eq_true, Bool.or_eq_false_iff, Bool.and_eq_true, Bool.and_eq_false_iff, decide_eq_true_eq, decide_eq_false_iff_not, beq_iff_eq, bne_iff_ne, beq_eq_false_iff_ne, bne_eq_false_iff_eq, Bool.not_eq_true', Bool.not_eq_false', Bool.not_eq_true, Bool.not_eq_false, Int.not_lt, Int.not_le, Nat.not_lt, Nat.not_le, ne_eq, Classical.not_not] at hc; first | exact (hidx _ hc.1).1 | exact (hidx _ hc.2).1 | exact (hidx _ hc.1.1).1 | exact (hidx _ hc.1.2).1)) rfl <| fQ rfl rfl rfl rfl rfl rfl (fun hc _ x => ld (gt hc rfl) (Rep.SHas.elt hcT ((hW.T.keep (Ext.tr z_79 x)).adh (Nat.zero_lt_of_lt (show ((getI (idl W.troops) ((l.getD k default).whom)).getD 0).toNat < _ from (by (try rw [(rfl : W.troops.length = W.troops.length)]); simp only [Bool.or_eq_true, Bool.or_eq_false_iff, Bool.and_eq_true, Bool.and_eq_false_iff, decide_eq_true_eq, decide_eq_false_iff_not, beq_iff_eq, bne_iff_ne, beq_eq_false_iff_ne, bne_eq_false_iff_eq, Bool.not_eq_true', Bool.not_eq_false', Bool.not_eq_true, Bool.not_eq_false, Int.not_lt, Int.not_le, Nat.not_lt, Nat.not_le, ne_eq, Classical.not_not] at hc; first | exact (hidx _ hc.1).1 | exact (hidx _ hc.2).1 | exact (hidx _ hc.1.1).1 | exact (hidx _ hc.1.2).1)))) (get_d (l := W.troops) (u := default) (by (try rw [(rfl : W.troops.length = W.troops.length)]); simp only [Bool.or_eq_true, Bool.or_eq_false_iff, Bool.and_eq_true, Bool.and_eq_false_iff, decide_eq_true_eq, decide_eq_false_iff_not, beq_iff_eq, bne_iff_ne, beq_eq_false_iff_ne, bne_eq_false_iff_eq, Bool.not_eq_true', Bool.not_eq_false', Bool.not_eq_true, Bool.not_eq_false, Int.not_lt, Int.not_le, Nat.not_lt, Nat.not_le, ne_eq, Classical.not_not] at hc; first | exact (hidx _ hc.1).1 | exact (hidx _ hc.2).1 | exact (hidx _ hc.1.1).1 | exact (hidx _ hc.1.2).1)) HitG_ag_api_Troop HitG_sz_api_Troop)) rfl <| fC rfl rfl rfl rfl rfl rfl HitG_en_hit_counts (fun hc => ec (gt hc rfl) (ec (gt hc rfl) (ec (gt hc rfl) rfl))) (fun hc _ x => counts_any a W ((W.troops.getD (((getI (idl W.troops) ((l.getD k default).who)).getD 0).toNat) default)) ((W.troops.getD (((getI (idl W.troops) ((l.getD k default).whom)).getD 0).toNat) default)) _ (hW.keep (Ext.tr z_79 x)) (hnr _) (hnr _)) rfl <| fW rfl rfl rfl rfl rfl rfl (fun hc _ => nt (gt hc rfl)) rfl <| fw rfl rfl (fun _ => pO rfl rfl rfl rfl) rfl <| fn fun w_83 x_84 => ?_
     have q_85 := x_84.size
     have z_83 := Ext.tr z_79 x_84
     refine nT <| ?_
     refine cb rfl (fun h_86 => ?_) (fun h_86 => ?_)
     ·refine xt <| xT <| xB <| nT <| rg <| vl (bad rfl rfl (inI (by have p1 := hpos (l.getD k default).who; have p2 := hpos (l.getD k default).whom; omega))) rfl <| vl (mv rfl) rfl <| nl <| ?_
      have e1 : blows W (l.take (k + 1)) = ((blows W (l.take k)).1, (blows W (l.take k)).2) := by rw [blows_take W (by omega), blow_no h_86]
      have B_5 := B_5.later x_84
      have MP := MP.later x_84
      have OH := OH.later x_74
      have OH := OH.mod m_80 (fun q hq h => by have hb := List.mem_singleton.1 h; exfalso; (have := u_69 q hq; omega))
      have OH := OH.later x_84
      have OB := OB.later x_84
      exact nI _ _ ⟨k + 1, rfl, rfl, z_83, B_5, MP, (by rw [e1]; exact OH), (by rw [e1]; exact OB), by omega, (fun q hq hb => by (exact d_58 q hq hb)), (fun q hq hb => by (exact d_59 q hq hb)), (fun q hq hb => by (exact d_60 q hq hb)), (fun q hq hb => by (exact d_61 q hq hb)), (fun q hq hb => by (exact d_62 q hq hb))⟩ (by omega) (.cons rfl (.cons rfl (.cons rfl (.cons rfl (.cons rfl (.cons rfl (.cons rfl (.cons rfl (.cons (loI rfl (by first | omega | rfl | (simp <;> omega))) .nil)))))))))
     ·have hh := h_86
      simp only [Bool.or_eq_true, Bool.or_eq_false_iff, Bool.and_eq_true, Bool.and_eq_false_iff, decide_eq_true_eq, decide_eq_false_iff_not, beq_iff_eq, bne_iff_ne, beq_eq_false_iff_ne, bne_eq_false_iff_eq, Bool.not_eq_true', Bool.not_eq_false', Bool.not_eq_true, Bool.not_eq_false, Int.not_lt, Int.not_le, Nat.not_lt, Nat.not_le, ne_eq, Classical.not_not] at hh
      have i1 := (hidx _ hh.1.1.1).1
      have i2 := (hidx _ hh.1.1.2).1
      have w1 := hb3 (((getI (idl W.troops) ((l.getD k default).whom)).getD 0).toNat)
      have w2 := harm_bd (W.troops.getD (((getI (idl W.troops) ((l.getD k default).who)).getD 0).toNat) default).kind
      refine sk <| nT <| sq <| rg <| vl (fa HitG_fd_api_World_4 rfl) rfl <| ?_
      have B_5 := B_5.later x_84
      refine vl (ld rfl (B_5.one HitG_ag_S_api_Troop rfl)) rfl <| vl (mv rfl) rfl <| vl (iA (((getI (idl W.troops) ((l.getD k default).who)).getD 0).toNat) Try.underlying56 HitG_sz_api_Troop rfl rfl ((hW.T.keep z_83).adr (Nat.zero_lt_of_lt (show ((getI (idl W.troops) ((l.getD k default).who)).getD 0).toNat < _ from (by have p1 := hpos (l.getD k default).who; have p2 := hpos (l.getD k default).whom; omega)))) (by have p1 := hpos (l.getD k default).who; have p2 := hpos (l.getD k default).whom; omega) (by have p1 := hpos (l.getD k default).who; have p2 := hpos (l.getD k default).whom; omega)) rfl <| vl (fa HitG_fd_api_Troop_2 rfl) rfl <| vl (ld rfl (Rep.SHas.fld hcT ((hW.T.keep z_83).adh (Nat.zero_lt_of_lt (show ((getI (idl W.troops) ((l.getD k default).who)).getD 0).toNat < _ from (by have p1 := hpos (l.getD k default).who; have p2 := hpos (l.getD k default).whom; omega)))) 2 (get_d (l := W.troops) (u := default) (by have p1 := hpos (l.getD k default).who; have p2 := hpos (l.getD k default).whom; omega)) rfl HitG_ag_int)) rfl <| ca HitG_en_troop_Kind rfl rfl ((kind_any ((W.troops.getD (((getI (idl W.troops) ((l.getD k default).who)).getD 0).toNat) default).kind) _).mono ?_)
      rintro e w_87 ⟨rfl, x_88⟩
      refine ⟨_, rfl, ?_⟩
      have q_89 := x_88.size
      have z_87 := Ext.tr z_83 x_88
      refine vl (mv rfl) rfl <| vl (ex rfl rfl) rfl <| vl (ex rfl rfl) rfl <| al rfl HitG_zv_api_Kind rfl rfl fun w_90 b_91 x_92 l_93 B_94 => ?_
      have q_95 := x_92.size
      have z_90 := Ext.tr z_87 x_92
      have q_96 := B_94.lt
      refine st (new := [.int .i64 (Wd.lifeOf ((W.troops.getD (((getI (idl W.troops) ((l.getD k default).who)).getD 0).toNat) default).kind)), .int .i64 (reachOf ((W.troops.getD (((getI (idl W.troops) ((l.getD k default).who)).getD 0).toNat) default).kind)), .int .i64 (harmOf ((W.troops.getD (((getI (idl W.troops) ((l.getD k default).who)).getD 0).toNat) default).kind)), .int .i64 (Wd.priceOf ((W.troops.getD (((getI (idl W.troops) ((l.getD k default).who)).getD 0).toNat) default).kind))]) rfl rfl B_94 rfl HitG_sz_api_Kind rfl rfl rfl fun w_97 m_98 B_94 => ?_
      have q_100 := m_98.size
      have z_97 := Ext.mod z_90 m_98 (by simp only [List.mem_singleton, forall_eq]; omega)
      have q_99 := m_98.size
      refine vl (as_ rfl) rfl <| nl <| nT <| sq <| rg <| vl (mv rfl) rfl <| vl (mv rfl) rfl <| ?_
      have OB := OB.later (Ext.tr x_84 (Ext.tr x_88 x_92))
      have OB := OB.mod m_98 (fun q hq h => by have hb := List.mem_singleton.1 h; exfalso; (have := u_70 q hq; omega))
      refine vl (iA (((getI (idl W.troops) ((l.getD k default).who)).getD 0).toNat) Try.underlying29 HitG_sz_bool rfl rfl (OB.has.adr (Nat.zero_lt_of_lt (show ((getI (idl W.troops) ((l.getD k default).who)).getD 0).toNat < _ from (by have p1 := hpos (l.getD k default).who; have p2 := hpos (l.getD k default).whom; omega)))) (by have p1 := hpos (l.getD k default).who; have p2 := hpos (l.getD k default).whom; omega) (by have p1 := hpos (l.getD k default).who; have p2 := hpos (l.getD k default).whom; omega)) rfl <| so (q' := true) (j := 0) (i := (((getI (idl W.troops) ((l.getD k default).who)).getD 0).toNat)) OB Rep.flat_bare (get_d (l := (blows W (l.take k)).1) (u := false) (by have p1 := hpos (l.getD k default).who; have p2 := hpos (l.getD k default).whom; omega)) rfl rfl rfl rfl (fun _ cs h => by have ok_ := (show _ ∧ _ from h).2; obtain rfl := hcB h; exact ⟨rfl, trivial⟩) rfl rfl HitG_sz_bool fun w_101 m_102 O_103 => ?_
      have q_104 := m_102.size
      have z_101 := Ext.mod z_97 m_102 (fun q hq => (OB.lt q hq).1)
      have q_105 := m_102.size
      refine nl <| nT <| ?_
      refine rd [(3, 0), (5, 0), (8, 3)] [0, 1, 2, 3, 4, 5, 6, 7, 8] (by kernel_rfl) (by kernel_rfl) ?_
      refine fw rfl rfl (fun _ => mv rfl) rfl <| fw rfl rfl (fun _ => mv rfl) rfl <| ?_
      have OH := OH.later x_74
      have OH := OH.mod m_80 (fun q hq h => by have hb := List.mem_singleton.1 h; exfalso; (have := u_69 q hq; omega))
      have OH := OH.later (Ext.tr x_84 (Ext.tr x_88 x_92))
      have OH := OH.mod m_98 (fun q hq h => by have hb := List.mem_singleton.1 h; exfalso; (have := u_69 q hq; omega))
      have OH := OH.mod m_102 (fun q hq h => by exfalso; (exact d_62 q h hq))
      refine fw rfl rfl (fun _ => iA (((getI (idl W.troops) ((l.getD k default).whom)).getD 0).toNat) Try.underlying34 HitG_sz_int rfl rfl (OH.has.adr (Nat.zero_lt_of_lt (show ((getI (idl W.troops) ((l.getD k default).whom)).getD 0).toNat < _ from (by have p1 := hpos (l.getD k default).who; have p2 := hpos (l.getD k default).whom; omega)))) (by have p1 := hpos (l.getD k default).who; have p2 := hpos (l.getD k default).whom; omega) (by have p1 := hpos (l.getD k default).who; have p2 := hpos (l.getD k default).whom; omega)) rfl <| fq rfl rfl (fun _ x => ld rfl (Rep.SHas.one' hcI ((OH.later x).has.adh (Nat.zero_lt_of_lt (show ((getI (idl W.troops) ((l.getD k default).whom)).getD 0).toNat < _ from (by have p1 := hpos (l.getD k default).who; have p2 := hpos (l.getD k default).whom; omega)))) (get_d (l := (blows W (l.take k)).2) (u := 0) (by have p1 := hpos (l.getD k default).who; have p2 := hpos (l.getD k default).whom; omega)) rfl HitG_ag_int)) rfl <| fw rfl rfl (fun _ => fa HitG_fd_api_Kind_2 rfl) rfl <| ?_
      have d_106 : ∀ q ∈ Rep.blkOf (some ⟨b_51, 0, none⟩), q = b_91 → False := fun q hq hb => by (have := u_70 q hq; omega)
      have B_94 := B_94.mod m_102 (fun hq => d_106 _ hq rfl)
      refine fq rfl rfl (fun _ x => ld rfl ((B_94.later x).one HitG_ag_int rfl)) rfl <| fw rfl rfl (fun _ => bad rfl rfl (inI (by have p1 := hpos (l.getD k default).who; have p2 := hpos (l.getD k default).whom; omega))) rfl <| fw rfl rfl (fun _ => iA (((getI (idl W.troops) ((l.getD k default).whom)).getD 0).toNat) Try.underlying34 HitG_sz_int rfl rfl (OH.has.adr (Nat.zero_lt_of_lt (show ((getI (idl W.troops) ((l.getD k default).whom)).getD 0).toNat < _ from (by have p1 := hpos (l.getD k default).who; have p2 := hpos (l.getD k default).whom; omega)))) (by have p1 := hpos (l.getD k default).who; have p2 := hpos (l.getD k default).whom; omega) (by have p1 := hpos (l.getD k default).who; have p2 := hpos (l.getD k default).whom; omega)) rfl <| fb rfl rfl rfl fun w_107 x_108 Q hK => so (q' := (((blows W (l.take k)).2).getD (((getI (idl W.troops) ((l.getD k default).whom)).getD 0).toNat) 0) + (harmOf ((W.troops.getD (((getI (idl W.troops) ((l.getD k default).who)).getD 0).toNat) default).kind))) (j := 0) (i := (((getI (idl W.troops) ((l.getD k default).whom)).getD 0).toNat)) (OH.later x_108) Rep.flat_bare (get_d (l := (blows W (l.take k)).2) (u := 0) (by have p1 := hpos (l.getD k default).who; have p2 := hpos (l.getD k default).whom; omega)) rfl rfl rfl rfl (fun _ cs h => by have ok_ := (show _ ∧ _ from h).2; obtain rfl := hcI h; exact ⟨rfl, okI_iff.2 (by omega)⟩) rfl rfl HitG_sz_int fun w_109 m_110 O_111 => hK _ _ ?_
      have q_112 := x_108.size
      have z_107 := Ext.tr z_101 x_108
      have q_113 := m_110.size
      have z_109 := Ext.mod z_107 m_110 (fun q hq => ((OH.later x_108).lt q hq).1)
      have q_114 := m_110.size
      refine fn fun w_115 x_116 => ?_
      have q_117 := x_116.size
      have z_115 := Ext.tr z_109 x_116
      refine nB <| nT <| rg <| vl (bad rfl rfl (inI (by have p1 := hpos (l.getD k default).who; have p2 := hpos (l.getD k default).whom; omega))) rfl <| vl (mv rfl) rfl <| nl <| ?_
      have e1 : blows W (l.take (k + 1)) = (((blows W (l.take k)).1).set (((getI (idl W.troops) ((l.getD k default).who)).getD 0).toNat) true, ((blows W (l.take k)).2).set (((getI (idl W.troops) ((l.getD k default).whom)).getD 0).toNat) ((((blows W (l.take k)).2).getD (((getI (idl W.troops) ((l.getD k default).whom)).getD 0).toNat) 0) + (harmOf ((W.troops.getD (((getI (idl W.troops) ((l.getD k default).who)).getD 0).toNat) default).kind)))) := by rw [blows_take W (by omega), blow_yes h_86]
      have B_5 := B_5.later (Ext.tr x_88 x_92)
      have B_5 := B_5.mod m_98 (by simp only [List.mem_singleton]; omega)
      have B_5 := B_5.mod m_102 (fun hq => d_60 _ hq rfl)
      have B_5 := B_5.later x_108
      have B_5 := B_5.mod m_110 (fun hq => d_58 _ hq rfl)
      have B_5 := B_5.later x_116
      have MP := MP.later (Ext.tr x_84 (Ext.tr x_88 x_92))
      have MP := MP.mod m_98 (by simp only [List.mem_singleton]; omega)
      have MP := MP.mod m_102 (fun hq => d_61 _ hq rfl)
      have MP := MP.later x_108
      have MP := MP.mod m_110 (fun hq => d_59 _ hq rfl)
      have MP := MP.later x_116
      have O_111 := O_111.later x_116
      have O_103 := O_103.later x_108
      have O_103 := O_103.mod m_110 (fun q hq h => by exfalso; (exact d_62 q hq h))
      have O_103 := O_103.later x_116
      exact nI _ _ ⟨k + 1, rfl, rfl, z_115, B_5, MP, (by rw [e1]; exact O_111), (by rw [e1]; exact O_103), by omega, (fun q hq hb => by (exact d_58 q hq hb)), (fun q hq hb => by (exact d_59 q hq hb)), (fun q hq hb => by (exact d_60 q hq hb)), (fun q hq hb => by (exact d_61 q hq hb)), (fun q hq hb => by (exact d_62 q hq hb))⟩ (by omega) (.cons rfl (.cons rfl (.cons rfl (.cons rfl (.cons rfl (.cons rfl (.cons rfl (.cons rfl (.cons (loI rfl (by first | omega | rfl | (simp <;> omega))) .nil)))))))))
    ·refine xt <| xT <| xK <| xB <| nT <| sq <| rg <| vl (mv rfl) rfl <| vl (as_ rfl) rfl <| vl (as_ rfl) rfl <| nl <| nT <| rt <| tR (.tmp rfl (.tmp rfl .nil)) <| ?_
     obtain ⟨r1, r2⟩ := blow_some h_11 h_12
     have e : k = l.length := by omega
     rw [e, List.take_length] at OH
     rw [r1, r2]
     exact ⟨_, _, by rw [(blows_bd W l).2.1]; rfl, OH, z_63⟩
end Go.Proofs.Ytokehopkfnipmaa
set_option linter.unusedVariables false
set_option linter.unusedSimpArgs false
namespace Go.Proofs.Ytokehopkfnipmaa
open Go.RowKit

theorem HitS_zv_api_World : Zv Try.prog 58 (.agg #[.int .i64 0, .int .i64 0, .slice none 0 0, .slice none 0 0, .slice none 0 0, .slice none 0 0, .slice none 0 0, .int .i64 0, .int .i64 0]) := fun _ => by kernel_rfl
theorem HitS_fd_api_World_0 : Fd Try.prog 58 0 0 := fun _ _ _ => by kernel_rfl
theorem HitS_fd_api_Field_2 : Fd Try.prog 54 2 2 := fun _ _ _ => by kernel_rfl
theorem HitS_ag_S_int : Ag Try.prog 34 false := fun _ => by kernel_rfl
theorem HitS_en_slices_Clone_S_int_int_ : Enters Try.prog 104 := en Try.func104 (by kernel_rfl) (by kernel_rfl)
theorem HitS_sz_S_int : Sz Try.prog 34 1 := fun _ => by kernel_rfl
theorem HitS_fd_api_World_1 : Fd Try.prog 58 1 3 := fun _ _ _ => by kernel_rfl
theorem HitS_ag_S_api_Cell : Ag Try.prog 55 false := fun _ => by kernel_rfl
theorem HitS_fd_api_World_2 : Fd Try.prog 58 2 4 := fun _ _ _ => by kernel_rfl
theorem HitS_en_slices_Clone_S_api_Cell_api_Cell_ : Enters Try.prog 105 := en Try.func105 (by kernel_rfl) (by kernel_rfl)
theorem HitS_sz_S_api_Cell : Sz Try.prog 55 1 := fun _ => by kernel_rfl
theorem HitS_fd_api_World_3 : Fd Try.prog 58 3 5 := fun _ _ _ => by kernel_rfl
theorem HitS_fd_api_World_4 : Fd Try.prog 58 4 6 := fun _ _ _ => by kernel_rfl
theorem HitS_ag_S_api_Troop : Ag Try.prog 56 false := fun _ => by kernel_rfl
theorem HitS_en_slices_Clone_S_api_Troop_api_Troop_ : Enters Try.prog 107 := en Try.func107 (by kernel_rfl) (by kernel_rfl)
theorem HitS_sz_S_api_Troop : Sz Try.prog 56 1 := fun _ => by kernel_rfl
theorem HitS_ag_api_World : Ag Try.prog 58 true := fun _ => by kernel_rfl
theorem HitS_sz_api_World : Sz Try.prog 58 9 := fun _ => by kernel_rfl
theorem HitS_en_hit_Blows : Enters Try.prog 91 := en Try.func91 (by kernel_rfl) (by kernel_rfl)
theorem HitS_en_hit_own : Enters Try.prog 92 := en Try.func92 (by kernel_rfl) (by kernel_rfl)
theorem HitS_sz_api_Troop : Sz Try.prog 80 7 := fun _ => by kernel_rfl
theorem HitS_ag_api_Troop : Ag Try.prog 80 true := fun _ => by kernel_rfl
theorem HitS_zv_api_Troop : Zv Try.prog 80 (.agg #[.int .i64 0, .int .i64 0, .int .i64 0, .int .i64 0, .int .i64 0, .int .i64 0, .int .i64 0]) := fun _ => by kernel_rfl
theorem HitS_fd_api_Troop_4 : Fd Try.prog 80 4 5 := fun _ _ _ => by kernel_rfl
theorem HitS_ag_int : Ag Try.prog 3 false := fun _ => by kernel_rfl
theorem HitS_sz_int : Sz Try.prog 3 1 := fun _ => by kernel_rfl
theorem HitS_el_S_api_Troop : ElT Try.prog Trp.rep 56 80 56 := ElT.mk_ (z := Trp.zero) (k := 7) Try.underlying56 Trp.info rfl rfl (by decide) Trp.zero_raw
theorem HitS_fd_api_Troop_0 : Fd Try.prog 80 0 0 := fun _ _ _ => by kernel_rfl
theorem HitS_el_S_int : ElT Try.prog repI 34 3 8 := ElT.mk_ (z := .int .i64 0) (k := 1) Try.underlying34 info_int rfl rfl (by decide) (fun j u h => raw0I j u h)
def hurt (T : List Trp) (h : List Int) (i : Nat) : Trp := { T.getD i default with life := (T.getD i default).life - h.getD i 0 }
def leftL (T : List Trp) (h : List Int) (k : Nat) : List Trp := ((List.range k).map (hurt T h)).filter fun t => decide (0 < t.life)
def goneL (T : List Trp) (h : List Int) (k : Nat) : List Int := (((List.range k).map (hurt T h)).filter fun t => !decide (0 < t.life)).map Trp.id
theorem left_succ_yes {T : List Trp} {h : List Int} {k : Nat} (hp : 0 < (T.getD k default).life - h.getD k 0) : leftL T h (k + 1) = leftL T h k ++ [hurt T h k] := by
 unfold leftL
 rw [List.range_succ, List.map_append, List.filter_append, List.map_cons, List.map_nil, List.filter_cons, if_pos (show decide (0 < (hurt T h k).life) = true from decide_eq_true hp)]
 rfl
theorem left_succ_no {T : List Trp} {h : List Int} {k : Nat} (hp : ¬ 0 < (T.getD k default).life - h.getD k 0) : leftL T h (k + 1) = leftL T h k := by
 unfold leftL
 rw [List.range_succ, List.map_append, List.filter_append, List.map_cons, List.map_nil, List.filter_cons, if_neg (show ¬ decide (0 < (hurt T h k).life) = true from fun e => hp (of_decide_eq_true e))]
 simp
theorem gone_succ_yes {T : List Trp} {h : List Int} {k : Nat} (hp : 0 < (T.getD k default).life - h.getD k 0) : goneL T h (k + 1) = goneL T h k := by
 unfold goneL
 rw [List.range_succ, List.map_append, List.filter_append, List.map_cons, List.map_nil, List.filter_cons, if_neg (show ¬ (!decide (0 < (hurt T h k).life)) = true from by rw [decide_eq_true (show 0 < (hurt T h k).life from hp)]; decide)]
 simp
theorem gone_succ_no {T : List Trp} {h : List Int} {k : Nat} (hp : ¬ 0 < (T.getD k default).life - h.getD k 0) : goneL T h (k + 1) = goneL T h k ++ [(T.getD k default).id] := by
 unfold goneL
 rw [List.range_succ, List.map_append, List.filter_append, List.map_cons, List.map_nil, List.filter_cons, if_pos (show (!decide (0 < (hurt T h k).life)) = true from by rw [decide_eq_false (show ¬ 0 < (hurt T h k).life from hp)]; rfl), List.map_append]
 rfl
theorem left_len (T : List Trp) (h : List Int) (k : Nat) : (leftL T h k).length ≤ k := by unfold leftL; exact Nat.le_trans (List.length_filter_le _ _) (by simp)
theorem gone_len (T : List Trp) (h : List Int) (k : Nat) : (goneL T h k).length ≤ k := by unfold goneL; rw [List.length_map]; exact Nat.le_trans (List.length_filter_le _ _) (by simp)
theorem blowE_ok {W : Wd} {l : List Blw} (h : blowE W l = 0) : W.chk = 0 ∧ l.length ≤ 200 := by
 unfold blowE at h
 split at h
 ·contradiction
 ·rename_i hc
  split at h
  ·exact nomatch h
  ·exact ⟨by simpa using hc, by omega⟩
theorem harm_of {W : Wd} {l : List Blw} (h : blowE W l = 0) : (harmW W l).length = W.troops.length ∧ ∀ k, 0 ≤ (harmW W l).getD k 0 ∧ (harmW W l).getD k 0 ≤ 800 := by
 obtain ⟨h1, h2, h3⟩ := blows_bd W l
 have h4 := (blowE_ok h).2
 have e : harmW W l = (blows W l).2 := by unfold harmW; rw [h]; rfl
 rw [e]
 exact ⟨h2, fun k => by have := h3 k; omega⟩
theorem trp_ok {w : World} {A : Option Addr} {c : Nat} {T : List Trp} (h : Trp.rep.SHas 56 w A c T) (k : Nat) : (T.getD k default).ok := by
 rw [List.getD_eq_getElem?_getD]
 cases ht : T[k]? with
 | none => exact ⟨by decide, by decide, by decide, by decide, by decide, by decide, by decide⟩
 | some t => exact Rep.SHas.all_ (Q := Trp.ok) (fun h => And.right (show _ ∧ _ from h)) h t (List.mem_of_getElem? ht)
theorem Good.lifeD {W : Wd} (hG : Good W) {k : Nat} (hk : k < W.troops.length) : 1 ≤ (W.troops.getD k default).life ∧ (W.troops.getD k default).life ≤ 20 := by
 obtain ⟨t, ht⟩ := get_of hk
 have e : W.troops.getD k default = t := by rw [List.getD_eq_getElem?_getD, ht]; rfl
 rw [e]
 have h1 := hG.troops k t ht
 have h2 : Wd.lifeOf t.kind ≤ 20 := by unfold Wd.lifeOf; split <;> (try split) <;> omega
 have := h1.life
 omega
def struckW (W : Wd) (l : List Blw) : Wd := if blowE W l ≠ 0 then Wd.zero else { W with troops := leftL W.troops (harmW W l) W.troops.length }
def struckG (W : Wd) (l : List Blw) : List Int := if blowE W l ≠ 0 then [] else goneL W.troops (harmW W l) W.troops.length
def StruckPost (W : Wd) (l : List Blw) (w : World) (e : Ending) (w' : World) : Prop :=
 ∃ a' A c, e = .returned (.tuple #[.agg (Wd.cells a' (struckW W l)).toArray, .slice A (struckG W l).length c, .int .i64 (blowE W l)]) ∧ WOwn w' w.heap.size a' (struckW W l) ∧ repI.SOwn 3 8 w' w.heap.size (Rep.blkOf A) A c (struckG W l) ∧ (∀ q ∈ Rep.blkOf A, q ∉ WOwn.foot a') ∧ Ext w w'
theorem struck_no {W : Wd} {l : List Blw} (h : ¬ blowE W l = 0) : struckW W l = Wd.zero ∧ struckG W l = [] := by unfold struckW struckG; rw [if_pos h, if_pos h]; exact ⟨rfl, rfl⟩
theorem struck_ok {W : Wd} {l : List Blw} {k : Nat} (h : blowE W l = 0) (hk : k = W.troops.length) : struckW W l = { W with troops := leftL W.troops (harmW W l) k } ∧ struckG W l = goneL W.troops (harmW W l) k := by
 subst hk; unfold struckW struckG; rw [if_neg (by simpa using h), if_neg (by simpa using h)]; exact ⟨rfl, rfl⟩
set_option maxRecDepth 100000 in
set_option maxHeartbeats 400000 in
theorem hown_any (a : Wd.At) (W : Wd) (w : World) (hW : Wd.Has w a W) :
  Calls Try.prog 92 #[.agg ((Wd.cells a W).toArray)] w (fun e w' => ∃ a' : Wd.At, e = .returned (.agg (Wd.cells a' W).toArray) ∧ WOwn w' w.heap.size a' W ∧ Ext w w') := by
 refine calls_W (n := 26) Try.func92 rfl rfl rfl ?_
 refine sq <| rg <| bx rfl rfl rfl rfl fun w_1 b_2 x_3 l_4 B_5 => ?_
 have q_6 := x_3.size
 have z_1 := Ext.tr (Ext.rf w) x_3
 have q_7 := B_5.lt
 refine al rfl HitS_zv_api_World rfl rfl fun w_8 b_9 x_10 l_11 B_12 => ?_
 have q_13 := x_10.size
 have z_8 := Ext.tr z_1 x_10
 have q_14 := B_12.lt
 refine nl <| nT <| sq <| rg <| vl (fa HitS_fd_api_World_0 rfl) rfl <| vl (fa HitS_fd_api_Field_2 rfl) rfl <| ?_
 have B_5 := B_5.later x_10
 refine vl (ld rfl (B_5.one HitS_ag_S_int rfl)) rfl <| ca HitS_en_slices_Clone_S_int_int_ rfl rfl ((clone_I _ _ W.field.places _ (hW.P.keep z_8)).mono ?_)
 rintro e w_18 ⟨A_15, c_15, rfl, OC_15, hn_15, x_19⟩
 refine ⟨_, rfl, ?_⟩
 have q_20 := x_19.size
 have z_18 := Ext.tr z_8 x_19
 have u_16 := fun q hq => (OC_15.lt q hq).2
 have lo_17 := fun q hq => (OC_15.lt q hq).1
 refine vl (fa HitS_fd_api_World_0 rfl) rfl <| vl (fa HitS_fd_api_Field_2 rfl) rfl <| ?_
 have B_5 := B_5.later x_19
 refine st (new := [.int .i64 W.field.wide, .int .i64 W.field.high, .slice A_15 ((W.field.places).length) c_15, .slice a.B W.bases.length a.b, .slice a.S W.stocks.length a.s, .slice a.M W.mines.length a.m, .slice a.T W.troops.length a.t, .int .i64 W.next, .int .i64 W.now]) rfl rfl B_5 rfl HitS_sz_S_int rfl rfl rfl fun w_21 m_22 B_5 => ?_
 have q_24 := m_22.size
 have z_21 := Ext.mod z_18 m_22 (by simp only [List.mem_singleton, forall_eq]; omega)
 have q_23 := m_22.size
 refine nl <| nT <| sq <| ?_
 refine rd [(1, 0), (2, 2), (4, 0), (5, 2), (7, 3), (9, 3)] [0, 1, 3, 4, 2, 6, 5, 7, 8, 9] (by kernel_rfl) (by kernel_rfl) ?_
 refine fw rfl rfl (fun _ => fa HitS_fd_api_World_1 rfl) rfl <| fq rfl rfl (fun _ x => ld rfl ((B_5.later x).one HitS_ag_S_api_Cell rfl)) rfl <| fw rfl rfl (fun _ => fa HitS_fd_api_World_2 rfl) rfl <| fq rfl rfl (fun _ x => ld rfl ((B_5.later x).one HitS_ag_S_int rfl)) rfl <| fx rfl rfl rfl fun w_25 x_26 Q hK => ca HitS_en_slices_Clone_S_api_Cell_api_Cell_ rfl rfl ((clone_C _ _ W.bases _ (hW.B.keep (Ext.tr z_21 x_26))).mono ?_)
 rintro e w_30 ⟨A_27, c_27, rfl, OC_27, hn_27, x_31⟩
 refine ⟨_, rfl, hK _ _ ⟨Ext.tr x_26 x_31, ?_⟩⟩
 have q_32 := x_26.size
 have z_25 := Ext.tr z_21 x_26
 have q_33 := x_31.size
 have z_30 := Ext.tr z_25 x_31
 have u_28 := fun q hq => (OC_27.lt q hq).2
 have lo_29 := fun q hq => (OC_27.lt q hq).1
 refine fw rfl rfl (fun _ => fa HitS_fd_api_World_1 rfl) rfl <| fx rfl rfl rfl fun w_34 x_35 Q hK => ca HitS_en_slices_Clone_S_int_int_ rfl rfl ((clone_I _ _ W.stocks _ (hW.S.keep (Ext.tr z_30 x_35))).mono ?_)
 rintro e w_39 ⟨A_36, c_36, rfl, OC_36, hn_36, x_40⟩
 refine ⟨_, rfl, hK _ _ ⟨Ext.tr x_35 x_40, ?_⟩⟩
 have q_41 := x_35.size
 have z_34 := Ext.tr z_30 x_35
 have q_42 := x_40.size
 have z_39 := Ext.tr z_34 x_40
 have u_37 := fun q hq => (OC_36.lt q hq).2
 have lo_38 := fun q hq => (OC_36.lt q hq).1
 have B_5 := B_5.later (Ext.tr x_26 (Ext.tr x_31 (Ext.tr x_35 x_40)))
 refine fb rfl rfl rfl fun w_43 x_44 Q hK => st (new := [.int .i64 W.field.wide, .int .i64 W.field.high, .slice A_15 ((W.field.places).length) c_15, .slice A_27 ((W.bases).length) c_27, .slice a.S W.stocks.length a.s, .slice a.M W.mines.length a.m, .slice a.T W.troops.length a.t, .int .i64 W.next, .int .i64 W.now]) rfl rfl (B_5.later x_44) rfl HitS_sz_S_api_Cell rfl rfl rfl fun w_45 m_46 B_5 => hK _ _ ?_
 have q_48 := x_44.size
 have z_43 := Ext.tr z_39 x_44
 have q_49 := m_46.size
 have z_45 := Ext.mod z_43 m_46 (by simp only [List.mem_singleton, forall_eq]; omega)
 have q_47 := m_46.size
 refine fw rfl rfl (fun _ => fa HitS_fd_api_World_2 rfl) rfl <| fb rfl rfl rfl fun w_50 x_51 Q hK => st (new := [.int .i64 W.field.wide, .int .i64 W.field.high, .slice A_15 ((W.field.places).length) c_15, .slice A_27 ((W.bases).length) c_27, .slice A_36 ((W.stocks).length) c_36, .slice a.M W.mines.length a.m, .slice a.T W.troops.length a.t, .int .i64 W.next, .int .i64 W.now]) rfl rfl (B_5.later x_51) rfl HitS_sz_S_int rfl rfl rfl fun w_52 m_53 B_5 => hK _ _ ?_
 have q_55 := x_51.size
 have z_50 := Ext.tr z_45 x_51
 have q_56 := m_53.size
 have z_52 := Ext.mod z_50 m_53 (by simp only [List.mem_singleton, forall_eq]; omega)
 have q_54 := m_53.size
 refine fn fun w_57 x_58 => ?_
 have q_59 := x_58.size
 have z_57 := Ext.tr z_52 x_58
 refine nT <| sq <| ?_
 refine rd [(1, 0), (2, 2), (4, 0), (5, 2), (7, 3), (9, 3)] [0, 1, 3, 4, 2, 6, 5, 7, 8, 9] (by kernel_rfl) (by kernel_rfl) ?_
 refine fw rfl rfl (fun _ => fa HitS_fd_api_World_3 rfl) rfl <| ?_
 have B_5 := B_5.later x_58
 refine fq rfl rfl (fun _ x => ld rfl ((B_5.later x).one HitS_ag_S_int rfl)) rfl <| fw rfl rfl (fun _ => fa HitS_fd_api_World_4 rfl) rfl <| fq rfl rfl (fun _ x => ld rfl ((B_5.later x).one HitS_ag_S_api_Troop rfl)) rfl <| fx rfl rfl rfl fun w_60 x_61 Q hK => ca HitS_en_slices_Clone_S_int_int_ rfl rfl ((clone_I _ _ W.mines _ (hW.M.keep (Ext.tr z_57 x_61))).mono ?_)
 rintro e w_65 ⟨A_62, c_62, rfl, OC_62, hn_62, x_66⟩
 refine ⟨_, rfl, hK _ _ ⟨Ext.tr x_61 x_66, ?_⟩⟩
 have q_67 := x_61.size
 have z_60 := Ext.tr z_57 x_61
 have q_68 := x_66.size
 have z_65 := Ext.tr z_60 x_66
 have u_63 := fun q hq => (OC_62.lt q hq).2
 have lo_64 := fun q hq => (OC_62.lt q hq).1
 refine fw rfl rfl (fun _ => fa HitS_fd_api_World_3 rfl) rfl <| fx rfl rfl rfl fun w_69 x_70 Q hK => ca HitS_en_slices_Clone_S_api_Troop_api_Troop_ rfl rfl ((clone_T _ _ W.troops _ (hW.T.keep (Ext.tr z_65 x_70))).mono ?_)
 rintro e w_74 ⟨A_71, c_71, rfl, OC_71, hn_71, x_75⟩
 refine ⟨_, rfl, hK _ _ ⟨Ext.tr x_70 x_75, ?_⟩⟩
 have q_76 := x_70.size
 have z_69 := Ext.tr z_65 x_70
 have q_77 := x_75.size
 have z_74 := Ext.tr z_69 x_75
 have u_72 := fun q hq => (OC_71.lt q hq).2
 have lo_73 := fun q hq => (OC_71.lt q hq).1
 have B_5 := B_5.later (Ext.tr x_61 (Ext.tr x_66 (Ext.tr x_70 x_75)))
 refine fb rfl rfl rfl fun w_78 x_79 Q hK => st (new := [.int .i64 W.field.wide, .int .i64 W.field.high, .slice A_15 ((W.field.places).length) c_15, .slice A_27 ((W.bases).length) c_27, .slice A_36 ((W.stocks).length) c_36, .slice A_62 ((W.mines).length) c_62, .slice a.T W.troops.length a.t, .int .i64 W.next, .int .i64 W.now]) rfl rfl (B_5.later x_79) rfl HitS_sz_S_int rfl rfl rfl fun w_80 m_81 B_5 => hK _ _ ?_
 have q_83 := x_79.size
 have z_78 := Ext.tr z_74 x_79
 have q_84 := m_81.size
 have z_80 := Ext.mod z_78 m_81 (by simp only [List.mem_singleton, forall_eq]; omega)
 have q_82 := m_81.size
 refine fw rfl rfl (fun _ => fa HitS_fd_api_World_4 rfl) rfl <| fb rfl rfl rfl fun w_85 x_86 Q hK => st (new := [.int .i64 W.field.wide, .int .i64 W.field.high, .slice A_15 ((W.field.places).length) c_15, .slice A_27 ((W.bases).length) c_27, .slice A_36 ((W.stocks).length) c_36, .slice A_62 ((W.mines).length) c_62, .slice A_71 ((W.troops).length) c_71, .int .i64 W.next, .int .i64 W.now]) rfl rfl (B_5.later x_86) rfl HitS_sz_S_api_Troop rfl rfl rfl fun w_87 m_88 B_5 => hK _ _ ?_
 have q_90 := x_86.size
 have z_85 := Ext.tr z_80 x_86
 have q_91 := m_88.size
 have z_87 := Ext.mod z_85 m_88 (by simp only [List.mem_singleton, forall_eq]; omega)
 have q_89 := m_88.size
 refine fn fun w_92 x_93 => ?_
 have q_94 := x_93.size
 have z_92 := Ext.tr z_87 x_93
 refine nT <| sq <| rg <| ?_
 have B_5 := B_5.later x_93
 refine vl (ld rfl (B_5.all HitS_ag_api_World HitS_sz_api_World)) rfl <| ?_
 have B_12 := B_12.later x_19
 have B_12 := B_12.mod m_22 (by simp only [List.mem_singleton]; omega)
 have B_12 := B_12.later (Ext.tr x_26 (Ext.tr x_31 (Ext.tr x_35 (Ext.tr x_40 x_44))))
 have B_12 := B_12.mod m_46 (by simp only [List.mem_singleton]; omega)
 have B_12 := B_12.later x_51
 have B_12 := B_12.mod m_53 (by simp only [List.mem_singleton]; omega)
 have B_12 := B_12.later (Ext.tr x_58 (Ext.tr x_61 (Ext.tr x_66 (Ext.tr x_70 (Ext.tr x_75 x_79)))))
 have B_12 := B_12.mod m_81 (by simp only [List.mem_singleton]; omega)
 have B_12 := B_12.later x_86
 have B_12 := B_12.mod m_88 (by simp only [List.mem_singleton]; omega)
 have B_12 := B_12.later x_93
 refine st (new := [.int .i64 W.field.wide, .int .i64 W.field.high, .slice A_15 ((W.field.places).length) c_15, .slice A_27 ((W.bases).length) c_27, .slice A_36 ((W.stocks).length) c_36, .slice A_62 ((W.mines).length) c_62, .slice A_71 ((W.troops).length) c_71, .int .i64 W.next, .int .i64 W.now]) rfl rfl B_12 rfl HitS_sz_api_World rfl rfl rfl fun w_95 m_96 B_12 => ?_
 have q_98 := m_96.size
 have z_95 := Ext.mod z_92 m_96 (by simp only [List.mem_singleton, forall_eq]; omega)
 have q_97 := m_96.size
 refine nl <| nT <| rt <| tR (.cell rfl (B_12.all HitS_ag_api_World HitS_sz_api_World) .nil) <| ?_
 have OC_15 := OC_15.mod m_22 (fun q hq h => by have hb := List.mem_singleton.1 h; exfalso; (have := lo_17 q hq; omega))
 have OC_15 := OC_15.later (Ext.tr x_26 (Ext.tr x_31 (Ext.tr x_35 (Ext.tr x_40 x_44))))
 have OC_15 := OC_15.mod m_46 (fun q hq h => by have hb := List.mem_singleton.1 h; exfalso; (have := lo_17 q hq; omega))
 have OC_15 := OC_15.later x_51
 have OC_15 := OC_15.mod m_53 (fun q hq h => by have hb := List.mem_singleton.1 h; exfalso; (have := lo_17 q hq; omega))
 have OC_15 := OC_15.later (Ext.tr x_58 (Ext.tr x_61 (Ext.tr x_66 (Ext.tr x_70 (Ext.tr x_75 x_79)))))
 have OC_15 := OC_15.mod m_81 (fun q hq h => by have hb := List.mem_singleton.1 h; exfalso; (have := lo_17 q hq; omega))
 have OC_15 := OC_15.later x_86
 have OC_15 := OC_15.mod m_88 (fun q hq h => by have hb := List.mem_singleton.1 h; exfalso; (have := lo_17 q hq; omega))
 have OC_15 := OC_15.later x_93
 have OC_15 := OC_15.mod m_96 (fun q hq h => by have hb := List.mem_singleton.1 h; exfalso; (have := lo_17 q hq; omega))
 have OC_27 := OC_27.later (Ext.tr x_35 (Ext.tr x_40 x_44))
 have OC_27 := OC_27.mod m_46 (fun q hq h => by have hb := List.mem_singleton.1 h; exfalso; (have := lo_29 q hq; omega))
 have OC_27 := OC_27.later x_51
 have OC_27 := OC_27.mod m_53 (fun q hq h => by have hb := List.mem_singleton.1 h; exfalso; (have := lo_29 q hq; omega))
 have OC_27 := OC_27.later (Ext.tr x_58 (Ext.tr x_61 (Ext.tr x_66 (Ext.tr x_70 (Ext.tr x_75 x_79)))))
 have OC_27 := OC_27.mod m_81 (fun q hq h => by have hb := List.mem_singleton.1 h; exfalso; (have := lo_29 q hq; omega))
 have OC_27 := OC_27.later x_86
 have OC_27 := OC_27.mod m_88 (fun q hq h => by have hb := List.mem_singleton.1 h; exfalso; (have := lo_29 q hq; omega))
 have OC_27 := OC_27.later x_93
 have OC_27 := OC_27.mod m_96 (fun q hq h => by have hb := List.mem_singleton.1 h; exfalso; (have := lo_29 q hq; omega))
 have OC_36 := OC_36.later x_44
 have OC_36 := OC_36.mod m_46 (fun q hq h => by have hb := List.mem_singleton.1 h; exfalso; (have := lo_38 q hq; omega))
 have OC_36 := OC_36.later x_51
 have OC_36 := OC_36.mod m_53 (fun q hq h => by have hb := List.mem_singleton.1 h; exfalso; (have := lo_38 q hq; omega))
 have OC_36 := OC_36.later (Ext.tr x_58 (Ext.tr x_61 (Ext.tr x_66 (Ext.tr x_70 (Ext.tr x_75 x_79)))))
 have OC_36 := OC_36.mod m_81 (fun q hq h => by have hb := List.mem_singleton.1 h; exfalso; (have := lo_38 q hq; omega))
 have OC_36 := OC_36.later x_86
 have OC_36 := OC_36.mod m_88 (fun q hq h => by have hb := List.mem_singleton.1 h; exfalso; (have := lo_38 q hq; omega))
 have OC_36 := OC_36.later x_93
 have OC_36 := OC_36.mod m_96 (fun q hq h => by have hb := List.mem_singleton.1 h; exfalso; (have := lo_38 q hq; omega))
 have OC_62 := OC_62.later (Ext.tr x_70 (Ext.tr x_75 x_79))
 have OC_62 := OC_62.mod m_81 (fun q hq h => by have hb := List.mem_singleton.1 h; exfalso; (have := lo_64 q hq; omega))
 have OC_62 := OC_62.later x_86
 have OC_62 := OC_62.mod m_88 (fun q hq h => by have hb := List.mem_singleton.1 h; exfalso; (have := lo_64 q hq; omega))
 have OC_62 := OC_62.later x_93
 have OC_62 := OC_62.mod m_96 (fun q hq h => by have hb := List.mem_singleton.1 h; exfalso; (have := lo_64 q hq; omega))
 have OC_71 := OC_71.later x_79
 have OC_71 := OC_71.mod m_81 (fun q hq h => by have hb := List.mem_singleton.1 h; exfalso; (have := lo_73 q hq; omega))
 have OC_71 := OC_71.later x_86
 have OC_71 := OC_71.mod m_88 (fun q hq h => by have hb := List.mem_singleton.1 h; exfalso; (have := lo_73 q hq; omega))
 have OC_71 := OC_71.later x_93
 have OC_71 := OC_71.mod m_96 (fun q hq h => by have hb := List.mem_singleton.1 h; exfalso; (have := lo_73 q hq; omega))
 have hR := WOwn.of5 (Z := w.heap.size) (OC_15.down (by omega)) (OC_27.down (by omega)) (OC_36.down (by omega)) (OC_62.down (by omega)) (OC_71.down (by omega)) (fun q h1 h2 => by exfalso; (have := lo_29 q h1; (have := u_16 q h2; omega))) (fun q h1 h2 => by exfalso; (have := lo_38 q h1; (have := u_16 q h2; omega))) (fun q h1 h2 => by exfalso; (have := lo_38 q h1; (have := u_28 q h2; omega))) (fun q h1 h2 => by exfalso; (have := lo_64 q h1; (have := u_16 q h2; omega))) (fun q h1 h2 => by exfalso; (have := lo_64 q h1; (have := u_28 q h2; omega))) (fun q h1 h2 => by exfalso; (have := lo_64 q h1; (have := u_37 q h2; omega))) (fun q h1 h2 => by exfalso; (have := lo_73 q h1; (have := u_16 q h2; omega))) (fun q h1 h2 => by exfalso; (have := lo_73 q h1; (have := u_28 q h2; omega))) (fun q h1 h2 => by exfalso; (have := lo_73 q h1; (have := u_37 q h2; omega))) (fun q h1 h2 => by exfalso; (have := lo_73 q h1; (have := u_63 q h2; omega))) hW.nums
 exact ⟨⟨A_15, A_27, A_36, A_62, A_71, c_15, c_27, c_36, c_62, c_71⟩, rfl, hR, z_95⟩
set_option maxRecDepth 100000 in
set_option maxHeartbeats 400000 in
theorem struck_any (l : List Blw) (A : Option Addr) (c : Nat) (a : Wd.At) (W : Wd) (w : World) (hW : Wd.Has w a W) (hl : Blw.rep.SHas 16 w A c l) :
  Calls Try.prog 56 #[.agg ((Wd.cells a W).toArray), .slice A l.length c] w (StruckPost W l w) := by
 refine calls_W (n := 62) Try.func56 rfl rfl rfl ?_
 refine sq <| rg <| bx rfl rfl rfl rfl fun w_1 b_2 x_3 l_4 B_5 => ?_
 have q_6 := x_3.size
 have z_1 := Ext.tr (Ext.rf w) x_3
 have q_7 := B_5.lt
 refine al rfl HitS_zv_api_World rfl rfl fun w_8 b_9 x_10 l_11 B_12 => ?_
 have q_13 := x_10.size
 have z_8 := Ext.tr z_1 x_10
 have q_14 := B_12.lt
 refine vl (as_ rfl) rfl <| vl (as_ rfl) rfl <| nl <| nT <| sq <| rg <| ?_
 have B_5 := B_5.later x_10
 refine vl (ld rfl (B_5.all HitS_ag_api_World HitS_sz_api_World)) rfl <| vl (mv rfl) rfl <| ca HitS_en_hit_Blows rfl rfl ((blows_any a W l _ _ _ (hW.keep z_8) (hl.keep z_8)).mono ?_)
 rintro e w_18 ⟨A_15, c_15, rfl, OH_15, x_19⟩
 refine ⟨_, rfl, ?_⟩
 have q_20 := x_19.size
 have z_18 := Ext.tr z_8 x_19
 have u_16 := fun q hq => (OH_15.lt q hq).2
 have lo_17 := fun q hq => (OH_15.lt q hq).1
 refine vl (mv rfl) rfl <| vl (ex rfl rfl) rfl <| vl (ex rfl rfl) rfl <| vl (as_ rfl) rfl <| vl (as_ rfl) rfl <| nl <| nT <| sq <| sq <| rg <| vl (mv rfl) rfl <| vl (bne rfl rfl) rfl <| nl <| nT <| ?_
 refine cne rfl (fun h_21 => ?_) (fun h_21 => ?_)
 ·refine sq <| rg <| vl (v := .agg #[.int .i64 0, .int .i64 0, .slice none 0 0, .slice none 0 0, .slice none 0 0, .slice none 0 0, .slice none 0 0, .int .i64 0, .int .i64 0]) (bd rfl (by kernel_rfl)) rfl <| vl (mv rfl) rfl <| ?_
  have B_12 := B_12.later x_19
  refine st (new := [.int .i64 0, .int .i64 0, .slice none 0 0, .slice none 0 0, .slice none 0 0, .slice none 0 0, .slice none 0 0, .int .i64 0, .int .i64 0]) rfl rfl B_12 rfl HitS_sz_api_World rfl rfl rfl fun w_22 m_23 B_12 => ?_
  have q_25 := m_23.size
  have z_22 := Ext.mod z_18 m_23 (by simp only [List.mem_singleton, forall_eq]; omega)
  have q_24 := m_23.size
  refine vl (as_ rfl) rfl <| vl (as_ rfl) rfl <| nl <| nT <| rt <| tT <| tR (.cell rfl (B_12.all HitS_ag_api_World HitS_sz_api_World) (.tmp rfl (.tmp rfl .nil))) <| ?_
  obtain ⟨e1, e2⟩ := struck_no h_21
  exact ⟨⟨none, none, none, none, none, 0, 0, 0, 0, 0⟩, none, 0, by rw [e1, e2]; rfl, by rw [e1]; exact WOwn.zero _ _, by rw [e2]; exact Rep.SOwn.nil _, fun q hq => by simp [Rep.blkOf] at hq, z_22⟩
 ·obtain ⟨hc, h200⟩ := blowE_ok h_21
  have hG := Good.of_chk hc
  have hnt := hG.nt
  obtain ⟨b1, b2⟩ := harm_of h_21
  have hok := trp_ok hW.T
  have hlf := fun k (hk : k < W.troops.length) => hG.lifeD hk
  refine sk <| nT <| sq <| rg <| ?_
  have B_5 := B_5.later x_19
  refine vl (ld rfl (B_5.all HitS_ag_api_World HitS_sz_api_World)) rfl <| ca HitS_en_hit_own rfl rfl ((hown_any a W _ (hW.keep z_18)).mono ?_)
  rintro e w_28 ⟨a1, rfl, HO, x_29⟩
  refine ⟨_, rfl, ?_⟩
  have q_30 := x_29.size
  have z_28 := Ext.tr z_18 x_29
  have u_26 := fun q hq => (HO.lt q hq).2
  have lo_27 := fun q hq => (HO.lt q hq).1
  have B_5 := B_5.later x_29
  refine st rfl rfl B_5 rfl HitS_sz_api_World rfl rfl rfl fun w_31 m_32 B_5 => ?_
  have q_34 := m_32.size
  have z_31 := Ext.mod z_28 m_32 (by simp only [List.mem_singleton, forall_eq]; omega)
  have q_33 := m_32.size
  refine nl <| nT <| sq <| rg <| vl (as_ rfl) rfl <| nl <| nT <| sq <| rg <| vl (fa HitS_fd_api_World_4 rfl) rfl <| vl (ld rfl (B_5.one HitS_ag_S_api_Troop rfl)) rfl <| vl (ln Try.underlying56 rfl) rfl <| mZ (R := Trp.rep) (by_ := 56) (B := w.heap.size) (c := W.troops.length) (zv := Trp.zero) Rep.flat_plain Try.underlying56 Trp.info rfl (by decide) Trp.zero_raw rfl rfl rfl (by omega) (by omega) (by omega) fun w_35 b_36 x_37 l_38 O_39 => ?_
  have q_40 := x_37.size
  have z_35 := Ext.tr z_31 x_37
  have u_41 := fun q hq => (O_39.lt q hq).2
  have lo_42 : ∀ q ∈ Rep.blkOf (some ⟨b_36, 0, none⟩), b_36 ≤ q := fun q hq => Nat.le_of_eq (List.mem_singleton.1 hq).symm
  refine vl (as_ rfl) rfl <| nl <| nT <| sq <| sq <| rg <| vl (fa HitS_fd_api_World_4 rfl) rfl <| ?_
  have B_5 := B_5.later x_37
  refine vl (ld rfl (B_5.one HitS_ag_S_api_Troop rfl)) rfl <| vl (ln Try.underlying56 rfl) rfl <| vl (mv rfl) rfl <| nl <| nT <| bk <| ?_
  have OH_15 := OH_15.later x_29
  have OH_15 := OH_15.mod m_32 (fun q hq h => by have hb := List.mem_singleton.1 h; exfalso; (have := lo_17 q hq; omega))
  have OH_15 := OH_15.later x_37
  have HO := HO.mod m_32 (fun q hq h => by have hb := List.mem_singleton.1 h; exfalso; (have := lo_27 q hq; omega))
  have HO := HO.later x_37
  have B_12 := B_12.later (Ext.tr x_19 x_29)
  have B_12 := B_12.mod m_32 (by simp only [List.mem_singleton]; omega)
  have B_12 := B_12.later x_37
  refine lp (fun mI EI wI => ∃ k : Nat, ∃ Al : Option Addr, ∃ cl : Nat, ∃ Ag : Option Addr, ∃ cg : Nat, EI = [(2, .pointer (some ⟨b_2, 0, none⟩)), (4, .pointer (some ⟨b_9, 0, none⟩)), (5, .slice none 0 0), (6, .int .i64 0), (7, .slice A_15 ((harmW W l).length) c_15), (9, .slice Ag ((goneL W.troops (harmW W l) k).length) cg), (10, .slice Al ((leftL W.troops (harmW W l) k).length) cl), (30, .slice a1.T W.troops.length a1.t), (31, .int .i64 (W.troops.length : Int)), (32, .int .i64 (k : Int))] ∧ mI = W.troops.length - k ∧ Ext w wI ∧ Blk wI b_2 (Wd.cells a1 W) 58 (0, 0) ∧ Blk wI b_9 [.int .i64 0, .int .i64 0, .slice none 0 0, .slice none 0 0, .slice none 0 0, .slice none 0 0, .slice none 0 0, .int .i64 0, .int .i64 0] 58 (0, 0) ∧ repI.SOwn 3 8 wI w_8.heap.size (Rep.blkOf A_15) A_15 c_15 (harmW W l) ∧ WOwn wI w_18.heap.size a1 W ∧ Trp.rep.SOwn 80 56 wI w.heap.size (Rep.blkOf Al) Al cl (leftL W.troops (harmW W l) k) ∧ repI.SOwn 3 8 wI w.heap.size (Rep.blkOf Ag) Ag cg (goneL W.troops (harmW W l) k) ∧ (k ≤ W.troops.length) ∧ (∀ q ∈ Rep.blkOf Al, q = b_2 → False) ∧ (∀ q ∈ Rep.blkOf Al, q = b_9 → False) ∧ (∀ q ∈ Rep.blkOf Al, q ∈ WOwn.foot a1 → False) ∧ (∀ q ∈ Rep.blkOf Al, q ∈ Rep.blkOf A_15 → False) ∧ (∀ q ∈ Rep.blkOf Ag, q = b_2 → False) ∧ (∀ q ∈ Rep.blkOf Ag, q = b_9 → False) ∧ (∀ q ∈ Rep.blkOf Ag, q ∈ WOwn.foot a1 → False) ∧ (∀ q ∈ Rep.blkOf Ag, q ∈ Rep.blkOf A_15 → False) ∧ (∀ q ∈ Rep.blkOf Ag, q ∈ Rep.blkOf Al → False)) _ _ ⟨0, some ⟨b_36, 0, none⟩, W.troops.length, none, 0, rfl, rfl, z_35, B_5, B_12, OH_15, HO, O_39, (Rep.SOwn.nil _), by omega, (fun q hq hb => by (have := lo_42 q hq; omega)), (fun q hq hb => by (have := lo_42 q hq; omega)), (fun q hq hb => by (have := lo_42 q hq; (have := u_26 q hb; omega))), (fun q hq hb => by (have := lo_42 q hq; (have := u_16 q hb; omega))), (fun q hq hb => by (simp [Rep.blkOf] at hq)), (fun q hq hb => by (simp [Rep.blkOf] at hq)), (fun q hq hb => by (simp [Rep.blkOf] at hq)), (fun q hq hb => by (simp [Rep.blkOf] at hq)), (fun q hq hb => by (simp [Rep.blkOf] at hq))⟩ (.cons rfl (.cons rfl (.cons rfl (.cons rfl (.cons rfl (.cons rfl (.cons rfl (.cons rfl (.cons rfl (.cons (loI rfl (by first | omega | rfl | (simp <;> omega))) .nil)))))))))) ?_
  rintro m_53 E_54 w_52 ⟨k, Al, cl, Ag, cg, rfl, rfl, z_52, B_5, B_12, OH_15, HO, OL, OG, hk, d_43, d_44, d_45, d_46, d_47, d_48, d_49, d_50, d_51⟩
  have q_55 := z_52.size
  have q_56 := B_5.lt
  have q_57 := B_12.lt
  have u_58 := fun q hq => (OH_15.lt q hq).2
  have u_59 := fun q hq => (HO.lt q hq).2
  have u_60 := fun q hq => (OL.lt q hq).2
  have u_61 := fun q hq => (OG.lt q hq).2
  have n1 := left_len W.troops (harmW W l) k
  have n2 := gone_len W.troops (harmW W l) k
  refine sq <| rg <| vl (blt rfl rfl) rfl <| nl <| nT <| sq <| ?_
  refine clt rfl (fun h_62 => ?_) (fun h_62 => ?_)
  ·obtain ⟨v1, v2⟩ := b2 k
   have hlk := hlf k (by omega)
   refine sk <| nT <| sq <| bk <| sq <| rg <| vl (mv rfl) rfl <| vl (iA k Try.underlying56 HitS_sz_api_Troop rfl rfl (HO.T.has.adr (Nat.zero_lt_of_lt (show k < _ from (by omega)))) rfl (by omega)) rfl <| vl (ld rfl (Rep.SHas.elt hcT (HO.T.has.adh (Nat.zero_lt_of_lt (show k < _ from (by omega)))) (get_d (l := W.troops) (u := default) (by omega)) HitS_ag_api_Troop HitS_sz_api_Troop)) rfl <| al rfl HitS_zv_api_Troop rfl rfl fun w_63 b_64 x_65 l_66 B_67 => ?_
   have q_68 := x_65.size
   have z_63 := Ext.tr z_52 x_65
   have q_69 := B_67.lt
   refine vl (as_ rfl) rfl <| st (new := [.int .i64 ((W.troops.getD k default).id), .int .i64 ((W.troops.getD k default).owner), .int .i64 ((W.troops.getD k default).kind), .int .i64 ((W.troops.getD k default).spot.x), .int .i64 ((W.troops.getD k default).spot.y), .int .i64 ((W.troops.getD k default).life), .int .i64 ((W.troops.getD k default).load)]) rfl rfl B_67 rfl HitS_sz_api_Troop rfl rfl rfl fun w_70 m_71 B_67 => ?_
   have q_73 := m_71.size
   have z_70 := Ext.mod z_63 m_71 (by simp only [List.mem_singleton, forall_eq]; omega)
   have q_72 := m_71.size
   refine nl <| nT <| sq <| ?_
   refine rd [(1, 0), (5, 0), (8, 3)] [0, 1, 2, 3, 4, 5, 6, 7, 8] (by kernel_rfl) (by kernel_rfl) ?_
   refine fw rfl rfl (fun _ => fa HitS_fd_api_Troop_4 rfl) rfl <| fq rfl rfl (fun _ x => ld rfl ((B_67.later x).one HitS_ag_int rfl)) rfl <| fw rfl rfl (fun _ => mv rfl) rfl <| fw rfl rfl (fun _ => mv rfl) rfl <| ?_
   have OH_15 := OH_15.later x_65
   have OH_15 := OH_15.mod m_71 (fun q hq h => by have hb := List.mem_singleton.1 h; exfalso; (have := u_58 q hq; have := u_16 q hq; omega))
   refine fw rfl rfl (fun _ => iA k Try.underlying34 HitS_sz_int rfl rfl (OH_15.has.adr (Nat.zero_lt_of_lt (show k < _ from (by omega)))) rfl (by omega)) rfl <| fq rfl rfl (fun _ x => ld rfl (Rep.SHas.one' hcI ((OH_15.later x).has.adh (Nat.zero_lt_of_lt (show k < _ from (by omega)))) (get_d (l := harmW W l) (u := 0) (by omega)) rfl HitS_ag_int)) rfl <| fw rfl rfl (fun _ => bsu rfl rfl (inI (by omega))) rfl <| fw rfl rfl (fun _ => fa HitS_fd_api_Troop_4 rfl) rfl <| fb rfl rfl rfl fun w_74 x_75 Q hK => st (new := [.int .i64 ((W.troops.getD k default).id), .int .i64 ((W.troops.getD k default).owner), .int .i64 ((W.troops.getD k default).kind), .int .i64 ((W.troops.getD k default).spot.x), .int .i64 ((W.troops.getD k default).spot.y), .int .i64 (((W.troops.getD k default).life) - ((harmW W l).getD k 0)), .int .i64 ((W.troops.getD k default).load)]) rfl rfl (B_67.later x_75) rfl HitS_sz_int rfl rfl rfl fun w_76 m_77 B_67 => hK _ _ ?_
   have q_79 := x_75.size
   have z_74 := Ext.tr z_70 x_75
   have q_80 := m_77.size
   have z_76 := Ext.mod z_74 m_77 (by simp only [List.mem_singleton, forall_eq]; omega)
   have q_78 := m_77.size
   refine fn fun w_81 x_82 => ?_
   have q_83 := x_82.size
   have z_81 := Ext.tr z_76 x_82
   refine nT <| sq <| rg <| vl (fa HitS_fd_api_Troop_4 rfl) rfl <| ?_
   have B_67 := B_67.later x_82
   refine vl (ld rfl (B_67.one HitS_ag_int rfl)) rfl <| vl (bgt rfl rfl) rfl <| nl <| nT <| ?_
   refine clt rfl (fun h_84 => ?_) (fun h_84 => ?_)
   ·refine rg <| vl (mv rfl) rfl <| vl (ld rfl (B_67.all HitS_ag_api_Troop HitS_sz_api_Troop)) rfl <| bs (e := 80) (cs := [.int .i64 ((W.troops.getD k default).id), .int .i64 ((W.troops.getD k default).owner), .int .i64 ((W.troops.getD k default).kind), .int .i64 ((W.troops.getD k default).spot.x), .int .i64 ((W.troops.getD k default).spot.y), .int .i64 (((W.troops.getD k default).life) - ((harmW W l).getD k 0)), .int .i64 ((W.troops.getD k default).load)]) rfl (fun _ => by kernel_rfl) rfl fun w_85 b_86 x_87 l_88 B_89 => ?_
    have q_90 := x_87.size
    have z_85 := Ext.tr z_81 x_87
    have q_91 := B_89.lt
    have OL := OL.later x_65
    have OL := OL.mod m_71 (fun q hq h => by have hb := List.mem_singleton.1 h; exfalso; (have := u_60 q hq; omega))
    have OL := OL.later x_75
    have OL := OL.mod m_77 (fun q hq h => by have hb := List.mem_singleton.1 h; exfalso; (have := u_60 q hq; omega))
    have OL := OL.later (Ext.tr x_82 x_87)
    refine ap HitS_el_S_api_Troop Rep.flat_bare OL (Blk.has1 (R := Trp.rep) (by_ := 56) (q := (⟨(W.troops.getD k default).id, (W.troops.getD k default).owner, (W.troops.getD k default).kind, ⟨(W.troops.getD k default).spot.x, (W.troops.getD k default).spot.y⟩, ((W.troops.getD k default).life) - ((harmW W l).getD k 0), (W.troops.getD k default).load⟩ : Trp)) B_89 ⟨rfl, by obtain ⟨o1, o2, o3, o4, o5, o6, o7⟩ := hok k; exact ⟨o1, o2, o3, o4, o5, okI_iff.2 (by (try dsimp only); omega), o7⟩⟩ (by decide)) rfl rfl (by simp only [List.length_cons, List.length_nil]; omega) (by simp only [List.length_cons, List.length_nil]; omega) z_85.size rfl fun w_92 A_93 c_94 m_95 O_96 g_97 n_98 => ?_
    have q_99 := m_95.size
    have z_92 := Ext.mod z_85 m_95 (fun q hq => (OL.lt q hq).1)
    have u_100 := fun q hq => (O_96.lt q hq).2
    have q_101 := m_95.size
    refine vl (as_ rfl) rfl <| nl <| nB <| nT <| rg <| vl (bad rfl rfl (inI (by omega))) rfl <| vl (mv rfl) rfl <| nl <| ?_
    have e1 : leftL W.troops (harmW W l) (k + 1) = leftL W.troops (harmW W l) k ++ [(⟨(W.troops.getD k default).id, (W.troops.getD k default).owner, (W.troops.getD k default).kind, ⟨(W.troops.getD k default).spot.x, (W.troops.getD k default).spot.y⟩, ((W.troops.getD k default).life) - ((harmW W l).getD k 0), (W.troops.getD k default).load⟩ : Trp)] := by rw [left_succ_yes h_84]; try rfl
    have e2 : goneL W.troops (harmW W l) (k + 1) = goneL W.troops (harmW W l) k := by rw [gone_succ_yes h_84]; try rfl
    have B_5 := B_5.later x_65
    have B_5 := B_5.mod m_71 (by simp only [List.mem_singleton]; omega)
    have B_5 := B_5.later x_75
    have B_5 := B_5.mod m_77 (by simp only [List.mem_singleton]; omega)
    have B_5 := B_5.later (Ext.tr x_82 x_87)
    have B_5 := B_5.mod m_95 (fun hq => d_43 _ hq rfl)
    have B_12 := B_12.later x_65
    have B_12 := B_12.mod m_71 (by simp only [List.mem_singleton]; omega)
    have B_12 := B_12.later x_75
    have B_12 := B_12.mod m_77 (by simp only [List.mem_singleton]; omega)
    have B_12 := B_12.later (Ext.tr x_82 x_87)
    have B_12 := B_12.mod m_95 (fun hq => d_44 _ hq rfl)
    have OH_15 := OH_15.later x_75
    have OH_15 := OH_15.mod m_77 (fun q hq h => by have hb := List.mem_singleton.1 h; exfalso; (have := u_58 q hq; have := u_16 q hq; omega))
    have OH_15 := OH_15.later (Ext.tr x_82 x_87)
    have OH_15 := OH_15.mod m_95 (fun q hq h => by exfalso; (exact d_46 q h hq))
    have HO := HO.later x_65
    have HO := HO.mod m_71 (fun q hq h => by have hb := List.mem_singleton.1 h; exfalso; (have := u_59 q hq; have := u_26 q hq; omega))
    have HO := HO.later x_75
    have HO := HO.mod m_77 (fun q hq h => by have hb := List.mem_singleton.1 h; exfalso; (have := u_59 q hq; have := u_26 q hq; omega))
    have HO := HO.later (Ext.tr x_82 x_87)
    have HO := HO.mod m_95 (fun q hq h => by exfalso; (exact d_45 q h hq))
    have OG := OG.later x_65
    have OG := OG.mod m_71 (fun q hq h => by have hb := List.mem_singleton.1 h; exfalso; (have := u_61 q hq; omega))
    have OG := OG.later x_75
    have OG := OG.mod m_77 (fun q hq h => by have hb := List.mem_singleton.1 h; exfalso; (have := u_61 q hq; omega))
    have OG := OG.later (Ext.tr x_82 x_87)
    have OG := OG.mod m_95 (fun q hq h => by exfalso; (exact d_51 q hq h))
    exact nI _ _ ⟨k + 1, A_93, c_94, Ag, cg, rfl, rfl, z_92, B_5, B_12, OH_15, HO, (by rw [e1]; exact O_96), (by rw [e2]; exact OG), by omega, (fun q hq hb => by (exact Or.elim (g_97 q hq) (fun k_102 => by (exact d_43 q k_102 hb)) (fun k_102 => by omega))), (fun q hq hb => by (exact Or.elim (g_97 q hq) (fun k_103 => by (exact d_44 q k_103 hb)) (fun k_103 => by omega))), (fun q hq hb => by (exact Or.elim (g_97 q hq) (fun k_104 => by (exact d_45 q k_104 hb)) (fun k_104 => by (have := u_59 q hb; have := u_26 q hb; omega)))), (fun q hq hb => by (exact Or.elim (g_97 q hq) (fun k_105 => by (exact d_46 q k_105 hb)) (fun k_105 => by (have := u_58 q hb; have := u_16 q hb; omega)))), (fun q hq hb => by (exact d_47 q hq hb)), (fun q hq hb => by (exact d_48 q hq hb)), (fun q hq hb => by (exact d_49 q hq hb)), (fun q hq hb => by (exact d_50 q hq hb)), (fun q hq hb => by (exact Or.elim (g_97 q hb) (fun k_106 => by (exact d_51 q hq k_106)) (fun k_106 => by (have := u_61 q hq; omega))))⟩ (by omega) (.cons rfl (.cons rfl (.cons rfl (.cons rfl (.cons rfl (.cons (by rw [e2]; rfl) (.cons (by rw [e1]; rfl) (.cons rfl (.cons rfl (.cons (loI rfl (by first | omega | rfl | (simp <;> omega))) .nil))))))))))
   ·refine rg <| vl (mv rfl) rfl <| vl (fa HitS_fd_api_Troop_0 rfl) rfl <| vl (ld rfl (B_67.one HitS_ag_int rfl)) rfl <| bs (e := 3) (cs := [.int .i64 ((W.troops.getD k default).id)]) rfl (fun _ => by kernel_rfl) rfl fun w_107 b_108 x_109 l_110 B_111 => ?_
    have q_112 := x_109.size
    have z_107 := Ext.tr z_81 x_109
    have q_113 := B_111.lt
    have OG := OG.later x_65
    have OG := OG.mod m_71 (fun q hq h => by have hb := List.mem_singleton.1 h; exfalso; (have := u_61 q hq; omega))
    have OG := OG.later x_75
    have OG := OG.mod m_77 (fun q hq h => by have hb := List.mem_singleton.1 h; exfalso; (have := u_61 q hq; omega))
    have OG := OG.later (Ext.tr x_82 x_109)
    refine ap HitS_el_S_int Rep.flat_bare OG (Blk.has1 (R := repI) (by_ := 8) (q := (W.troops.getD k default).id) B_111 ⟨rfl, (hok k).1⟩ (by decide)) rfl rfl (by simp only [List.length_cons, List.length_nil]; omega) (by simp only [List.length_cons, List.length_nil]; omega) z_107.size rfl fun w_114 A_115 c_116 m_117 O_118 g_119 n_120 => ?_
    have q_121 := m_117.size
    have z_114 := Ext.mod z_107 m_117 (fun q hq => (OG.lt q hq).1)
    have u_122 := fun q hq => (O_118.lt q hq).2
    have q_123 := m_117.size
    refine vl (as_ rfl) rfl <| nl <| nB <| nT <| rg <| vl (bad rfl rfl (inI (by omega))) rfl <| vl (mv rfl) rfl <| nl <| ?_
    have e1 : leftL W.troops (harmW W l) (k + 1) = leftL W.troops (harmW W l) k := by rw [left_succ_no h_84]; try rfl
    have e2 : goneL W.troops (harmW W l) (k + 1) = goneL W.troops (harmW W l) k ++ [(W.troops.getD k default).id] := by rw [gone_succ_no h_84]; try rfl
    have B_5 := B_5.later x_65
    have B_5 := B_5.mod m_71 (by simp only [List.mem_singleton]; omega)
    have B_5 := B_5.later x_75
    have B_5 := B_5.mod m_77 (by simp only [List.mem_singleton]; omega)
    have B_5 := B_5.later (Ext.tr x_82 x_109)
    have B_5 := B_5.mod m_117 (fun hq => d_47 _ hq rfl)
    have B_12 := B_12.later x_65
    have B_12 := B_12.mod m_71 (by simp only [List.mem_singleton]; omega)
    have B_12 := B_12.later x_75
    have B_12 := B_12.mod m_77 (by simp only [List.mem_singleton]; omega)
    have B_12 := B_12.later (Ext.tr x_82 x_109)
    have B_12 := B_12.mod m_117 (fun hq => d_48 _ hq rfl)
    have OH_15 := OH_15.later x_75
    have OH_15 := OH_15.mod m_77 (fun q hq h => by have hb := List.mem_singleton.1 h; exfalso; (have := u_58 q hq; have := u_16 q hq; omega))
    have OH_15 := OH_15.later (Ext.tr x_82 x_109)
    have OH_15 := OH_15.mod m_117 (fun q hq h => by exfalso; (exact d_50 q h hq))
    have HO := HO.later x_65
    have HO := HO.mod m_71 (fun q hq h => by have hb := List.mem_singleton.1 h; exfalso; (have := u_59 q hq; have := u_26 q hq; omega))
    have HO := HO.later x_75
    have HO := HO.mod m_77 (fun q hq h => by have hb := List.mem_singleton.1 h; exfalso; (have := u_59 q hq; have := u_26 q hq; omega))
    have HO := HO.later (Ext.tr x_82 x_109)
    have HO := HO.mod m_117 (fun q hq h => by exfalso; (exact d_49 q h hq))
    have OL := OL.later x_65
    have OL := OL.mod m_71 (fun q hq h => by have hb := List.mem_singleton.1 h; exfalso; (have := u_60 q hq; omega))
    have OL := OL.later x_75
    have OL := OL.mod m_77 (fun q hq h => by have hb := List.mem_singleton.1 h; exfalso; (have := u_60 q hq; omega))
    have OL := OL.later (Ext.tr x_82 x_109)
    have OL := OL.mod m_117 (fun q hq h => by exfalso; (exact d_51 q h hq))
    exact nI _ _ ⟨k + 1, Al, cl, A_115, c_116, rfl, rfl, z_114, B_5, B_12, OH_15, HO, (by rw [e1]; exact OL), (by rw [e2]; exact O_118), by omega, (fun q hq hb => by (exact d_43 q hq hb)), (fun q hq hb => by (exact d_44 q hq hb)), (fun q hq hb => by (exact d_45 q hq hb)), (fun q hq hb => by (exact d_46 q hq hb)), (fun q hq hb => by (exact Or.elim (g_119 q hq) (fun k_124 => by (exact d_47 q k_124 hb)) (fun k_124 => by omega))), (fun q hq hb => by (exact Or.elim (g_119 q hq) (fun k_125 => by (exact d_48 q k_125 hb)) (fun k_125 => by omega))), (fun q hq hb => by (exact Or.elim (g_119 q hq) (fun k_126 => by (exact d_49 q k_126 hb)) (fun k_126 => by (have := u_59 q hb; have := u_26 q hb; omega)))), (fun q hq hb => by (exact Or.elim (g_119 q hq) (fun k_127 => by (exact d_50 q k_127 hb)) (fun k_127 => by (have := u_58 q hb; have := u_16 q hb; omega)))), (fun q hq hb => by (exact Or.elim (g_119 q hq) (fun k_128 => by (exact d_51 q k_128 hb)) (fun k_128 => by (have := u_60 q hb; omega))))⟩ (by omega) (.cons rfl (.cons rfl (.cons rfl (.cons rfl (.cons rfl (.cons (by rw [e2]; rfl) (.cons (by rw [e1]; rfl) (.cons rfl (.cons rfl (.cons (loI rfl (by first | omega | rfl | (simp <;> omega))) .nil))))))))))
  ·refine xt <| xT <| xK <| xB <| nT <| sq <| rg <| vl (mv rfl) rfl <| vl (fa HitS_fd_api_World_4 rfl) rfl <| st (new := [.int .i64 W.field.wide, .int .i64 W.field.high, .slice a1.P W.field.places.length a1.p, .slice a1.B W.bases.length a1.b, .slice a1.S W.stocks.length a1.s, .slice a1.M W.mines.length a1.m, .slice Al ((leftL W.troops (harmW W l) k).length) cl, .int .i64 W.next, .int .i64 W.now]) rfl rfl B_5 rfl HitS_sz_S_api_Troop rfl rfl rfl fun w_129 m_130 B_5 => ?_
   have q_132 := m_130.size
   have z_129 := Ext.mod z_52 m_130 (by simp only [List.mem_singleton, forall_eq]; omega)
   have q_131 := m_130.size
   refine nl <| nT <| sq <| rg <| vl (ld rfl (B_5.all HitS_ag_api_World HitS_sz_api_World)) rfl <| vl (mv rfl) rfl <| ?_
   have B_12 := B_12.mod m_130 (by simp only [List.mem_singleton]; omega)
   refine st (new := [.int .i64 W.field.wide, .int .i64 W.field.high, .slice a1.P W.field.places.length a1.p, .slice a1.B W.bases.length a1.b, .slice a1.S W.stocks.length a1.s, .slice a1.M W.mines.length a1.m, .slice Al ((leftL W.troops (harmW W l) k).length) cl, .int .i64 W.next, .int .i64 W.now]) rfl rfl B_12 rfl HitS_sz_api_World rfl rfl rfl fun w_133 m_134 B_12 => ?_
   have q_136 := m_134.size
   have z_133 := Ext.mod z_129 m_134 (by simp only [List.mem_singleton, forall_eq]; omega)
   have q_135 := m_134.size
   refine vl (as_ rfl) rfl <| vl (as_ rfl) rfl <| nl <| nT <| rt <| tR (.cell rfl (B_12.all HitS_ag_api_World HitS_sz_api_World) (.tmp rfl (.tmp rfl .nil))) <| ?_
   have HO := HO.mod m_130 (fun q hq h => by have hb := List.mem_singleton.1 h; exfalso; (have := lo_27 q hq; omega))
   have HO := HO.mod m_134 (fun q hq h => by have hb := List.mem_singleton.1 h; exfalso; (have := lo_27 q hq; omega))
   have OL := OL.mod m_130 (fun q hq h => by have hb := List.mem_singleton.1 h; exfalso; (exact d_43 q hq hb))
   have OL := OL.mod m_134 (fun q hq h => by have hb := List.mem_singleton.1 h; exfalso; (exact d_44 q hq hb))
   have OG := OG.mod m_130 (fun q hq h => by have hb := List.mem_singleton.1 h; exfalso; (exact d_47 q hq hb))
   have OG := OG.mod m_134 (fun q hq h => by have hb := List.mem_singleton.1 h; exfalso; (exact d_48 q hq hb))
   obtain ⟨e1, e2⟩ := struck_ok h_21 (k := k) (by omega)
   have hT := WOwn.newT (HO.down (by omega)) OL (fun q h1 h2 => by exfalso; (exact d_45 q h1 h2))
   refine ⟨{ a1 with T := Al, t := cl }, Ag, cg, by rw [h_21, e1, e2]; rfl, by rw [e1]; exact hT, by rw [e2]; exact OG, fun q hq => ?_, z_133⟩
   intro hf
   rcases foot_newT hf with h1 | h1
   ·exfalso; (exact d_49 q hq h1)
   ·exfalso; (exact d_51 q hq h1)
end Go.Proofs.Ytokehopkfnipmaa
