import Derived.Test.YtokehopkfnipmaaBas
import Derived.Test.YtokehopkfnipmaaTroA4
import Derived.Test.YtokehopkfnipmaaGol
import Derived.Test.YtokehopkfnipmaaWld
import Derived.Test.YtokehopkfnipmaaLinG
import Derived.Test.YtokehopkfnipmaaRpt
import Derived.Test.YtokehopkfnipmaaProg
set_option linter.unusedVariables false
set_option linter.unusedSimpArgs false
namespace Go.Proofs.Ytokehopkfnipmaa
open Go.RowKit

set_option maxRecDepth 100000 in
set_option maxHeartbeats 1000000 in
theorem clone_I (A : Option Addr) (c : Nat) (l : List Int) (w : World) (h : repI.SHas 8 w A c l) :
  Calls Try.prog 104 #[.slice A l.length c] w fun e w' => ∃ A' c', e = .returned (.slice A' l.length c') ∧ repI.SOwn 3 8 w' w.heap.size (Rep.blkOf A') A' c' l ∧ (A' = none ↔ A = none) ∧ Below w.heap.size w w' := by
 obtain ⟨i0, hi, hz0, hz1, hz2⟩ := info_parts info_int
 have qnil : ∀ (w : World) (a : Option Addr) (n c n' c' : Nat), (binOp .eql 34 (.slice a n c) (.slice none n' c')).run Try.prog w = .ok (.bool a.isNone) w := fun w a n c n' c' => Lib.run_eql_slice_nil w _ _ a n c n' c' Try.underlying34
 cases A with
 | none =>
  obtain rfl : c = 0 := h.2.2.2.1 rfl
  obtain rfl : l = [] := List.eq_nil_of_length_eq_zero (by have := h.1; omega)
  go_enter Try.func104, Try.ntmps104
  go_wp2_with fail
  go_ret
  exact ⟨none, 0, rfl, Rep.SOwn.nil _, by simp, Below.refl _ _⟩
 | some a =>
  have hb0 : Below w.heap.size w (w.alloc (.cells #[] 3)) := (Below.refl _ w).alloc (Nat.le_refl _) _
  obtain ⟨n, HN⟩ : ∃ n, Hid (l.length = n) := ⟨_, Lib.hid rfl⟩
  obtain ⟨h1, h2, h3, h4, ess, h5, h6⟩ := h.keep hb0
  have H5 := Lib.hid h5
  have hone : ∀ u ∈ ess.flatten, u.oneCell' = true := by
   intro u hu
   obtain ⟨y, hy, hu⟩ := List.mem_flatten.1 hu
   obtain ⟨a, ha⟩ := h5.left y hy
   exact repI.one ha u hu
  have hraw : ∀ (j : Nat) u, ess.flatten[j]? = some u → repI.raw (j % repI.size) u := fun j u hu => flat_raw h5 (by decide) hu
  rw [HN.out] at h1 h3 h6
  have HR := Lib.hid h6
  have HE := Lib.hid (Own.empty (e := 3) (size := repI.size) (G := repI.raw) w (Nat.le_refl w.heap.size))
  clear h h4 h5 h6
  rw [HN.out]
  go_enter Try.func104, Try.ntmps104
  go_wp2_with (at_builtin; refine wpList_append_all _ rfl _ _ 34 rfl w.heap.size 3 i0 (.int .i64 0) repI.size 8 Try.underlying34 hi hz0 hz1 hz2 rfl (by decide) repI.raw zI _ _ _ rfl HE.out (some a) n c ess.flatten rfl HR.out hone hraw ?qc4 ?qc5 ?qc6 ?_)
  case qc4 => unfold maxLen; omega
  case qc5 => omega
  case qc6 => simp
  intro v' w1 hown hgrow hnil hat
  have hb1 := hb0.grown hgrow (by simp) (by intro k hk; simp [Value.ownBlock] at hk; omega)
  obtain ⟨A1, c1, rfl, hle, _, _, _, hnn⟩ := hown.shape
  have hA1 : A1 ≠ none := by
   intro h
   subst h
   exact hnil (hnn rfl)
  have HO : Hid (repI.SOwn 3 8 w1 w.heap.size (Rep.blkOf A1) A1 c1 l) := Lib.hid (Rep.SOwn.of_plain repI_plain H5.out (by rw [HN.out]; exact h3) (by rw [HN.out]; simpa using hown))
  have HA1 := Lib.hid hA1
  clear hgrow hnil hat hown hA1 hnn hone hraw
  go_wp2_with fail
  go_ret
  exact ⟨A1, c1, rfl, HO.out, ⟨fun h => absurd h HA1.out, fun h => by cases h⟩, hb1⟩
set_option maxRecDepth 100000 in
set_option maxHeartbeats 1000000 in
theorem clone_C (A : Option Addr) (c : Nat) (l : List Cel) (w : World) (h : Cel.rep.SHas 16 w A c l) :
  Calls Try.prog 105 #[.slice A l.length c] w fun e w' => ∃ A' c', e = .returned (.slice A' l.length c') ∧ Cel.rep.SOwn 70 16 w' w.heap.size (Rep.blkOf A') A' c' l ∧ (A' = none ↔ A = none) ∧ Below w.heap.size w w' := by
 obtain ⟨i0, hi, hz0, hz1, hz2⟩ := info_parts Cel.info
 have qnil : ∀ (w : World) (a : Option Addr) (n c n' c' : Nat), (binOp .eql 55 (.slice a n c) (.slice none n' c')).run Try.prog w = .ok (.bool a.isNone) w := fun w a n c n' c' => Lib.run_eql_slice_nil w _ _ a n c n' c' Try.underlying55
 cases A with
 | none =>
  obtain rfl : c = 0 := h.2.2.2.1 rfl
  obtain rfl : l = [] := List.eq_nil_of_length_eq_zero (by have := h.1; omega)
  go_enter Try.func105, Try.ntmps105
  go_wp2_with fail
  go_ret
  exact ⟨none, 0, rfl, Rep.SOwn.nil _, by simp, Below.refl _ _⟩
 | some a =>
  have hb0 : Below w.heap.size w (w.alloc (.cells #[] 70)) := (Below.refl _ w).alloc (Nat.le_refl _) _
  obtain ⟨n, HN⟩ : ∃ n, Hid (l.length = n) := ⟨_, Lib.hid rfl⟩
  obtain ⟨h1, h2, h3, h4, ess, h5, h6⟩ := h.keep hb0
  have H5 := Lib.hid h5
  have hone : ∀ u ∈ ess.flatten, u.oneCell' = true := by
   intro u hu
   obtain ⟨y, hy, hu⟩ := List.mem_flatten.1 hu
   obtain ⟨a, ha⟩ := h5.left y hy
   exact Cel.rep.one ha u hu
  have hraw : ∀ (j : Nat) u, ess.flatten[j]? = some u → Cel.rep.raw (j % Cel.rep.size) u := fun j u hu => flat_raw h5 (by decide) hu
  rw [HN.out] at h1 h3 h6
  have HR := Lib.hid h6
  have HE := Lib.hid (Own.empty (e := 70) (size := Cel.rep.size) (G := Cel.rep.raw) w (Nat.le_refl w.heap.size))
  clear h h4 h5 h6
  rw [HN.out]
  go_enter Try.func105, Try.ntmps105
  go_wp2_with (at_builtin; refine wpList_append_all _ rfl _ _ 55 rfl w.heap.size 70 i0 Cel.zero Cel.rep.size 16 Try.underlying55 hi hz0 hz1 hz2 rfl (by decide) Cel.rep.raw Cel.zero_raw _ _ _ rfl HE.out (some a) n c ess.flatten rfl HR.out hone hraw ?qc4 ?qc5 ?qc6 ?_)
  case qc4 => unfold maxLen; omega
  case qc5 => omega
  case qc6 => simp
  intro v' w1 hown hgrow hnil hat
  have hb1 := hb0.grown hgrow (by simp) (by intro k hk; simp [Value.ownBlock] at hk; omega)
  obtain ⟨A1, c1, rfl, hle, _, _, _, hnn⟩ := hown.shape
  have hA1 : A1 ≠ none := by
   intro h
   subst h
   exact hnil (hnn rfl)
  have HO : Hid (Cel.rep.SOwn 70 16 w1 w.heap.size (Rep.blkOf A1) A1 c1 l) := Lib.hid (Rep.SOwn.of_plain Cel.plain H5.out (by rw [HN.out]; exact h3) (by rw [HN.out]; simpa using hown))
  have HA1 := Lib.hid hA1
  clear hgrow hnil hat hown hA1 hnn hone hraw
  go_wp2_with fail
  go_ret
  exact ⟨A1, c1, rfl, HO.out, ⟨fun h => absurd h HA1.out, fun h => by cases h⟩, hb1⟩
set_option maxRecDepth 100000 in
set_option maxHeartbeats 1000000 in
theorem clone_T (A : Option Addr) (c : Nat) (l : List Trp) (w : World) (h : Trp.rep.SHas 56 w A c l) :
  Calls Try.prog 107 #[.slice A l.length c] w fun e w' => ∃ A' c', e = .returned (.slice A' l.length c') ∧ Trp.rep.SOwn 80 56 w' w.heap.size (Rep.blkOf A') A' c' l ∧ (A' = none ↔ A = none) ∧ Below w.heap.size w w' := by
 obtain ⟨i0, hi, hz0, hz1, hz2⟩ := info_parts Trp.info
 have qnil : ∀ (w : World) (a : Option Addr) (n c n' c' : Nat), (binOp .eql 56 (.slice a n c) (.slice none n' c')).run Try.prog w = .ok (.bool a.isNone) w := fun w a n c n' c' => Lib.run_eql_slice_nil w _ _ a n c n' c' Try.underlying56
 cases A with
 | none =>
  obtain rfl : c = 0 := h.2.2.2.1 rfl
  obtain rfl : l = [] := List.eq_nil_of_length_eq_zero (by have := h.1; omega)
  go_enter Try.func107, Try.ntmps107
  go_wp2_with fail
  go_ret
  exact ⟨none, 0, rfl, Rep.SOwn.nil _, by simp, Below.refl _ _⟩
 | some a =>
  have hb0 : Below w.heap.size w (w.alloc (.cells #[] 80)) := (Below.refl _ w).alloc (Nat.le_refl _) _
  obtain ⟨n, HN⟩ : ∃ n, Hid (l.length = n) := ⟨_, Lib.hid rfl⟩
  obtain ⟨h1, h2, h3, h4, ess, h5, h6⟩ := h.keep hb0
  have H5 := Lib.hid h5
  have hone : ∀ u ∈ ess.flatten, u.oneCell' = true := by
   intro u hu
   obtain ⟨y, hy, hu⟩ := List.mem_flatten.1 hu
   obtain ⟨a, ha⟩ := h5.left y hy
   exact Trp.rep.one ha u hu
  have hraw : ∀ (j : Nat) u, ess.flatten[j]? = some u → Trp.rep.raw (j % Trp.rep.size) u := fun j u hu => flat_raw h5 (by decide) hu
  rw [HN.out] at h1 h3 h6
  have HR := Lib.hid h6
  have HE := Lib.hid (Own.empty (e := 80) (size := Trp.rep.size) (G := Trp.rep.raw) w (Nat.le_refl w.heap.size))
  clear h h4 h5 h6
  rw [HN.out]
  go_enter Try.func107, Try.ntmps107
  go_wp2_with (at_builtin; refine wpList_append_all _ rfl _ _ 56 rfl w.heap.size 80 i0 Trp.zero Trp.rep.size 56 Try.underlying56 hi hz0 hz1 hz2 rfl (by decide) Trp.rep.raw Trp.zero_raw _ _ _ rfl HE.out (some a) n c ess.flatten rfl HR.out hone hraw ?qc4 ?qc5 ?qc6 ?_)
  case qc4 => unfold maxLen; omega
  case qc5 => omega
  case qc6 => simp
  intro v' w1 hown hgrow hnil hat
  have hb1 := hb0.grown hgrow (by simp) (by intro k hk; simp [Value.ownBlock] at hk; omega)
  obtain ⟨A1, c1, rfl, hle, _, _, _, hnn⟩ := hown.shape
  have hA1 : A1 ≠ none := by
   intro h
   subst h
   exact hnil (hnn rfl)
  have HO : Hid (Trp.rep.SOwn 80 56 w1 w.heap.size (Rep.blkOf A1) A1 c1 l) := Lib.hid (Rep.SOwn.of_plain Trp.plain H5.out (by rw [HN.out]; exact h3) (by rw [HN.out]; simpa using hown))
  have HA1 := Lib.hid hA1
  clear hgrow hnil hat hown hA1 hnn hone hraw
  go_wp2_with fail
  go_ret
  exact ⟨A1, c1, rfl, HO.out, ⟨fun h => absurd h HA1.out, fun h => by cases h⟩, hb1⟩
end Go.Proofs.Ytokehopkfnipmaa
set_option linter.unusedVariables false
set_option linter.unusedSimpArgs false
namespace Go.Proofs.Ytokehopkfnipmaa
open Go.RowKit

theorem SigG_ag_api_Cell : Ag Try.prog 70 true := fun _ => by kernel_rfl
theorem SigG_sz_api_Cell : Sz Try.prog 70 2 := fun _ => by kernel_rfl
theorem SigG_en_line_Cells : Enters Try.prog 175 := en Try.func175 (by kernel_rfl) (by kernel_rfl)
theorem SigG_zv_api_Cell : Zv Try.prog 70 (.agg #[.int .i64 0, .int .i64 0]) := fun _ => by kernel_rfl
theorem SigG_ag_api_Field : Ag Try.prog 54 true := fun _ => by kernel_rfl
theorem SigG_sz_api_Field : Sz Try.prog 54 3 := fun _ => by kernel_rfl
theorem SigG_en_field_At : Enters Try.prog 141 := en Try.func141 (by kernel_rfl) (by kernel_rfl)
theorem SigG_en_sight_bare : Enters Try.prog 164 := en Try.func164 (by kernel_rfl) (by kernel_rfl)
theorem lineC_bd {a b : Cel} (h : -1000 ≤ a.x ∧ a.x ≤ 1000 ∧ -1000 ≤ a.y ∧ a.y ≤ 1000) (h2 : -1000 ≤ b.x ∧ b.x ≤ 1000 ∧ -1000 ≤ b.y ∧ b.y ≤ 1000) : 1 ≤ (lineC a b).length ∧ (lineC a b).length ≤ 2001 ∧ (lineC a b).length = (far a b).toNat + 1 := by
 have h3 := sz_bd (b.x - a.x); have h4 := sz_bd (b.y - a.y)
 unfold lineC; rw [pts_len]; unfold far; omega
def Fld.clear (f : Fld) (c : Cel) : Bool := !(f.atV c == 1 || f.atV c == 2)
def bareC (f : Fld) (a b : Cel) : Bool := decide ((lineC a b).length < 3) || (((lineC a b).drop 1).take ((lineC a b).length - 1 - 1)).all f.clear
theorem bareC_few {f : Fld} {a b : Cel} (h : (lineC a b).length < 3) : bareC f a b = true := by unfold bareC; rw [decide_eq_true h]; rfl
theorem bareC_yes {f : Fld} {a b : Cel} (h : ∀ i, i < (((lineC a b).drop 1).take ((lineC a b).length - 1 - 1)).length → f.clear ((((lineC a b).drop 1).take ((lineC a b).length - 1 - 1)).getD i default) = true) : bareC f a b = true := by
 unfold bareC
 rw [Bool.or_eq_true]
 refine .inr (List.all_eq_true.2 fun x hx => ?_)
 obtain ⟨i, hi, rfl⟩ := List.getElem_of_mem hx
 have := h i hi
 rwa [List.getD_eq_getElem?_getD, List.getElem?_eq_getElem hi] at this
theorem bareC_no {f : Fld} {a b : Cel} {k : Nat} (hk : k < (((lineC a b).drop 1).take ((lineC a b).length - 1 - 1)).length) (h : f.clear ((((lineC a b).drop 1).take ((lineC a b).length - 1 - 1)).getD k default) = false) : bareC f a b = false := by
 unfold bareC
 have h3 : ¬ (lineC a b).length < 3 := by rw [List.length_take, List.length_drop] at hk; omega
 rw [decide_eq_false h3, Bool.false_or]
 rw [List.all_eq_false]
 refine ⟨_, List.getElem_mem hk, ?_⟩
 rw [List.getD_eq_getElem?_getD, List.getElem?_eq_getElem hk] at h
 simpa using h
theorem atE_near {f : Fld} {c : Cel} (h : f.atE c = 0) : 0 ≤ c.x ∧ c.x < 40 ∧ 0 ≤ c.y ∧ c.y < 40 := by
 have hc : f.chk = 0 := by
  cases hd : decide (f.chk = 0) with
  | true => simpa using hd
  | false => rw [(Fld.at_bad (by simpa using hd)).1] at h; exact h
 have hi := atE_zero hc h
 unfold Fld.isIn at hi
 rw [Bool.and_eq_true] at hi
 have h1 := inB_true hi.1
 have h2 := inB_true hi.2
 unfold Fld.chk at hc
 split at hc
 ·rename_i hw
  rw [Bool.and_eq_true] at hw
  have h3 := inB_true hw.1
  have h4 := inB_true hw.2
  omega
 ·omega
def seesE (f : Fld) (a b : Cel) : Int := if f.atE a ≠ 0 then f.atE a else f.atE b
def seesV (f : Fld) (a b : Cel) : Bool := if seesE f a b ≠ 0 then false else bareC f a b || bareC f b a
def seesR (f : Fld) (a b : Cel) : Value := .tuple #[.bool (seesV f a b), .int .i64 (seesE f a b)]
theorem sees_no1 {f : Fld} {a b : Cel} (h : ¬ f.atE a = 0) : seesR f a b = .tuple #[.bool false, .int .i64 (f.atE a)] := by
 have e : seesE f a b = f.atE a := by unfold seesE; rw [if_pos h]
 unfold seesR seesV; rw [e, if_pos h]
theorem sees_no2 {f : Fld} {a b : Cel} (h0 : f.atE a = 0) (h : ¬ f.atE b = 0) : seesR f a b = .tuple #[.bool false, .int .i64 (f.atE b)] := by
 have e : seesE f a b = f.atE b := by unfold seesE; rw [if_neg (by simpa using h0)]
 unfold seesR seesV; rw [e, if_pos h]
theorem sees_ok {f : Fld} {a b : Cel} (h0 : f.atE a = 0) (h : f.atE b = 0) : seesR f a b = .tuple #[.bool (bareC f a b || bareC f b a), .int .i64 0] := by
 have e : seesE f a b = 0 := by unfold seesE; rw [if_neg (by simpa using h0)]; exact h
 unfold seesR seesV; rw [e, if_neg (by simp)]
set_option maxRecDepth 100000 in
set_option maxHeartbeats 400000 in
theorem bare_in (f : Fld) (a b : Cel) (A : Option Addr) (c : Nat) (w : World) (hP : repI.SHas 8 w A c f.places) (h : -1000 ≤ a.x ∧ a.x ≤ 1000 ∧ -1000 ≤ a.y ∧ a.y ≤ 1000) (h2 : -1000 ≤ b.x ∧ b.x ≤ 1000 ∧ -1000 ≤ b.y ∧ b.y ≤ 1000) :
  Calls Try.prog 164 #[.agg #[.int .i64 f.wide, .int .i64 f.high, .slice A f.places.length c], .agg #[.int .i64 a.x, .int .i64 a.y], .agg #[.int .i64 b.x, .int .i64 b.y]] w (fun e w' => e = .returned (.bool (bareC f a b)) ∧ Ext w w') := by
 refine calls_W (n := 45) Try.func164 rfl rfl rfl ?_
 refine sq <| rg <| bx rfl rfl rfl rfl fun w_1 b_2 x_3 l_4 B_5 => ?_
 have q_6 := x_3.size
 have z_1 := Ext.tr (Ext.rf w) x_3
 have q_7 := B_5.lt
 refine bx rfl rfl rfl rfl fun w_8 b_9 x_10 l_11 B_12 => ?_
 have q_13 := x_10.size
 have z_8 := Ext.tr z_1 x_10
 have q_14 := B_12.lt
 refine bx rfl rfl rfl rfl fun w_15 b_16 x_17 l_18 B_19 => ?_
 have q_20 := x_17.size
 have z_15 := Ext.tr z_8 x_17
 have q_21 := B_19.lt
 refine vl (as_ rfl) rfl <| nl <| nT <| sq <| rg <| ?_
 have B_12 := B_12.later x_17
 refine vl (ld rfl (B_12.all SigG_ag_api_Cell SigG_sz_api_Cell)) rfl <| vl (ld rfl (B_19.all SigG_ag_api_Cell SigG_sz_api_Cell)) rfl <| ca SigG_en_line_Cells rfl rfl ((cells_in a b _ (by omega) (by omega)).mono ?_)
 rintro e w_25 ⟨A_22, c_22, rfl, OL_22, x_26⟩
 refine ⟨_, rfl, ?_⟩
 have q_27 := x_26.size
 have z_25 := Ext.tr z_15 x_26
 have u_23 := fun q hq => (OL_22.lt q hq).2
 have lo_24 := fun q hq => (OL_22.lt q hq).1
 have hl_22 := lineC_bd (a := a) (b := b) (by omega) (by omega)
 refine vl (mv rfl) rfl <| vl (ex rfl rfl) rfl <| vl (ex rfl rfl) rfl <| vl (as_ rfl) rfl <| vl (as_ rfl) rfl <| nl <| nT <| sq <| sq <| rg <| vl (mv rfl) rfl <| vl (ln Try.underlying55 rfl) rfl <| vl (blt rfl rfl) rfl <| nl <| nT <| ?_
 refine clt rfl (fun h_28 => ?_) (fun h_28 => ?_)
 ·refine sq <| rg <| vl (as_ rfl) rfl <| nl <| nT <| rt <| tT <| tR (.tmp rfl .nil) <| ?_
  exact ⟨by rw [bareC_few (by omega)]; rfl, z_25⟩
 ·refine sk <| nT <| sq <| sq <| rg <| vl (mv rfl) rfl <| vl (mv rfl) rfl <| vl (ln Try.underlying55 rfl) rfl <| vl (bsu rfl rfl (inI (by omega))) rfl <| vl (sI 1 ((lineC a b).length - 1) Try.underlying55 SigG_sz_api_Cell rfl rfl rfl rfl (by omega) (by omega) (by have := OL_22.has.1; omega)) rfl <| vl (ln Try.underlying55 rfl) rfl <| vl (mv rfl) rfl <| nl <| nT <| bk <| ?_
  have B_5 := B_5.later (Ext.tr x_10 (Ext.tr x_17 x_26))
  refine lp (fun mI EI wI => ∃ k : Nat, EI = [(3, .pointer (some ⟨b_2, 0, none⟩)), (26, .slice (sA A_22 c_22 1 2) ((lineC a b).length - 1 - 1) (c_22 - 1)), (27, .int .i64 ((((lineC a b).length - 1 - 1 : Nat) : Int))), (28, .int .i64 (k : Int))] ∧ mI = (lineC a b).length - 1 - 1 - k ∧ Ext w wI ∧ Blk wI b_2 [.int .i64 f.wide, .int .i64 f.high, .slice A f.places.length c] 54 (0, 0) ∧ Cel.rep.SOwn 70 16 wI w_15.heap.size (Rep.blkOf A_22) A_22 c_22 (lineC a b) ∧ (k ≤ (lineC a b).length - 1 - 1) ∧ (∀ i, i < k → f.clear ((((lineC a b).drop 1).take ((lineC a b).length - 1 - 1)).getD i default) = true)) _ _ ⟨0, rfl, rfl, z_25, B_5, OL_22, by omega, fun i hi => by omega⟩ (.cons rfl (.cons rfl (.cons rfl (.cons (loI rfl (by first | omega | rfl | (simp <;> omega))) .nil)))) ?_
  rintro m_30 E_31 w_29 ⟨k, rfl, rfl, z_29, B_5, OL_22, hk, hg⟩
  have q_32 := z_29.size
  have q_33 := B_5.lt
  have u_34 := fun q hq => (OL_22.lt q hq).2
  refine sq <| rg <| vl (blt rfl rfl) rfl <| nl <| nT <| sq <| ?_
  refine clt rfl (fun h_35 => ?_) (fun h_35 => ?_)
  ·refine sk <| nT <| sq <| bk <| sq <| rg <| vl (iA k Try.underlying55 SigG_sz_api_Cell rfl rfl ((OL_22.has.sub 1 ((lineC a b).length - 1) (by omega) (by omega)).adr (Nat.zero_lt_of_lt (show k < _ from (by rw [List.length_take, List.length_drop]; omega)))) rfl (by omega)) rfl <| vl (ld rfl (Rep.SHas.elt hcC ((OL_22.has.sub 1 ((lineC a b).length - 1) (by omega) (by omega)).adh (Nat.zero_lt_of_lt (show k < _ from (by rw [List.length_take, List.length_drop]; omega)))) (get_d (l := ((lineC a b).drop 1).take ((lineC a b).length - 1 - 1)) (u := default) (by rw [List.length_take, List.length_drop]; omega)) SigG_ag_api_Cell SigG_sz_api_Cell)) rfl <| al rfl SigG_zv_api_Cell rfl rfl fun w_36 b_37 x_38 l_39 B_40 => ?_
   have q_41 := x_38.size
   have z_36 := Ext.tr z_29 x_38
   have q_42 := B_40.lt
   refine st (new := [.int .i64 (((((lineC a b).drop 1).take ((lineC a b).length - 1 - 1)).getD k default).x), .int .i64 (((((lineC a b).drop 1).take ((lineC a b).length - 1 - 1)).getD k default).y)]) rfl rfl B_40 rfl SigG_sz_api_Cell rfl rfl rfl fun w_43 m_44 B_40 => ?_
   have q_46 := m_44.size
   have z_43 := Ext.mod z_36 m_44 (by simp only [List.mem_singleton, forall_eq]; omega)
   have q_45 := m_44.size
   refine nl <| nT <| sq <| rg <| ?_
   have B_5 := B_5.later x_38
   have B_5 := B_5.mod m_44 (by simp only [List.mem_singleton]; omega)
   refine vl (ld rfl (B_5.all SigG_ag_api_Field SigG_sz_api_Field)) rfl <| vl (ld rfl (B_40.all SigG_ag_api_Cell SigG_sz_api_Cell)) rfl <| ca SigG_en_field_At rfl rfl ((fldAt2 f (((((lineC a b).drop 1).take ((lineC a b).length - 1 - 1)).getD k default)) _ _ _ (hP.keep z_43)).mono ?_)
   rintro e w_47 ⟨rfl, x_48⟩
   refine ⟨_, rfl, ?_⟩
   have q_49 := x_48.size
   have z_47 := Ext.tr z_43 x_48
   refine vl (mv rfl) rfl <| vl (ex rfl rfl) rfl <| vl (ex rfl rfl) rfl <| vl (as_ rfl) rfl <| vl (as_ rfl) rfl <| nl <| nT <| sq <| rg <| vl (mv rfl) rfl <| vl (beq rfl rfl) rfl <| vl (mv rfl) rfl <| vQ rfl rfl rfl rfl (fun hc => mv rfl) rfl <| vQ rfl rfl rfl rfl (fun hc => beq (gt hc rfl) rfl) rfl <| vl (pO rfl rfl rfl rfl) rfl <| nl <| nT <| ?_
   refine cb rfl (fun h_50 => ?_) (fun h_50 => ?_)
   ·refine sq <| rg <| vl (as_ rfl) rfl <| nl <| nT <| rt <| tB <| tT <| tK <| tB <| tT <| tR (.tmp rfl .nil) <| ?_
    exact ⟨by rw [bareC_no (k := k) (by rw [List.length_take, List.length_drop]; omega) (by unfold Fld.clear; rw [h_50]; rfl)]; rfl, z_47⟩
   ·refine sk <| nB <| nT <| rg <| vl (bad rfl rfl (inI (by omega))) rfl <| vl (mv rfl) rfl <| nl <| ?_
    have B_5 := B_5.later x_48
    have OL_22 := OL_22.later x_38
    have OL_22 := OL_22.mod m_44 (fun q hq h => by have hb := List.mem_singleton.1 h; exfalso; (have := u_34 q hq; omega))
    have OL_22 := OL_22.later x_48
    exact nI _ _ ⟨k + 1, rfl, rfl, z_47, B_5, OL_22, by omega, lt_succ_all hg (by unfold Fld.clear; rw [h_50]; rfl)⟩ (by omega) (.cons rfl (.cons rfl (.cons rfl (.cons (loI rfl (by first | omega | rfl | (simp <;> omega))) .nil))))
  ·refine xt <| xT <| xK <| xB <| nT <| sq <| rg <| vl (as_ rfl) rfl <| nl <| nT <| rt <| tR (.tmp rfl .nil) <| ?_
   exact ⟨by rw [bareC_yes fun i hi => hg i (by rw [List.length_take, List.length_drop] at hi; omega)]; rfl, z_29⟩
set_option maxRecDepth 100000 in
set_option maxHeartbeats 400000 in
theorem sees_any (f : Fld) (a b : Cel) (A : Option Addr) (c : Nat) (w : World) (hP : repI.SHas 8 w A c f.places) :
  Calls Try.prog 155 #[.agg #[.int .i64 f.wide, .int .i64 f.high, .slice A f.places.length c], .agg #[.int .i64 a.x, .int .i64 a.y], .agg #[.int .i64 b.x, .int .i64 b.y]] w (fun e w' => e = .returned (seesR f a b) ∧ Ext w w') := by
 refine calls_W (n := 38) Try.func155 rfl rfl rfl ?_
 refine sq <| rg <| bx rfl rfl rfl rfl fun w_1 b_2 x_3 l_4 B_5 => ?_
 have q_6 := x_3.size
 have z_1 := Ext.tr (Ext.rf w) x_3
 have q_7 := B_5.lt
 refine bx rfl rfl rfl rfl fun w_8 b_9 x_10 l_11 B_12 => ?_
 have q_13 := x_10.size
 have z_8 := Ext.tr z_1 x_10
 have q_14 := B_12.lt
 refine bx rfl rfl rfl rfl fun w_15 b_16 x_17 l_18 B_19 => ?_
 have q_20 := x_17.size
 have z_15 := Ext.tr z_8 x_17
 have q_21 := B_19.lt
 refine vl (as_ rfl) rfl <| vl (as_ rfl) rfl <| nl <| nT <| sq <| sq <| rg <| ?_
 have B_12 := B_12.later x_17
 refine vl (ld rfl (B_12.all SigG_ag_api_Cell SigG_sz_api_Cell)) rfl <| vl (ld rfl (B_19.all SigG_ag_api_Cell SigG_sz_api_Cell)) rfl <| vl (v := .agg #[.int .i64 a.x, .int .i64 a.y, .int .i64 b.x, .int .i64 b.y]) (bd rfl (by kernel_rfl)) rfl <| vl (mv rfl) rfl <| nl <| nT <| bk <| lu 3 <| lr <| sq <| rg <| vl (blt rfl rfl) rfl <| nl <| nT <| sq <| cT rfl <| sk <| nT <| sq <| bk <| sq <| rg <| vl (v := .agg #[.int .i64 a.x, .int .i64 a.y]) (ixk rfl rfl (by kernel_rfl)) rfl <| al rfl SigG_zv_api_Cell rfl rfl fun w_22 b_23 x_24 l_25 B_26 => ?_
 have q_27 := x_24.size
 have z_22 := Ext.tr z_15 x_24
 have q_28 := B_26.lt
 refine st (new := [.int .i64 a.x, .int .i64 a.y]) rfl rfl B_26 rfl SigG_sz_api_Cell rfl rfl rfl fun w_29 m_30 B_26 => ?_
 have q_32 := m_30.size
 have z_29 := Ext.mod z_22 m_30 (by simp only [List.mem_singleton, forall_eq]; omega)
 have q_31 := m_30.size
 refine nl <| nT <| sq <| rg <| ?_
 have B_5 := B_5.later (Ext.tr x_10 (Ext.tr x_17 x_24))
 have B_5 := B_5.mod m_30 (by simp only [List.mem_singleton]; omega)
 refine vl (ld rfl (B_5.all SigG_ag_api_Field SigG_sz_api_Field)) rfl <| vl (ld rfl (B_26.all SigG_ag_api_Cell SigG_sz_api_Cell)) rfl <| ca SigG_en_field_At rfl rfl ((fldAt2 f a _ _ _ (hP.keep z_29)).mono ?_)
 rintro e w_33 ⟨rfl, x_34⟩
 refine ⟨_, rfl, ?_⟩
 have q_35 := x_34.size
 have z_33 := Ext.tr z_29 x_34
 refine vl (mv rfl) rfl <| vl (ex rfl rfl) rfl <| vl (ex rfl rfl) rfl <| vl (as_ rfl) rfl <| vl (as_ rfl) rfl <| nl <| nT <| sq <| rg <| vl (mv rfl) rfl <| vl (bne rfl rfl) rfl <| nl <| nT <| ?_
 refine cne rfl (fun h_36 => ?_) (fun h_36 => ?_)
 ·refine sq <| rg <| vl (mv rfl) rfl <| vl (as_ rfl) rfl <| vl (as_ rfl) rfl <| nl <| nT <| rt <| tB <| tT <| tK <| tB <| tT <| tR (.tmp rfl (.tmp rfl .nil)) <| ?_
  exact ⟨by rw [sees_no1 h_36]; rfl, z_33⟩
 ·have hn36 := atE_near h_36
  refine sk <| nB <| nT <| rg <| vl (badL (r := 1) rfl rfl (by decide) (by decide)) rfl <| vl (mv rfl) rfl <| nl <| nR <| lr <| sq <| rg <| vl (blt rfl rfl) rfl <| nl <| nT <| sq <| cT rfl <| sk <| nT <| sq <| bk <| sq <| rg <| vl (v := .agg #[.int .i64 b.x, .int .i64 b.y]) (ixk rfl rfl (by kernel_rfl)) rfl <| al rfl SigG_zv_api_Cell rfl rfl fun w_37 b_38 x_39 l_40 B_41 => ?_
  have q_42 := x_39.size
  have z_37 := Ext.tr z_33 x_39
  have q_43 := B_41.lt
  refine st (new := [.int .i64 b.x, .int .i64 b.y]) rfl rfl B_41 rfl SigG_sz_api_Cell rfl rfl rfl fun w_44 m_45 B_41 => ?_
  have q_47 := m_45.size
  have z_44 := Ext.mod z_37 m_45 (by simp only [List.mem_singleton, forall_eq]; omega)
  have q_46 := m_45.size
  refine nl <| nT <| sq <| rg <| ?_
  have B_5 := B_5.later (Ext.tr x_34 x_39)
  have B_5 := B_5.mod m_45 (by simp only [List.mem_singleton]; omega)
  refine vl (ld rfl (B_5.all SigG_ag_api_Field SigG_sz_api_Field)) rfl <| vl (ld rfl (B_41.all SigG_ag_api_Cell SigG_sz_api_Cell)) rfl <| ca SigG_en_field_At rfl rfl ((fldAt2 f b _ _ _ (hP.keep z_44)).mono ?_)
  rintro e w_48 ⟨rfl, x_49⟩
  refine ⟨_, rfl, ?_⟩
  have q_50 := x_49.size
  have z_48 := Ext.tr z_44 x_49
  refine vl (mv rfl) rfl <| vl (ex rfl rfl) rfl <| vl (ex rfl rfl) rfl <| vl (as_ rfl) rfl <| vl (as_ rfl) rfl <| nl <| nT <| sq <| rg <| vl (mv rfl) rfl <| vl (bne rfl rfl) rfl <| nl <| nT <| ?_
  refine cne rfl (fun h_51 => ?_) (fun h_51 => ?_)
  ·refine sq <| rg <| vl (mv rfl) rfl <| vl (as_ rfl) rfl <| vl (as_ rfl) rfl <| nl <| nT <| rt <| tB <| tT <| tK <| tB <| tT <| tR (.tmp rfl (.tmp rfl .nil)) <| ?_
   exact ⟨by rw [sees_no2 ‹_› h_51]; rfl, z_48⟩
  ·have hn51 := atE_near h_51
   refine sk <| nB <| nT <| rg <| vl (badL (r := 2) rfl rfl (by decide) (by decide)) rfl <| vl (mv rfl) rfl <| nl <| nR <| lr <| sq <| rg <| vl (blt rfl rfl) rfl <| nl <| nT <| sq <| cF rfl <| xt <| xT <| xK <| xB <| nT <| sq <| rg <| ?_
   have B_5 := B_5.later x_49
   refine vl (ld rfl (B_5.all SigG_ag_api_Field SigG_sz_api_Field)) rfl <| ?_
   have B_12 := B_12.later x_24
   have B_12 := B_12.mod m_30 (by simp only [List.mem_singleton]; omega)
   have B_12 := B_12.later (Ext.tr x_34 x_39)
   have B_12 := B_12.mod m_45 (by simp only [List.mem_singleton]; omega)
   have B_12 := B_12.later x_49
   refine vl (ld rfl (B_12.all SigG_ag_api_Cell SigG_sz_api_Cell)) rfl <| ?_
   have B_19 := B_19.later x_24
   have B_19 := B_19.mod m_30 (by simp only [List.mem_singleton]; omega)
   have B_19 := B_19.later (Ext.tr x_34 x_39)
   have B_19 := B_19.mod m_45 (by simp only [List.mem_singleton]; omega)
   have B_19 := B_19.later x_49
   refine vl (ld rfl (B_19.all SigG_ag_api_Cell SigG_sz_api_Cell)) rfl <| ca SigG_en_sight_bare rfl rfl ((bare_in f a b _ _ _ (hP.keep z_48) (by omega) (by omega)).mono ?_)
   rintro e w_52 ⟨rfl, x_53⟩
   refine ⟨_, rfl, ?_⟩
   have q_54 := x_53.size
   have z_52 := Ext.tr z_48 x_53
   refine vl (mv rfl) rfl <| ?_
   have B_5 := B_5.later x_53
   refine vQ rfl rfl rfl rfl (fun hc => ld rfl (B_5.all SigG_ag_api_Field SigG_sz_api_Field)) rfl <| ?_
   have B_19 := B_19.later x_53
   refine vQ rfl rfl rfl rfl (fun hc => ld rfl (B_19.all SigG_ag_api_Cell SigG_sz_api_Cell)) rfl <| ?_
   have B_12 := B_12.later x_53
   refine vQ rfl rfl rfl rfl (fun hc => ld rfl (B_12.all SigG_ag_api_Cell SigG_sz_api_Cell)) rfl <| vC rfl rfl rfl rfl SigG_en_sight_bare (fun hc => ec (gt hc rfl) (ec (gt hc rfl) (ec (gt hc rfl) rfl))) (fun hc => bare_in f b a _ _ _ (hP.keep z_52) (by omega) (by omega)) rfl fun w_55 x_56 => ?_
   have q_57 := x_56.size
   have z_55 := Ext.tr z_52 x_56
   refine vl (pO rfl rfl rfl rfl) rfl <| vl (as_ rfl) rfl <| vl (as_ rfl) rfl <| nl <| nT <| rt <| tR (.tmp rfl (.tmp rfl .nil)) <| ?_
   exact ⟨by rw [sees_ok ‹_› ‹_›]; rfl, z_55⟩
end Go.Proofs.Ytokehopkfnipmaa
set_option linter.unusedVariables false
set_option linter.unusedSimpArgs false
namespace Go.Proofs.Ytokehopkfnipmaa
open Go.RowKit

structure Blw where
 who : Int
 whom : Int
 deriving DecidableEq, Inhabited
namespace Blw
def cells (a : Blw) : List Value := [.int .i64 (a.who), .int .i64 (a.whom)]
def ok (a : Blw) : Prop := (Lit.int .i64 a.who).wf = true ∧ (Lit.int .i64 a.whom).wf = true
def raw (j : Nat) (u : Value) : Prop := match j with
 | 0 => ∃ n : Int, u = .int .i64 n
 | 1 => ∃ n : Int, u = .int .i64 n
 | _ => True
theorem cells_raw (a : Blw) : ∀ (j : Nat) u, a.cells[j]? = some u → raw j u := by
 intro j u hu
 match j, hu with
 | 0, hu => exact ⟨_, (Option.some.inj hu).symm⟩
 | 1, hu => exact ⟨_, (Option.some.inj hu).symm⟩
 | j + 2, hu => exact trivial
theorem cells_one (a : Blw) : ∀ u ∈ a.cells, u.oneCell' = true := by
 intro u hu
 unfold cells at hu
 simp only [List.mem_cons, List.not_mem_nil, or_false] at hu
 rcases hu with rfl | rfl <;> rfl
def rep : Rep Blw := Rep.flat 2 cells ok raw (fun _ => rfl) cells_one cells_raw
theorem plain : rep.Plain := Rep.flat_plain
def zero : Value := .agg #[.int .i64 0, .int .i64 0]
theorem zero_raw : ∀ (j : Nat) u, zero.cells[j]? = some u → rep.raw j u := by
 intro j u hu
 have hu : (#[(.int .i64 0 : Value), (.int .i64 0 : Value)] : Array Value)[j]? = some u := hu
 match j, hu with
 | 0, hu => exact ⟨_, (Option.some.inj hu).symm⟩
 | 1, hu => exact ⟨_, (Option.some.inj hu).symm⟩
 | j + 2, hu => cases hu
theorem info : (Try.prog.info? 193).map (fun i => (i.zero, i.size, i.bytes)) = some (some zero, 2, 16) := by kernel_rfl
theorem at_ {by_ : Nat} {w : World} {A : Option Addr} {c : Nat} {l : List Blw} (h : rep.SHas by_ w A c l) (h0 : 0 < l.length) :
  ∃ b o, A = some ⟨b, o, none⟩ ∧ ∀ (i : Nat) (a : Blw), l[i]? = some a → w.cell? ⟨b, o + i * 2, none⟩ = some (.int .i64 (a.who)) ∧ w.cell? ⟨b, o + i * 2 + 1, none⟩ = some (.int .i64 (a.whom)) := by
 obtain ⟨b, o, e, hc⟩ := h.at_ h0
 refine ⟨b, o, e, fun i a ha => ?_⟩
 obtain ⟨es, ⟨rfl, _⟩, hj⟩ := hc i a ha
 exact ⟨hj 0 _ rfl, hj 1 _ rfl⟩
theorem all_ok {by_ : Nat} {w : World} {A : Option Addr} {c : Nat} {l : List Blw} (h : rep.SHas by_ w A c l) : ∀ a ∈ l, a.ok := Rep.SHas.all_ (R := rep) (Q := ok) (fun {w cs a} (h : rep.has w cs a) => (show cs = a.cells ∧ a.ok from h).2) h
theorem blk {w : World} {g : Nat} {t : TypeId} {fr : Nat × Nat} {a : Blw} (h : Blk w g a.cells t fr) : w.cell? ⟨g, 0, none⟩ = some (.int .i64 (a.who)) ∧ w.cell? ⟨g, 1, none⟩ = some (.int .i64 (a.whom)) :=
 ⟨h.cell 0, h.cell 1⟩
def sh : Sh := (.cons (.int .i64) (.cons (.int .i64) .nil))
theorem opens (w : World) (cs : List Value) (h : sh.Ok w cs) : ∃ a, rep.has w cs a := by
 obtain ⟨_, _, rfl, _, _, ⟨x0, rfl, k0⟩, ⟨_, _, rfl, _, _, ⟨x1, rfl, k1⟩, rfl⟩⟩ := h
 exact ⟨⟨x0, x1⟩, rfl, k0, k1⟩
end Blw
theorem hcW {w : World} {cs : List Value} {a : Blw} (h : Blw.rep.has w cs a) : cs = a.cells := And.left (show cs = a.cells ∧ a.ok from h)
end Go.Proofs.Ytokehopkfnipmaa
set_option linter.unusedVariables false
set_option linter.unusedSimpArgs false
namespace Go.Proofs.Ytokehopkfnipmaa
open Go.RowKit

set_option maxRecDepth 100000 in
set_option maxHeartbeats 4000000 in
theorem players_any (a : Wd.At) (W : Wd) (w : World) (hW : Wd.Has w a W) (h0 : W.field.chk = 0) (h8 : W.bases.length ≤ 8) :
    Calls Try.prog 65 #[.agg (Wd.cells a W).toArray] w fun e w' => e = .returned (.bool W.players) ∧ Below w.heap.size w w' := by
  obtain ⟨aP, aB, aS, aM, aT, kP, kB, kS, kM, kT⟩ := a
  show Calls _ _ #[.agg #[.int .i64 W.field.wide, .int .i64 W.field.high, .slice aP W.field.places.length kP, .slice aB W.bases.length kB, .slice aS W.stocks.length kS, .slice aM W.mines.length kM, .slice aT W.troops.length kT, .int .i64 W.next, .int .i64 W.now]] _ _
  obtain ⟨nb, HNB⟩ : ∃ n, Hid (W.bases.length = n) := ⟨_, Lib.hid rfl⟩
  obtain ⟨ns, HNS⟩ : ∃ n, Hid (W.stocks.length = n) := ⟨_, Lib.hid rfl⟩
  have h8 : nb ≤ 8 := by rw [← HNB.out]; exact h8
  have hb0 := below_alloc0 w (.cells (Wd.cells ⟨aP, aB, aS, aM, aT, kP, kB, kS, kM, kT⟩ W).toArray 58)
  have HA := Lib.hid (Blk.new w (Wd.cells ⟨aP, aB, aS, aM, aT, kP, kB, kS, kM, kT⟩ W) 58 (0, 0))
  have HH := Lib.hid (hW.keep hb0)
  have H0 := Lib.hid h0
  obtain ⟨w0, HW0⟩ : ∃ w0, Hid (w.alloc (.cells (Wd.cells ⟨aP, aB, aS, aM, aT, kP, kB, kS, kM, kT⟩ W).toArray 58) = w0) := ⟨_, Lib.hid rfl⟩
  rw [HW0.out] at hb0 HH
  have HA : Hid (Blk w0 w.heap.size (Wd.cells ⟨aP, aB, aS, aM, aT, kP, kB, kS, kM, kT⟩ W) 58 (0, 0)) := by rw [← HW0.out]; exact HA
  have HW1 : Hid (w.alloc (.cells #[.int .i64 W.field.wide, .int .i64 W.field.high, .slice aP W.field.places.length kP, .slice aB nb kB, .slice aS ns kS, .slice aM W.mines.length kM, .slice aT W.troops.length kT, .int .i64 W.next, .int .i64 W.now] 58) = w0) := by rw [← HW0.out, ← HNB.out, ← HNS.out]; rfl
  obtain ⟨c0, c1, c2, c3, c4, c5, c6, c7, c8⟩ := Wd.wblk HA.out
  rw [HNB.out] at c3
  rw [HNS.out] at c4
  clear hW h0
  by_cases hlen : ns = nb
  · subst hlen
    have HOK : Hid (∀ j, j < 0 → W.okBase j = true) := Lib.hid fun j hj => absurd hj (by omega)
    go_enter Try.func65, Try.ntmps65
    rw [HNB.out, HNS.out]
    go_wp2_with fail
    rw [HW1.out]
    go_loopw [3, 4, 15] (fun _ _ iv wr => ∃ k : Nat, k ≤ ns ∧ iv = .int .i64 (k : Int) ∧ Hid (∀ j, j < k → W.okBase j = true) ∧ Below w0.heap.size w0 wr) (fun _ _ iv _ => ns - (intOf iv).toNat)
    case atStart => exact ⟨0, Nat.zero_le _, rfl, HOK, Below.refl _ _⟩
    case round =>
      clear HOK c0 c1 c2 c3 c4 c5 c6 c7 c8
      obtain ⟨k, hk, rfl, HK, hb⟩ := hrel
      by_cases hlt : k < ns
      · obtain ⟨p, hp⟩ := get_of (l := W.bases) (i := k) (by rw [HNB.out]; exact hlt)
        obtain ⟨st, hs⟩ := get_of (l := W.stocks) (i := k) (by rw [HNS.out]; exact hlt)
        have hHr := HH.out.keep hb
        have hAr := HA.out.later hb
        have hHB : Cel.rep.SHas 16 wr aB kB W.bases := hHr.B
        have hHP : repI.SHas 8 wr aP kP W.field.places := hHr.P
        have hHS : repI.SHas 8 wr aS kS W.stocks := hHr.S
        have hcap : (ns : Int) ≤ (kB : Int) := by have := hHB.1; rw [HNB.out] at this; omega
        obtain ⟨b, o, rfl, hcell⟩ := Cel.at_ hHB (by rw [HNB.out]; omega)
        obtain ⟨p0, p1⟩ := hcell k p hp
        obtain ⟨bs, os, rfl, hcells⟩ := repI_at hHS (by rw [HNS.out]; omega)
        have s0 := hcells k st hs
        obtain ⟨c0, c1, c2, c3, c4, c5, c6, c7, c8⟩ := Wd.wblk hAr
        rw [HNB.out] at c3
        rw [HNS.out] at c4
        have hok : W.okBase k = (W.field.ground p && !(W.bases.take k).contains p && inB st 0 1000000) := by
          unfold Wd.okBase
          rw [List.getD_eq_getElem?_getD, hp, List.getD_eq_getElem?_getD, hs]; rfl
        have hb1 := below_alloc0 wr (.cells #[.int .i64 p.x, .int .i64 p.y] 70)
        have hBC := Blk.new wr p.cells 70 (0, 0)
        obtain ⟨w1, HWA⟩ : ∃ w1, Hid (wr.alloc (.cells #[.int .i64 p.x, .int .i64 p.y] 70) = w1) := ⟨_, Lib.hid rfl⟩
        rw [HWA.out] at hb1
        have hBC : Blk w1 wr.heap.size p.cells 70 (0, 0) := by rw [← HWA.out]; exact hBC
        obtain ⟨r0, r1⟩ := Cel.blk hBC
        have HG := Lib.hid (fun (V : World) (h : Below w1.heap.size w1 V) => ground_any W.field p aP kP V ((hHP.keep hb1).keep h) H0.out)
        have HC := Lib.hid (fun (V : World) (h : Below w1.heap.size w1 V) => has_cell p (some ⟨b, o, none⟩) kB (W.bases.take k) V (((hHB.take_ k).keep hb1).keep h))
        have hkl : (W.bases.take k).length = k := by rw [List.length_take, HNB.out]; omega
        rw [hkl] at HC
        have HI := Lib.hid (fun (V : World) => within_any st 0 1000000 V)
        have HOKE := Lib.hid hok
        have hbr := Below.refl w1.heap.size w1
        have hbB := hb.trans (hb1.mono hb.size)
        have hki : (k : Int) < (ns : Int) := by omega
        have hk0 : (0 : Int) ≤ (k : Int) := by omega
        have hkc : (k : Int) ≤ (kB : Int) := by omega
        have hkn : k ≤ kB := by omega
        clear hHr hAr hcell hcells hp hs hok hkl hHB hHP hHS
        go_wp2_with fail
        rw [HWA.out]
        have c0 := cell_later hb1 c0; have c1 := cell_later hb1 c1; have c2 := cell_later hb1 c2; have c3 := cell_later hb1 c3; have c4 := cell_later hb1 c4; have s0 := cell_later hb1 s0
        have HS := Lib.hid (fun (wx : World) (h : Below w1.heap.size w1 wx) => (⟨trivial, cell_later h c0, cell_later h c1, cell_later h c2, cell_later h c3, cell_later h c4, cell_later h r0, cell_later h r1, cell_later h s0⟩ : True ∧ wx.cell? ⟨w.heap.size, 0, none⟩ = some (.int .i64 W.field.wide) ∧ wx.cell? ⟨w.heap.size, 1, none⟩ = some (.int .i64 W.field.high) ∧ wx.cell? ⟨w.heap.size, 2, none⟩ = some (.slice aP W.field.places.length kP) ∧ wx.cell? ⟨w.heap.size, 3, none⟩ = some (.slice (some ⟨b, o, none⟩) ns kB) ∧ wx.cell? ⟨w.heap.size, 4, none⟩ = some (.slice (some ⟨bs, os, none⟩) ns kS) ∧ wx.cell? ⟨wr.heap.size, 0, none⟩ = some (.int .i64 p.x) ∧ wx.cell? ⟨wr.heap.size, 1, none⟩ = some (.int .i64 p.y) ∧ wx.cell? ⟨bs, os + k, none⟩ = some (.int .i64 st)))
        clear p0 p1 c5 c6 c7 c8 hBC
        cases h1 : W.field.ground p with
        | false =>
          rw [h1] at HG
          have HF : Hid (W.players = false) := Wd.players_bad (k := k) (by rw [HNB.out]; exact hlt) (by rw [HOKE.out, h1]; rfl)
          clear h1
          refine wp_region_below (by kernel_rfl) (by kernel_rfl) ?_
          repeat (first
            | go_big_quiet_skip
            | (go_big_quiet_want
               first
               | (go_big_quiet_op; go_big_quiet_on)
               | (apply Exists.intro
                  refine ⟨fun wq hq => ?_, ?_⟩
                  · first
                    | (obtain ⟨_, qq0, qq1, qq2, qq3, qq4, qq5, qq6, qq7⟩ := HS.out wq hq
                       apply quiet_val2
                       · (go_simp; rfl)
                       · rfl)
                    | (apply quiet_call2
                       · (go_simp; rfl)
                       · rfl
                       · first
                         | (with_reducible refine (HG.out _ hq).mono ?_; rintro e w2 ⟨rfl, hb2⟩; exact ⟨rfl, below_on hq hb2⟩)
                         | (with_reducible refine (HC.out _ hq).mono ?_; rintro e w2 ⟨rfl, hb2⟩; exact ⟨rfl, below_on hq hb2⟩)
                         | (with_reducible refine (HI.out _).mono ?_; rintro e w2 ⟨rfl, rfl⟩; exact ⟨rfl, hq⟩)
                       )
                  go_big_quiet_on
                  simp only [Act.put, List.setIfInBounds_toArray, List.set_cons_zero, List.set_cons_succ])))
          refine wpQuiet_nil ?_
          intro wz hz
          go_wp2_with fail
          go_ret
          exact ⟨ret_bool HF.out.symm, hb0.trans ((hbB.trans (Below.mono hz hbB.size)).mono hb0.size)⟩
        | true =>
          rw [h1] at HG
          cases h2 : (W.bases.take k).contains p with
          | true =>
            rw [h2] at HC
            have HF : Hid (W.players = false) := Wd.players_bad (k := k) (by rw [HNB.out]; exact hlt) (by rw [HOKE.out, h1, h2]; rfl)
            clear h1 h2
            refine wp_region_below (by kernel_rfl) (by kernel_rfl) ?_
            repeat (first
              | go_big_quiet_skip
              | (go_big_quiet_want
                 first
                 | (go_big_quiet_op; go_big_quiet_on)
                 | (apply Exists.intro
                    refine ⟨fun wq hq => ?_, ?_⟩
                    · first
                      | (obtain ⟨_, qq0, qq1, qq2, qq3, qq4, qq5, qq6, qq7⟩ := HS.out wq hq
                         apply quiet_val2
                         · (go_simp; rfl)
                         · rfl)
                      | (apply quiet_call2
                         · (go_simp; rfl)
                         · rfl
                         · first
                           | (with_reducible refine (HG.out _ hq).mono ?_; rintro e w2 ⟨rfl, hb2⟩; exact ⟨rfl, below_on hq hb2⟩)
                           | (with_reducible refine (HC.out _ hq).mono ?_; rintro e w2 ⟨rfl, hb2⟩; exact ⟨rfl, below_on hq hb2⟩)
                           | (with_reducible refine (HI.out _).mono ?_; rintro e w2 ⟨rfl, rfl⟩; exact ⟨rfl, hq⟩)
                         )
                    go_big_quiet_on
                    simp only [Act.put, List.setIfInBounds_toArray, List.set_cons_zero, List.set_cons_succ])))
            refine wpQuiet_nil ?_
            intro wz hz
            go_wp2_with fail
            go_ret
            exact ⟨ret_bool HF.out.symm, hb0.trans ((hbB.trans (Below.mono hz hbB.size)).mono hb0.size)⟩
          | false =>
            rw [h2] at HC
            cases h3 : inB st 0 1000000 with
            | false =>
              rw [h3] at HI
              have HF : Hid (W.players = false) := Wd.players_bad (k := k) (by rw [HNB.out]; exact hlt) (by rw [HOKE.out, h3, Bool.and_false])
              clear h1 h2 h3
              refine wp_region_below (by kernel_rfl) (by kernel_rfl) ?_
              repeat (first
                | go_big_quiet_skip
                | (go_big_quiet_want
                   first
                   | (go_big_quiet_op; go_big_quiet_on)
                   | (apply Exists.intro
                      refine ⟨fun wq hq => ?_, ?_⟩
                      · first
                        | (obtain ⟨_, qq0, qq1, qq2, qq3, qq4, qq5, qq6, qq7⟩ := HS.out wq hq
                           apply quiet_val2
                           · (go_simp; rfl)
                           · rfl)
                        | (apply quiet_call2
                           · (go_simp; rfl)
                           · rfl
                           · first
                             | (with_reducible refine (HG.out _ hq).mono ?_; rintro e w2 ⟨rfl, hb2⟩; exact ⟨rfl, below_on hq hb2⟩)
                             | (with_reducible refine (HC.out _ hq).mono ?_; rintro e w2 ⟨rfl, hb2⟩; exact ⟨rfl, below_on hq hb2⟩)
                             | (with_reducible refine (HI.out _).mono ?_; rintro e w2 ⟨rfl, rfl⟩; exact ⟨rfl, hq⟩)
                           )
                      go_big_quiet_on
                      simp only [Act.put, List.setIfInBounds_toArray, List.set_cons_zero, List.set_cons_succ])))
              refine wpQuiet_nil ?_
              intro wz hz
              go_wp2_with fail
              go_ret
              exact ⟨ret_bool HF.out.symm, hb0.trans ((hbB.trans (Below.mono hz hbB.size)).mono hb0.size)⟩
            | true =>
              rw [h3] at HI
              have HK2 : Hid (∀ j, j < k + 1 → W.okBase j = true) := by
                intro j hj
                by_cases hjk : j < k
                · exact HK.out j hjk
                · obtain rfl : j = k := by omega
                  rw [HOKE.out, h1, h2, h3]; rfl
              clear h1 h2 h3
              refine wp_region_below (by kernel_rfl) (by kernel_rfl) ?_
              repeat (first
                | go_big_quiet_skip
                | (go_big_quiet_want
                   first
                   | (go_big_quiet_op; go_big_quiet_on)
                   | (apply Exists.intro
                      refine ⟨fun wq hq => ?_, ?_⟩
                      · first
                        | (obtain ⟨_, qq0, qq1, qq2, qq3, qq4, qq5, qq6, qq7⟩ := HS.out wq hq
                           apply quiet_val2
                           · (go_simp; rfl)
                           · rfl)
                        | (apply quiet_call2
                           · (go_simp; rfl)
                           · rfl
                           · first
                             | (with_reducible refine (HG.out _ hq).mono ?_; rintro e w2 ⟨rfl, hb2⟩; exact ⟨rfl, below_on hq hb2⟩)
                             | (with_reducible refine (HC.out _ hq).mono ?_; rintro e w2 ⟨rfl, hb2⟩; exact ⟨rfl, below_on hq hb2⟩)
                             | (with_reducible refine (HI.out _).mono ?_; rintro e w2 ⟨rfl, rfl⟩; exact ⟨rfl, hq⟩)
                           )
                      go_big_quiet_on
                      simp only [Act.put, List.setIfInBounds_toArray, List.set_cons_zero, List.set_cons_succ])))
              refine wpQuiet_nil ?_
              intro wz hz
              go_wp2_with fail
              go_roundw
              case rel => exact ⟨k + 1, by omega, by go_num, HK2, hbB.trans (Below.mono hz hbB.size)⟩
              case measure => simp [intOf]; omega
      · have HT : Hid (W.players = true) := Wd.players_ok (by rw [HNS.out, HNB.out]) fun j hj => HK.out j (by rw [HNB.out] at hj; omega)
        clear HK
        go_wp2_with fail
        go_ret
        exact ⟨ret_bool HT.out.symm, hb0.trans (hb.mono hb0.size)⟩
  · have HT : Hid (W.players = false) := Wd.players_no (by rw [HNS.out, HNB.out]; exact hlen)
    have hd : ((ns : Int) != (nb : Int)) = true := by simp; omega
    rw [HT.out]
    go_enter Try.func65, Try.ntmps65
    rw [HNB.out, HNS.out]
    go_wp2_with fail
    go_ret
    rw [HW1.out]
    exact ⟨rfl, hb0⟩
end Go.Proofs.Ytokehopkfnipmaa
set_option linter.unusedVariables false
set_option linter.unusedSimpArgs false
namespace Go.Proofs.Ytokehopkfnipmaa
open Go.RowKit

set_option maxRecDepth 100000 in
set_option maxHeartbeats 4000000 in
theorem mines_any (a : Wd.At) (W : Wd) (w : World) (hW : Wd.Has w a W) :
  Calls Try.prog 66 #[.agg (Wd.cells a W).toArray] w fun e w' => e = .returned (.bool W.minesOk) ∧ Below w.heap.size w w' := by
 obtain ⟨aP, aB, aS, aM, aT, kP, kB, kS, kM, kT⟩ := a
 show Calls _ _ #[.agg #[.int .i64 W.field.wide, .int .i64 W.field.high, .slice aP W.field.places.length kP, .slice aB W.bases.length kB, .slice aS W.stocks.length kS, .slice aM W.mines.length kM, .slice aT W.troops.length kT, .int .i64 W.next, .int .i64 W.now]] _ _
 have hb0 := below_alloc0 w (.cells (Wd.cells ⟨aP, aB, aS, aM, aT, kP, kB, kS, kM, kT⟩ W).toArray 58)
 have HA := Lib.hid (Blk.new w (Wd.cells ⟨aP, aB, aS, aM, aT, kP, kB, kS, kM, kT⟩ W) 58 (0, 0))
 have HH := Lib.hid (hW.keep hb0)
 obtain ⟨w0, HW0⟩ : ∃ w0, Hid (w.alloc (.cells (Wd.cells ⟨aP, aB, aS, aM, aT, kP, kB, kS, kM, kT⟩ W).toArray 58) = w0) := ⟨_, Lib.hid rfl⟩
 rw [HW0.out] at hb0 HH
 have HA : Hid (Blk w0 w.heap.size (Wd.cells ⟨aP, aB, aS, aM, aT, kP, kB, kS, kM, kT⟩ W) 58 (0, 0)) := by rw [← HW0.out]; exact HA
 obtain ⟨nm, HNM⟩ : ∃ n, Hid (W.mines.length = n) := ⟨_, Lib.hid rfl⟩
 obtain ⟨np, HNP⟩ : ∃ n, Hid (W.field.places.length = n) := ⟨_, Lib.hid rfl⟩
 have hle : nm ≤ 9223372036854775807 := by have := hW.M.len_le; rw [HNM.out] at this; exact this
 have HW1 : Hid (w.alloc (.cells #[.int .i64 W.field.wide, .int .i64 W.field.high, .slice aP np kP, .slice aB W.bases.length kB, .slice aS W.stocks.length kS, .slice aM nm kM, .slice aT W.troops.length kT, .int .i64 W.next, .int .i64 W.now] 58) = w0) := by rw [← HW0.out, ← HNM.out, ← HNP.out]; rfl
 obtain ⟨c0, c1, c2, c3, c4, c5, c6, c7, c8⟩ := Wd.wblk HA.out
 rw [HNP.out] at c2
 rw [HNM.out] at c5
 clear hW
 by_cases hlen : nm = np
 ·subst hlen
  have HOK : Hid (∀ j, j < 0 → W.okMine j = true) := Lib.hid fun j hj => absurd hj (by omega)
  go_enter Try.func66, Try.ntmps66
  rw [HNP.out, HNM.out]
  go_wp2_with fail
  rw [HW1.out]
  go_loopw [3, 4, 16] (fun _ _ iv wr => ∃ k : Nat, k ≤ nm ∧ iv = .int .i64 (k : Int) ∧ Hid (∀ j, j < k → W.okMine j = true) ∧ Hid (wr = w0)) (fun _ _ iv _ => nm - (intOf iv).toNat)
  case atStart => exact ⟨0, Nat.zero_le _, rfl, HOK, rfl⟩
  case round =>
   clear HOK c0 c1 c2 c3 c4 c5 c6 c7 c8
   obtain ⟨k, hk, rfl, HK, HWR⟩ := hrel
   obtain ⟨c0, c1, c2, c3, c4, c5, c6, c7, c8⟩ := Wd.wblk (show Blk wr w.heap.size (Wd.cells ⟨aP, aB, aS, aM, aT, kP, kB, kS, kM, kT⟩ W) 58 (0, 0) by rw [HWR.out]; exact HA.out)
   rw [HNP.out] at c2
   rw [HNM.out] at c5
   have hbw : Below w.heap.size w wr := by rw [HWR.out]; exact hb0
   by_cases hlt : k < nm
   ·obtain ⟨p, hp⟩ := get_of (l := W.field.places) (i := k) (by rw [HNP.out]; exact hlt)
    obtain ⟨m, hm⟩ := get_of (l := W.mines) (i := k) (by rw [HNM.out]; exact hlt)
    have hHP : repI.SHas 8 wr aP kP W.field.places := by rw [HWR.out]; exact HH.out.P
    have hHM : repI.SHas 8 wr aM kM W.mines := by rw [HWR.out]; exact HH.out.M
    obtain ⟨b, o, rfl, hcell⟩ := repI_at hHP (by rw [HNP.out]; omega)
    have p0 := hcell k p hp
    obtain ⟨bm, om, rfl, hcellm⟩ := repI_at hHM (by rw [HNM.out]; omega)
    have m0 := hcellm k m hm
    have hok : W.okMine k = (inB m 0 1000000 && (decide (m ≤ 0) || p == 3)) := by
     unfold Wd.okMine
     rw [List.getD_eq_getElem?_getD, hm, List.getD_eq_getElem?_getD, hp]; rfl
    have HI := Lib.hid (fun (V : World) => within_any m 0 1000000 V)
    have HOKE := Lib.hid hok
    have hki : (k : Int) < (nm : Int) := by omega
    have hk0 : (0 : Int) ≤ (k : Int) := by omega
    clear hHP hHM hcell hcellm hp hm hok
    cases h1 : inB m 0 1000000 with
    | false =>
     rw [h1] at HI
     have HF : Hid (W.minesOk = false) := Wd.mines_bad (k := k) (by rw [HNM.out]; exact hlt) (by rw [HOKE.out, h1]; rfl)
     clear h1
     go_wp2_with fail
     refine (HI.out _).mono ?_; rintro e w' ⟨rfl, rfl⟩
     go_wp2_with fail
     go_ret
     exact ⟨ret_bool HF.out.symm, hbw⟩
    | true =>
     rw [h1] at HI
     by_cases h2 : m ≤ 0
     ·have hd : decide (0 < m) = false := by simp; omega
      have HK2 : Hid (∀ j, j < k + 1 → W.okMine j = true) := by
       intro j hj
       by_cases hjk : j < k
       ·exact HK.out j hjk
       ·obtain rfl : j = k := by omega
        rw [HOKE.out, h1, decide_eq_true h2]; rfl
      clear h1
      go_wp2_with fail
      refine (HI.out _).mono ?_; rintro e w' ⟨rfl, rfl⟩
      go_wp2_with fail
      go_roundw
      case rel => exact ⟨k + 1, by omega, by go_num, HK2, HWR⟩
      case measure => simp [intOf]; omega
     ·have hd : decide (0 < m) = true := by simp; omega
      by_cases h3 : p = 3
      ·subst h3
       have HK2 : Hid (∀ j, j < k + 1 → W.okMine j = true) := by
        intro j hj
        by_cases hjk : j < k
        ·exact HK.out j hjk
        ·obtain rfl : j = k := by omega
         rw [HOKE.out, h1]; simp
       clear h1 h2
       go_wp2_with fail
       refine (HI.out _).mono ?_; rintro e w' ⟨rfl, rfl⟩
       go_wp2_with fail
       go_roundw
       case rel => exact ⟨k + 1, by omega, by go_num, HK2, HWR⟩
       case measure => simp [intOf]; omega
      ·have HF : Hid (W.minesOk = false) := Wd.mines_bad (k := k) (by rw [HNM.out]; exact hlt) (by rw [HOKE.out, decide_eq_false h2, beq_false_of_ne h3]; simp)
       have hd2 : (p == 3) = false := by simpa using h3
       clear h1 h2 h3
       go_wp2_with fail
       refine (HI.out _).mono ?_; rintro e w' ⟨rfl, rfl⟩
       go_wp2_with fail
       go_ret
       exact ⟨ret_bool HF.out.symm, hbw⟩
   ·have HT : Hid (W.minesOk = true) := Wd.mines_ok (by rw [HNM.out, HNP.out]) fun j hj => HK.out j (by rw [HNM.out] at hj; omega)
    clear HK
    go_wp2_with fail
    go_ret
    exact ⟨ret_bool HT.out.symm, hbw⟩
 ·have HT : Hid (W.minesOk = false) := Wd.mines_no (by rw [HNM.out, HNP.out]; exact hlen)
  have hd : ((nm : Int) != (np : Int)) = true := by simp; omega
  rw [HT.out]
  go_enter Try.func66, Try.ntmps66
  rw [HNP.out, HNM.out]
  go_wp2_with fail
  go_ret
  rw [HW1.out]
  exact ⟨rfl, hb0⟩
end Go.Proofs.Ytokehopkfnipmaa
