import Derived.Test.YtccankldeogdlaaGolC
import Derived.Test.YtccankldeogdlaaClo4
import Derived.Test.YtccankldeogdlaaLinG
set_option linter.unusedVariables false
set_option linter.unusedSimpArgs false
set_option maxRecDepth 100000
set_option maxHeartbeats 4000000
namespace Go.Proofs.Ytccankldeogdlaa
section
open Go.RowKit
theorem b3h_ (p q : Bool) : p = true ∨ (p = false ∧ q = true) ∨ (p = false ∧ q = false) := by cases p <;> cases q <;> simp
theorem b1x_ (p : Bool) : p = true ∨ p = false := by cases p <;> simp
theorem hasF_T (fC : FuncId) (cs : List Value) (p : Trp → Bool) (A : Option Addr) (c : Nat) (l : List Trp) (w : World) (hl : Trp.rep.SHas 56 w A c l) (hE : Enters Try.prog fC) (hC : ∀ x ∈ l, ∀ w', Ext w w' → Calls Try.prog fC (([.agg #[.int .i64 x.id, .int .i64 x.owner, .int .i64 x.kind, .int .i64 x.spot.x, .int .i64 x.spot.y, .int .i64 x.life, .int .i64 x.load]] : List Value) ++ cs).toArray w' λ e w'' => e = .returned (.bool (p x)) ∧ Ext w' w'') :
  Calls Try.prog 72 #[.slice A l.length c, .func (.func fC) #[] cs.toArray] w (λ e w' => e = .returned (.bool (l.any p)) ∧ Ext w w') := by
 refine calls_W (n := 9) Try.func72 rfl rfl rfl ?_
 refine sg <| va rfl <| nK <| sg <| vm rfl <| vm rfl <| ca eF2 rfl rfl ((idxF_T fC cs p _ _ l _ (hl.keep (Ext.rf w)) hE (λ x hx w' h => hC x hx w' (eT (Ext.rf w) h))).mono ?_)
 rintro e w_1 ⟨rfl, x_2⟩
 refine ⟨_, rfl, ?_⟩
 have := x_2.size
 have z_1 := eT (Ext.rf w) x_2
 refine vL (bge rfl rfl) <| va rfl <| nK <| rt <| tR (.tmp rfl .nil) <| ?_
 exact ⟨by rw [idxI_any]; rfl, z_1⟩
theorem bknown_any (x : Trp) (o : Odr) (b : Nat) (w : World) (HB : Blk w b [.int .i64 o.by_, .int .i64 o.kind, .int .i64 o.who, .int .i64 o.spot.x, .int .i64 o.spot.y, .int .i64 o.what] 72 (0, 0)) :
  Calls Try.prog 73 #[.agg #[.int .i64 x.id, .int .i64 x.owner, .int .i64 x.kind, .int .i64 x.spot.x, .int .i64 x.spot.y, .int .i64 x.life, .int .i64 x.load], .pointer (some ⟨b, 0, none⟩)] w (λ e w' => e = .returned (.bool (x.id == o.what)) ∧ Ext w w') := by
 have qB := HB.lt
 refine calls_W (n := 9) Try.func73 rfl rfl rfl ?_
 refine sg <| bx rfl rfl rfl rfl λ w_1 b_2 x_3 l_4 B_5 => ?_
 have := x_3.size
 have z_1 := eT (Ext.rf w) x_3
 have q_7 := B_5.lt
 refine va rfl <| nK <| sg <| vL (fa eF83 rfl) <| vL (ld rfl (B_5.one eF5 rfl)) <| vL (fa eF151 rfl) <| ?_
 have HB := HB.later x_3
 refine vL (ld rfl (HB.one eF5 rfl)) <| vL (beq rfl rfl) <| va rfl <| nK <| rt <| tR (.tmp rfl .nil) <| ?_
 exact ⟨rfl, z_1⟩
theorem bhide_any (pt : Odr) (av : Wd.At) (V : Wd) (p : Int) (b8 b4 : Nat) (w : World) (hV : Wd.Has w av V) (H8 : Blk w b8 (Wd.cells av V) 58 (0, 0)) (H4 : Blk w b4 [.int .i64 p] 3 (0, 0)) :
  Calls Try.prog 71 #[.agg #[.int .i64 pt.by_, .int .i64 pt.kind, .int .i64 pt.who, .int .i64 pt.spot.x, .int .i64 pt.spot.y, .int .i64 pt.what], .pointer (some ⟨b8, 0, none⟩), .pointer (some ⟨b4, 0, none⟩)] w (λ e w' => e = .returned (.bool ((pt.by_ != p) || ((pt.kind == 1) && !(V.troops.any λ x => x.id == pt.what)))) ∧ Ext w w') := by
 have qB := H8.lt
 have qC := H4.lt
 refine calls_W (n := 23) Try.func71 rfl rfl rfl ?_
 refine sg <| bx rfl rfl rfl rfl λ w_1 b_2 x_3 l_4 B_5 => ?_
 have := x_3.size
 have z_1 := eT (Ext.rf w) x_3
 have q_7 := B_5.lt
 refine va rfl <| nK <| sg <| vL (fa eF35 rfl) <| ?_
 have H8 := H8.later x_3
 refine vL (ld rfl (H8.one eF36 rfl)) <| vL (mf rfl rfl) <| ca eF37 rfl rfl ((hasF_T 73 [.pointer (some ⟨b_2, 0, none⟩)] (λ x => x.id == pt.what) _ _ V.troops _ (hV.T.keep z_1) eF181 (λ x hx w' h => bknown_any x pt b_2 w' (B_5.later h))).mono ?_)
 rintro e w_8 ⟨rfl, x_9⟩
 refine ⟨_, rfl, ?_⟩
 have := x_9.size
 have z_8 := eT z_1 x_9
 refine va rfl <| nK <| sq <| ?_
 rcases b3h_ (pt.by_ != p) (pt.kind == 1) with c0 | ⟨c0, c1_⟩ | ⟨c0, c1_⟩
 ·refine rg <| vL (fa eF154 rfl) <| ?_
  have B_5 := B_5.later x_9
  refine vL (ld rfl (B_5.one eF5 rfl)) <| ?_
  have H4 := H4.later (eT x_3 x_9)
  refine vL (ld rfl (H4.one eF5 rfl)) <| vL (bne rfl rfl) <| vm (evb rfl c0) <| vQ (v := undef) rfl rfl rfl rfl (λ hc => nomatch hc) rfl <| vQ (v := undef) rfl rfl rfl rfl (λ hc => nomatch hc) rfl <| vQ (v := undef) rfl rfl rfl rfl (λ hc => nomatch hc) rfl <| vQ (v := undef) rfl rfl rfl rfl (λ hc => nomatch hc) rfl <| vU rfl rfl rfl rfl rfl <| vU rfl rfl rfl rfl rfl <| vQ (v := undef) rfl rfl rfl rfl (λ hc => nomatch hc) rfl <| vL (pkT rfl rfl) <| va rfl <| nK <| rt <| tR (.tmp rfl .nil) <| ?_
  exact ⟨by first | (rw [c0, c1_]; rfl) | (rw [c0]; rfl), z_8⟩
 ·refine rg <| vL (fa eF154 rfl) <| ?_
  have B_5 := B_5.later x_9
  refine vL (ld rfl (B_5.one eF5 rfl)) <| ?_
  have H4 := H4.later (eT x_3 x_9)
  refine vL (ld rfl (H4.one eF5 rfl)) <| vL (bne rfl rfl) <| vm (evb rfl c0) <| ug rfl rfl rfl <| vL (fa eF148 rfl) <| ug rfl rfl rfl <| vL (ld rfl (B_5.one eF5 rfl)) <| ug rfl rfl rfl <| vL (beq rfl rfl) <| ug rfl rfl rfl <| vm (evb rfl c1_) <| ug rfl rfl rfl <| vm rfl <| ug rfl rfl rfl <| vL (nt rfl) <| ug rfl rfl rfl <| vL (pkT rfl rfl) <| vL (pkF rfl rfl) <| va rfl <| nK <| rt <| tR (.tmp rfl .nil) <| ?_
  exact ⟨by first | (rw [c0, c1_]; rfl) | (rw [c0]; rfl), z_8⟩
 ·refine rg <| vL (fa eF154 rfl) <| ?_
  have B_5 := B_5.later x_9
  refine vL (ld rfl (B_5.one eF5 rfl)) <| ?_
  have H4 := H4.later (eT x_3 x_9)
  refine vL (ld rfl (H4.one eF5 rfl)) <| vL (bne rfl rfl) <| vm (evb rfl c0) <| ug rfl rfl rfl <| vL (fa eF148 rfl) <| ug rfl rfl rfl <| vL (ld rfl (B_5.one eF5 rfl)) <| ug rfl rfl rfl <| vL (beq rfl rfl) <| ug rfl rfl rfl <| vm (evb rfl c1_) <| vQ (v := undef) rfl rfl rfl rfl (λ hc => nomatch hc) rfl <| vQ (v := undef) rfl rfl rfl rfl (λ hc => nomatch hc) rfl <| ug rfl rfl rfl <| vL (pkF rfl rfl) <| vL (pkF rfl rfl) <| va rfl <| nK <| rt <| tR (.tmp rfl .nil) <| ?_
  exact ⟨by first | (rw [c0, c1_]; rfl) | (rw [c0]; rfl), z_8⟩
theorem blind_A (a : Wd.At) (W : Wd) (p : Int) (A : Option Addr) (c : Nat) (l : List Odr) (w : World) (hW : Wd.Has w a W) (hl : Odr.rep.SHas 48 w A c l) (h1 : mistE W p ≠ 0) :
  Calls Try.prog 40 #[.agg ((Wd.cells a W).toArray), .int .i64 p, .slice A l.length c] w (λ e w' => ∃ e' A' c' m, e = .returned (.tuple #[.slice A' (m : List Odr).length c', .int .i64 e']) ∧ ((e' = 0 ∧ mistE W p = 0 ∧ splE W l = 0 ∧ m = blindL W p l) ∨ (e' ≠ 0 ∧ m = [])) ∧ Odr.rep.SOwn 72 48 w' w.heap.size (Rep.blkOf A') A' c' m ∧ Ext w w') := by
 have k1 : (mistE W p != 0) = true := by simpa using h1
 refine calls_W (n := 38) Try.func40 rfl rfl rfl ?_
 refine sg <| bx rfl rfl rfl rfl λ w_1 b_2 x_3 l_4 B_5 => ?_
 have := x_3.size
 have z_1 := eT (Ext.rf w) x_3
 have q_7 := B_5.lt
 refine bx rfl rfl rfl rfl λ w_8 b_9 x_10 l_11 B_12 => ?_
 have := x_10.size
 have z_8 := eT z_1 x_10
 have q_14 := B_12.lt
 refine va rfl <| va rfl <| nK <| sg <| ?_
 have B_5 := B_5.later x_10
 refine vL (ld rfl (B_5.all eF54 eF55)) <| vL (ld rfl (B_12.one eF5 rfl)) <| ca eF86 rfl rfl ((view_any a W p _ (hW.keep z_8)).mono ?_)
 rintro e w_18 ⟨a_15, rfl, HV_15, x_19⟩
 refine ⟨_, rfl, ?_⟩
 have := x_19.size
 have z_18 := eT z_8 x_19
 have u_16 := λ q hq => (HV_15.lt q hq).2
 have lo_17 := λ q hq => (HV_15.lt q hq).1
 refine vm rfl <| vL (ex rfl rfl) <| vL (ex rfl rfl) <| al rfl eF53 rfl rfl λ w_21 b_22 x_23 l_24 B_25 => ?_
 have := x_23.size
 have z_21 := eT z_18 x_23
 have q_27 := B_25.lt
 refine st rfl rfl B_25 rfl eF55 rfl rfl rfl λ w_28 m_29 B_25 => ?_
 have := m_29.size
 have z_28 := Ext.mod z_21 m_29 (ge1 (by omega))
 have := m_29.size
 refine va rfl <| nK <| sq <| sg <| vm rfl <| vL (bne rfl rfl) <| nK <| cT (evb rfl k1) <| sg <| vm rfl <| va rfl <| va rfl <| nK <| rt <| tT <| tR (.tmp rfl (.tmp rfl .nil)) <| ?_
 exact ⟨mistE W p, none, 0, [], rfl, .inr ⟨h1, rfl⟩, Rep.SOwn.nil _, z_28⟩
theorem blind_B (a : Wd.At) (W : Wd) (p : Int) (A : Option Addr) (c : Nat) (l : List Odr) (w : World) (hW : Wd.Has w a W) (hl : Odr.rep.SHas 48 w A c l) (h1 : mistE W p = 0) (h2 : splE W l ≠ 0) :
  Calls Try.prog 40 #[.agg ((Wd.cells a W).toArray), .int .i64 p, .slice A l.length c] w (λ e w' => ∃ e' A' c' m, e = .returned (.tuple #[.slice A' (m : List Odr).length c', .int .i64 e']) ∧ ((e' = 0 ∧ mistE W p = 0 ∧ splE W l = 0 ∧ m = blindL W p l) ∨ (e' ≠ 0 ∧ m = [])) ∧ Odr.rep.SOwn 72 48 w' w.heap.size (Rep.blkOf A') A' c' m ∧ Ext w w') := by
 have k1 : (mistE W p != 0) = false := by simpa using h1
 have k2 : (splE W l != 0) = true := by simpa using h2
 refine calls_W (n := 38) Try.func40 rfl rfl rfl ?_
 refine sg <| bx rfl rfl rfl rfl λ w_1 b_2 x_3 l_4 B_5 => ?_
 have := x_3.size
 have z_1 := eT (Ext.rf w) x_3
 have q_7 := B_5.lt
 refine bx rfl rfl rfl rfl λ w_8 b_9 x_10 l_11 B_12 => ?_
 have := x_10.size
 have z_8 := eT z_1 x_10
 have q_14 := B_12.lt
 refine va rfl <| va rfl <| nK <| sg <| ?_
 have B_5 := B_5.later x_10
 refine vL (ld rfl (B_5.all eF54 eF55)) <| vL (ld rfl (B_12.one eF5 rfl)) <| ca eF86 rfl rfl ((view_any a W p _ (hW.keep z_8)).mono ?_)
 rintro e w_18 ⟨a_15, rfl, HV_15, x_19⟩
 refine ⟨_, rfl, ?_⟩
 have := x_19.size
 have z_18 := eT z_8 x_19
 have u_16 := λ q hq => (HV_15.lt q hq).2
 have lo_17 := λ q hq => (HV_15.lt q hq).1
 refine vm rfl <| vL (ex rfl rfl) <| vL (ex rfl rfl) <| al rfl eF53 rfl rfl λ w_21 b_22 x_23 l_24 B_25 => ?_
 have := x_23.size
 have z_21 := eT z_18 x_23
 have q_27 := B_25.lt
 refine st rfl rfl B_25 rfl eF55 rfl rfl rfl λ w_28 m_29 B_25 => ?_
 have := m_29.size
 have z_28 := Ext.mod z_21 m_29 (ge1 (by omega))
 have := m_29.size
 refine va rfl <| nK <| sq <| sg <| vm rfl <| vL (bne rfl rfl) <| nK <| cF (evb rfl k1) <| sK <| sq <| sg <| vm rfl <| ?_
 have B_5 := B_5.later (eT x_19 x_23)
 have B_5 := B_5.mod m_29 (nm1 (by omega))
 refine vL (ld rfl (B_5.all eF54 eF55)) <| ca eF171 rfl rfl ((split_bad _ _ l a W _ (hl.keep z_28) (hW.keep z_28) h2).mono ?_)
 rintro e w_32 ⟨rfl, x_33⟩
 refine ⟨_, rfl, ?_⟩
 have := x_33.size
 have z_32 := eT z_28 x_33
 refine vm rfl <| vL (ex rfl rfl) <| vL (ex rfl rfl) <| vL (ex rfl rfl) <| vL (ex rfl rfl) <| va rfl <| va rfl <| va rfl <| va rfl <| nK <| sg <| vm rfl <| vL (bne rfl rfl) <| nK <| cT (evb rfl k2) <| sg <| vm rfl <| va rfl <| va rfl <| nl <| ?_
 refine nT <| rt <| tT <| tR (.tmp rfl (.tmp rfl .nil)) <| ?_
 exact ⟨splE W l, none, 0, [], rfl, .inr ⟨h2, rfl⟩, Rep.SOwn.nil _, z_32⟩
theorem blind_C (a : Wd.At) (W : Wd) (p : Int) (A : Option Addr) (c : Nat) (l : List Odr) (w : World) (hW : Wd.Has w a W) (hl : Odr.rep.SHas 48 w A c l) (h1 : mistE W p = 0) (h2 : splE W l = 0) :
  Calls Try.prog 40 #[.agg ((Wd.cells a W).toArray), .int .i64 p, .slice A l.length c] w (λ e w' => ∃ e' A' c' m, e = .returned (.tuple #[.slice A' (m : List Odr).length c', .int .i64 e']) ∧ ((e' = 0 ∧ mistE W p = 0 ∧ splE W l = 0 ∧ m = blindL W p l) ∨ (e' ≠ 0 ∧ m = [])) ∧ Odr.rep.SOwn 72 48 w' w.heap.size (Rep.blkOf A') A' c' m ∧ Ext w w') := by
 have k1 : (mistE W p != 0) = false := by simpa using h1
 refine calls_W (n := 38) Try.func40 rfl rfl rfl ?_
 refine sg <| bx rfl rfl rfl rfl λ w_1 b_2 x_3 l_4 B_5 => ?_
 have := x_3.size
 have z_1 := eT (Ext.rf w) x_3
 have q_7 := B_5.lt
 refine bx rfl rfl rfl rfl λ w_8 b_9 x_10 l_11 B_12 => ?_
 have := x_10.size
 have z_8 := eT z_1 x_10
 have q_14 := B_12.lt
 refine va rfl <| va rfl <| nK <| sg <| ?_
 have B_5 := B_5.later x_10
 refine vL (ld rfl (B_5.all eF54 eF55)) <| vL (ld rfl (B_12.one eF5 rfl)) <| ca eF86 rfl rfl ((view_any a W p _ (hW.keep z_8)).mono ?_)
 rintro e w_18 ⟨a_15, rfl, HV_15, x_19⟩
 refine ⟨_, rfl, ?_⟩
 have := x_19.size
 have z_18 := eT z_8 x_19
 have u_16 := λ q hq => (HV_15.lt q hq).2
 have lo_17 := λ q hq => (HV_15.lt q hq).1
 refine vm rfl <| vL (ex rfl rfl) <| vL (ex rfl rfl) <| al rfl eF53 rfl rfl λ w_21 b_22 x_23 l_24 B_25 => ?_
 have := x_23.size
 have z_21 := eT z_18 x_23
 have q_27 := B_25.lt
 refine st rfl rfl B_25 rfl eF55 rfl rfl rfl λ w_28 m_29 B_25 => ?_
 have := m_29.size
 have z_28 := Ext.mod z_21 m_29 (ge1 (by omega))
 have := m_29.size
 refine va rfl <| nK <| sq <| sg <| vm rfl <| vL (bne rfl rfl) <| nK <| cF (evb rfl k1) <| sK <| sq <| sg <| vm rfl <| ?_
 have B_5 := B_5.later (eT x_19 x_23)
 have B_5 := B_5.mod m_29 (nm1 (by omega))
 refine vL (ld rfl (B_5.all eF54 eF55)) <| ca eF171 rfl rfl ((split_ok _ _ l a W _ (hl.keep z_28) (hW.keep z_28) h2).mono ?_)
 rintro e w_39 ⟨A_320, c_320, A_321, c_321, A_322, c_322, rfl, OS_320, OS_321, OS_322, x_40⟩
 refine ⟨_, rfl, ?_⟩
 have := x_40.size
 have z_39 := eT z_28 x_40
 have u_33 := λ q hq => (OS_320.lt q hq).2
 have lo_34 := λ q hq => (OS_320.lt q hq).1
 have u_35 := λ q hq => (OS_321.lt q hq).2
 have lo_36 := λ q hq => (OS_321.lt q hq).1
 have u_37 := λ q hq => (OS_322.lt q hq).2
 have lo_38 := λ q hq => (OS_322.lt q hq).1
 refine vm rfl <| vL (ex rfl rfl) <| vL (ex rfl rfl) <| vL (ex rfl rfl) <| vL (ex rfl rfl) <| va rfl <| va rfl <| va rfl <| va rfl <| nK <| sg <| vm rfl <| vL (bne rfl rfl) <| nK <| cF rfl <| sK <| sg <| vm rfl <| ?_
 have B_25 := B_25.later x_40
 have V5 := B_25
 have B_12 := B_12.later (eT x_19 x_23)
 have B_12 := B_12.mod m_29 (nm1 (by omega))
 have B_12 := B_12.later x_40
 have V6 := B_12
 have HV_15 := HV_15.later x_23
 have HV_15 := HV_15.mod m_29 (fk1 u_16 (by omega))
 have HV_15 := HV_15.later x_40
 have V7 := HV_15
 refine ca eF182 rfl rfl ((clone_O _ _ l _ (hl.keep z_39)).mono ?_)
 rintro e w_45 ⟨A42, c42, rfl, OC42, hn42, x_46⟩
 refine ⟨_, rfl, ?_⟩
 have := x_46.size
 have z_45 := eT z_39 x_46
 have u_43 := λ q hq => (OC42.lt q hq).2
 have lo_44 := λ q hq => (OC42.lt q hq).1
 refine vL (mf rfl rfl) <| ca eF184 rfl rfl ((delF_O w_39 71 [.pointer (some ⟨b_22, 0, none⟩), .pointer (some ⟨b_9, 0, none⟩)] (λ x => hides W p x) _ _ _ _ (by first | exact Ext.rf _ | assumption) OC42 eF183 (λ x hx w' h => bhide_any x a_15 (viewW W p) p b_22 b_9 w' (V7.later h).has (V5.later h) (V6.later h))).mono ?_)
 rintro e w_50 ⟨rfl, OD_48, m_49⟩
 refine ⟨_, rfl, ?_⟩
 have := m_49.size
 have z_50 := Ext.mod z_45 m_49 (λ q hq => by have := (OC42.lt q hq).1; omega)
 refine va rfl <| va rfl <| nK <| rt <| tR (.tmp rfl (.tmp rfl .nil)) <| ?_
 exact ⟨0, A42, c42, blindL W p l, rfl, .inl ⟨rfl, h1, h2, rfl⟩, OD_48.down (by omega), z_50⟩
theorem blindW_any (a : Wd.At) (W : Wd) (p : Int) (A : Option Addr) (c : Nat) (l : List Odr) (w : World) (hW : Wd.Has w a W) (hl : Odr.rep.SHas 48 w A c l) : Calls Try.prog 40 #[.agg (Wd.cells a W).toArray, .int .i64 p, .slice A l.length c] w (λ e w' => ∃ e' A' c' m, e = .returned (.tuple #[.slice A' (m : List Odr).length c', .int .i64 e']) ∧ ((e' = 0 ∧ mistE W p = 0 ∧ splE W l = 0 ∧ m = blindL W p l) ∨ (e' ≠ 0 ∧ m = [])) ∧ Odr.rep.SOwn 72 48 w' w.heap.size (Rep.blkOf A') A' c' m ∧ Ext w w') := by
 by_cases h1 : mistE W p = 0
 ·by_cases h2 : splE W l = 0
  ·exact blind_C a W p A c l w hW hl h1 h2
  ·exact blind_B a W p A c l w hW hl h1 h2
 ·exact blind_A a W p A c l w hW hl h1
theorem bmine_any (pt : Odr) (p : Int) (b : Nat) (w : World) (HB : Blk w b [.int .i64 p] 3 (0, 0)) :
  Calls Try.prog 42 #[.agg #[.int .i64 pt.by_, .int .i64 pt.kind, .int .i64 pt.who, .int .i64 pt.spot.x, .int .i64 pt.spot.y, .int .i64 pt.what], .pointer (some ⟨b, 0, none⟩)] w (λ e w' => e = .returned (.bool (pt.by_ != p)) ∧ Ext w w') := by
 have qB := HB.lt
 refine calls_W (n := 8) Try.func42 rfl rfl rfl ?_
 refine sg <| bx rfl rfl rfl rfl λ w_1 b_2 x_3 l_4 B_5 => ?_
 have := x_3.size
 have z_1 := eT (Ext.rf w) x_3
 have q_7 := B_5.lt
 refine va rfl <| nK <| sg <| vL (fa eF154 rfl) <| vL (ld rfl (B_5.one eF5 rfl)) <| ?_
 have HB := HB.later x_3
 refine vL (ld rfl (HB.one eF5 rfl)) <| vL (bne rfl rfl) <| va rfl <| nK <| rt <| tR (.tmp rfl .nil) <| ?_
 exact ⟨rfl, z_1⟩
theorem mistBlows_w (a : Wd.At) (W : Wd) (p : Int) (A : Option Addr) (c : Nat) (l : List Odr) (w : World) (hW : Wd.Has w a W) (hl : Odr.rep.SHas 48 w A c l) :
  Calls Try.prog 11 #[.agg ((Wd.cells a W).toArray), .int .i64 p, .slice A l.length c] w (λ e w' => e = .returned (.bool true) ∧ Ext w w') := by
 refine calls_W (n := 56) Try.func11 rfl rfl rfl ?_
 refine sg <| bx rfl rfl rfl rfl λ w_1 b_2 x_3 l_4 B_5 => ?_
 have := x_3.size
 have z_1 := eT (Ext.rf w) x_3
 have q_7 := B_5.lt
 refine bx rfl rfl rfl rfl λ w_8 b_9 x_10 l_11 B_12 => ?_
 have := x_10.size
 have z_8 := eT z_1 x_10
 have q_14 := B_12.lt
 refine va rfl <| nK <| sg <| ?_
 have B_5 := B_5.later x_10
 refine vL (ld rfl (B_5.all eF54 eF55)) <| vL (ld rfl (B_12.one eF5 rfl)) <| vm rfl <| ca eF185 rfl rfl ((blindW_any a W p _ _ l _ (hW.keep z_8) (hl.keep z_8)).mono ?_)
 rintro e w_17 ⟨EB, AB, cB, mB, rfl, hB, OB, x_18⟩
 refine ⟨_, rfl, ?_⟩
 have := x_18.size
 have z_17 := eT z_8 x_18
 have u_15 := λ q hq => (OB.lt q hq).2
 have lo_16 := λ q hq => (OB.lt q hq).1
 refine vm rfl <| vL (ex rfl rfl) <| vL (ex rfl rfl) <| va rfl <| va rfl <| nK <| sq <| sq <| ?_
 rcases b1x_ (EB != 0) with c0 | c0
 ·refine rg <| ca eF186 rfl rfl ((mistLives_any _).mono ?_)
  rintro e w_20 ⟨rfl, x_21⟩
  refine ⟨_, rfl, ?_⟩
  have := x_21.size
  have z_20 := eT z_17 x_21
  refine vL (nt rfl) <| vm rfl <| ug rfl rfl rfl <| vm rfl <| ug rfl rfl rfl <| vL (bne rfl rfl) <| vL (pkF rfl (evb rfl c0)) <| nK <| cT rfl <| sg <| ca eF186 rfl rfl ((mistLives_any _).mono ?_)
  rintro e w_23 ⟨rfl, x_24⟩
  refine ⟨_, rfl, ?_⟩
  have := x_24.size
  have z_23 := eT z_20 x_24
  refine va rfl <| nK <| rt <| tT <| tR (.tmp rfl .nil) <| ?_
  exact ⟨rfl, z_23⟩
 ·obtain ⟨m1, m2, m3⟩ : mistE W p = 0 ∧ splE W l = 0 ∧ mB = blindL W p l := by rcases hB with ⟨_, h⟩ | ⟨h, _⟩; exact h; exact absurd (by simpa using c0) h
  obtain ⟨y1, y2⟩ := turn_unseen m1 m2
  refine rg <| ca eF186 rfl rfl ((mistLives_any _).mono ?_)
  rintro e w_26 ⟨rfl, x_27⟩
  refine ⟨_, rfl, ?_⟩
  have := x_27.size
  have z_26 := eT z_17 x_27
  refine vL (nt rfl) <| vm rfl <| ug rfl rfl rfl <| vm rfl <| ug rfl rfl rfl <| vL (bne rfl rfl) <| vL (pkF rfl (evb rfl c0)) <| nK <| cF rfl <| sK <| sg <| vm rfl <| ?_
  have B_12 := B_12.later (eT x_18 x_27)
  have V6 := B_12
  refine ca eF182 rfl rfl ((clone_O _ _ l _ (hl.keep z_26)).mono ?_)
  rintro e w_32 ⟨A29, c29, rfl, OC29, hn29, x_33⟩
  refine ⟨_, rfl, ?_⟩
  have := x_33.size
  have z_32 := eT z_26 x_33
  have u_30 := λ q hq => (OC29.lt q hq).2
  have lo_31 := λ q hq => (OC29.lt q hq).1
  refine vL (mf rfl rfl) <| ca eF184 rfl rfl ((delF_O w_26 42 [.pointer (some ⟨b_9, 0, none⟩)] (λ x => x.by_ != p) _ _ _ _ (by first | exact Ext.rf _ | assumption) OC29 eF187 (λ x hx w' h => bmine_any x p b_9 w' (V6.later h))).mono ?_)
  rintro e w_37 ⟨rfl, OD_35, m_36⟩
  refine ⟨_, rfl, ?_⟩
  have := m_36.size
  have z_37 := Ext.mod z_32 m_36 (λ q hq => by have := (OC29.lt q hq).1; omega)
  refine va rfl <| nK <| sg <| ?_
  have B_5 := B_5.later (eT x_18 (eT x_27 x_33))
  have d_39 : ∀ q ∈ Rep.blkOf A29, q = b_2 → False := λ q hq hb => by (have := lo_31 q hq; omega)
  have B_5 := B_5.mod m_36 (λ hq => d_39 _ hq rfl)
  refine vL (ld rfl (B_5.all eF54 eF55)) <| vm rfl <| ca eF188 rfl rfl ((turn_any a W _ _ (mineL p l) _ (hW.keep z_37) OD_35.has).mono ?_)
  rintro e w_49 ⟨a40, A400, c400, A401, c401, A402, c402, rfl, HO40, OR400, OR401, OR402, hd40, x_50⟩
  refine ⟨_, rfl, ?_⟩
  have := x_50.size
  have z_49 := eT z_37 x_50
  have u_41 := λ q hq => (HO40.lt q hq).2
  have lo_42 := λ q hq => (HO40.lt q hq).1
  have u_43 := λ q hq => (OR400.lt q hq).2
  have lo_44 := λ q hq => (OR400.lt q hq).1
  have u_45 := λ q hq => (OR401.lt q hq).2
  have lo_46 := λ q hq => (OR401.lt q hq).1
  have u_47 := λ q hq => (OR402.lt q hq).2
  have lo_48 := λ q hq => (OR402.lt q hq).1
  have dd400 : ∀ q ∈ Rep.blkOf A400, q ∈ WOwn.foot a40 → False := λ q hq => hd40 q (.inl hq)
  have dw400 : ∀ q ∈ WOwn.foot a40, q ∈ Rep.blkOf A400 → False := λ q h1 h2 => dd400 q h2 h1
  have dd401 : ∀ q ∈ Rep.blkOf A401, q ∈ WOwn.foot a40 → False := λ q hq => hd40 q (.inr (.inl hq))
  have dw401 : ∀ q ∈ WOwn.foot a40, q ∈ Rep.blkOf A401 → False := λ q h1 h2 => dd401 q h2 h1
  have dd402 : ∀ q ∈ Rep.blkOf A402, q ∈ WOwn.foot a40 → False := λ q hq => hd40 q (.inr (.inr hq))
  have dw402 : ∀ q ∈ WOwn.foot a40, q ∈ Rep.blkOf A402 → False := λ q h1 h2 => dd402 q h2 h1
  refine vm rfl <| vL (ex rfl rfl) <| vL (ex rfl rfl) <| vL (ex rfl rfl) <| al rfl eF53 rfl rfl λ w_52 b_53 x_54 l_55 B_56 => ?_
  have := x_54.size
  have z_52 := eT z_49 x_54
  have q_58 := B_56.lt
  refine al rfl eF170 rfl rfl λ w_59 b_60 x_61 l_62 B_63 => ?_
  have := x_61.size
  have z_59 := eT z_52 x_61
  have q_65 := B_63.lt
  have B_56 := B_56.later x_61
  refine st rfl rfl B_56 rfl eF55 rfl rfl rfl λ w_66 m_67 B_56 => ?_
  have := m_67.size
  have z_66 := Ext.mod z_59 m_67 (ge1 (by omega))
  have := m_67.size
  have B_63 := B_63.mod m_67 (nm1 (by omega))
  refine st (new := [.slice A400 ((turnG W (mineL p l)).length) c400, .slice A401 ((turnM W (mineL p l)).length) c401, .slice A402 ((turnD W (mineL p l)).length) c402]) rfl rfl B_63 rfl eF172 rfl rfl rfl λ w_70 m_71 B_63 => ?_
  have := m_71.size
  have z_70 := Ext.mod z_66 m_71 (ge1 (by omega))
  have := m_71.size
  refine va rfl <| nK <| sg <| ?_
  have B_5 := B_5.later (eT x_50 (eT x_54 x_61))
  have B_5 := B_5.mod m_67 (nm1 (by omega))
  have B_5 := B_5.mod m_71 (nm1 (by omega))
  refine vL (ld rfl (B_5.all eF54 eF55)) <| vm rfl <| ?_
  have OB := OB.later (eT x_27 x_33)
  have OB := OB.mod m_36 (λ q hq h => by exfalso; (have := lo_31 q h; (have := u_15 q hq; omega)))
  have OB := OB.later (eT x_50 (eT x_54 x_61))
  have OB := OB.mod m_67 (fk1 u_15 (by omega))
  have OB := OB.mod m_71 (fk1 u_15 (by omega))
  refine ca eF188 rfl rfl ((turn_any a W _ _ mB _ (hW.keep z_70) OB.has).mono ?_)
  rintro e w_83 ⟨a74, A740, c740, A741, c741, A742, c742, rfl, HO74, OR740, OR741, OR742, hd74, x_84⟩
  refine ⟨_, rfl, ?_⟩
  have := x_84.size
  have z_83 := eT z_70 x_84
  have u_75 := λ q hq => (HO74.lt q hq).2
  have lo_76 := λ q hq => (HO74.lt q hq).1
  have u_77 := λ q hq => (OR740.lt q hq).2
  have lo_78 := λ q hq => (OR740.lt q hq).1
  have u_79 := λ q hq => (OR741.lt q hq).2
  have lo_80 := λ q hq => (OR741.lt q hq).1
  have u_81 := λ q hq => (OR742.lt q hq).2
  have lo_82 := λ q hq => (OR742.lt q hq).1
  have dd740 : ∀ q ∈ Rep.blkOf A740, q ∈ WOwn.foot a74 → False := λ q hq => hd74 q (.inl hq)
  have dw740 : ∀ q ∈ WOwn.foot a74, q ∈ Rep.blkOf A740 → False := λ q h1 h2 => dd740 q h2 h1
  have dd741 : ∀ q ∈ Rep.blkOf A741, q ∈ WOwn.foot a74 → False := λ q hq => hd74 q (.inr (.inl hq))
  have dw741 : ∀ q ∈ WOwn.foot a74, q ∈ Rep.blkOf A741 → False := λ q h1 h2 => dd741 q h2 h1
  have dd742 : ∀ q ∈ Rep.blkOf A742, q ∈ WOwn.foot a74 → False := λ q hq => hd74 q (.inr (.inr hq))
  have dw742 : ∀ q ∈ WOwn.foot a74, q ∈ Rep.blkOf A742 → False := λ q h1 h2 => dd742 q h2 h1
  refine vm rfl <| vL (ex rfl rfl) <| vL (ex rfl rfl) <| vL (ex rfl rfl) <| al rfl eF53 rfl rfl λ w_86 b_87 x_88 l_89 B_90 => ?_
  have := x_88.size
  have z_86 := eT z_83 x_88
  have q_92 := B_90.lt
  refine al rfl eF170 rfl rfl λ w_93 b_94 x_95 l_96 B_97 => ?_
  have := x_95.size
  have z_93 := eT z_86 x_95
  have q_99 := B_97.lt
  have B_90 := B_90.later x_95
  refine st rfl rfl B_90 rfl eF55 rfl rfl rfl λ w_100 m_101 B_90 => ?_
  have := m_101.size
  have z_100 := Ext.mod z_93 m_101 (ge1 (by omega))
  have := m_101.size
  have B_97 := B_97.mod m_101 (nm1 (by omega))
  refine st (new := [.slice A740 ((turnG W mB).length) c740, .slice A741 ((turnM W mB).length) c741, .slice A742 ((turnD W mB).length) c742]) rfl rfl B_97 rfl eF172 rfl rfl rfl λ w_104 m_105 B_97 => ?_
  have := m_105.size
  have z_104 := Ext.mod z_100 m_105 (ge1 (by omega))
  have := m_105.size
  refine va rfl <| nK <| sg <| vm rfl <| vm rfl <| vL (beq rfl rfl) <| vm rfl <| ?_
  have B_56 := B_56.mod m_71 (nm1 (by omega))
  have B_56 := B_56.later (eT x_84 (eT x_88 x_95))
  have B_56 := B_56.mod m_101 (nm1 (by omega))
  have B_56 := B_56.mod m_105 (nm1 (by omega))
  refine vQ rfl rfl rfl rfl (λ hc => ld rfl (B_56.all eF54 eF55)) rfl <| ?_
  have B_90 := B_90.mod m_105 (nm1 (by omega))
  refine vQ rfl rfl rfl rfl (λ hc => ld rfl (B_90.all eF54 eF55)) rfl <| ?_
  have HO40 := HO40.later (eT x_54 x_61)
  have HO40 := HO40.mod m_67 (fk1 u_41 (by omega))
  have HO40 := HO40.mod m_71 (fk1 u_41 (by omega))
  have HO40 := HO40.later (eT x_84 (eT x_88 x_95))
  have HO40 := HO40.mod m_101 (fk1 u_41 (by omega))
  have HO40 := HO40.mod m_105 (fk1 u_41 (by omega))
  have HO74 := HO74.later (eT x_88 x_95)
  have HO74 := HO74.mod m_101 (fk1 u_75 (by omega))
  have HO74 := HO74.mod m_105 (fk1 u_75 (by omega))
  refine vC rfl rfl rfl rfl eF189 (λ hc => ec (gt hc rfl) (ec (gt hc rfl) rfl)) (λ hc => sameWorld_any _ a40 (turnW W (mineL p l)) a74 (turnW W mB) HO40.has HO74.has) rfl λ w_108 x_109 => ?_
  have := x_109.size
  have z_108 := eT z_104 x_109
  refine vL (pA rfl rfl rfl rfl) <| va rfl <| nK <| rt <| tR (.tmp rfl .nil) <| ?_
  exact ⟨ret_true (by rw [m3, y1, y2]; simp), z_108⟩
theorem mistBlows_any (c0 : Array Value) (a1 : Int) (a2 : Option Addr) (len2 cap2 : Nat) (w : World) (h0 : (.cons (.cons (.int .i64) (.cons (.int .i64) (.cons (.slice (.int .i64) 8) .nil))) (.cons (.slice (.cons (.int .i64) (.cons (.int .i64) .nil)) 16) (.cons (.slice (.int .i64) 8) (.cons (.slice (.int .i64) 8) (.cons (.slice (.cons (.int .i64) (.cons (.int .i64) (.cons (.int .i64) (.cons (.cons (.int .i64) (.cons (.int .i64) .nil)) (.cons (.int .i64) (.cons (.int .i64) .nil)))))) 56) (.cons (.int .i64) (.cons (.int .i64) .nil)))))) : Sh).Ok w c0.toList) (w1 : (Lit.int .i64 a1).wf = true) (h2 : (.slice (.cons (.int .i64) (.cons (.int .i64) (.cons (.int .i64) (.cons (.cons (.int .i64) (.cons (.int .i64) .nil)) (.cons (.int .i64) .nil))))) 48 : Sh).Ok w [.slice a2 len2 cap2]) :
  Calls Try.prog 11 #[.agg c0, .int .i64 a1, .slice a2 len2 cap2] w λ e w' => e = .returned (.bool true) ∧ Below w.heap.size w w' := by
 obtain ⟨a, W, e, hW⟩ := Wd.opens w _ (show Wd.sh.Ok w c0.toList from h0)
 have hc : c0 = (Wd.cells a W).toArray := by rw [← e]
 subst hc
 obtain ⟨A, c, l, e2, hl⟩ := Rep.opens_slice (R := Odr.rep) (by_ := 48) Odr.opens rfl (by decide) h2
 simp only [List.cons.injEq, Value.slice.injEq, and_true] at e2
 obtain ⟨rfl, rfl, rfl⟩ := e2
 exact mistBlows_w a W _ _ _ _ w hW hl
end
end Go.Proofs.Ytccankldeogdlaa
