import Derived.Test.YtccankldeogdlaaGreatGra
import Derived.Test.YtccankldeogdlaaGreatGolFD
import Derived.Test.YtccankldeogdlaaGreatBlw
set_option linter.unusedVariables false
set_option linter.unusedSimpArgs false
set_option maxRecDepth 100000
set_option maxHeartbeats 4000000
namespace Go.Proofs.YtccankldeogdlaaGreat
section
open Go.RowKit
theorem TcC_el_S_S_api_Order : ElT Tryz.prog svRep 29 36 24 := ElT.mk_ (z := .slice none 0 0) (k := 1) Tryz.underlying29 info_ords rfl rfl (by decide) (λ j u h => raw0V j u h)
theorem TcC_el_S_uint64 : ElT Tryz.prog repU 30 39 8 := ElT.mk_ (z := .int .u64 0) (k := 1) Tryz.underlying30 info_u64 rfl rfl (by decide) (λ j u h => raw0U j u h)
open Go.Proofs.YtccankldeogdlaaGreat.Bv
theorem svRep_plain : svRep.Plain := Rep.flat_plain
theorem repU_plain : repU.Plain := Rep.flat_plain
theorem b3t_ (p q r : Bool) : p = true ∨ (p = false ∧ q = true) ∨ (p = false ∧ q = false ∧ r = true) ∨ (p = false ∧ q = false ∧ r = false) := by cases p <;> cases q <;> cases r <;> simp
theorem sTn {P : Program} {E : List (Nat × Value)} {w : World} {d : Option Nat} {ty : TypeId} {pos : String} {af : Array Edge} {g : Option (Nat × Bool)} {x y : Operand} {t : TypeId} {A : Option Addr} {len cap e s : Nat} {k : IntKind} (lo m : Nat) {i : Int} (ht : P.underlying t = some (.slice e)) (hs : Sz P e s) (hx : ev E x = some (.slice A len cap)) (hy : ev E y = some (.int k i)) (hi : i = (lo : Int)) (h1 : lo ≤ len) (hm : m = len - lo) :
  Runs P E ⟨d, .slice t x (some y) none none, ty, pos, af, g⟩ w (.slice (sA A cap lo s) m (cap - lo)) w := by
 subst hm; exact sT lo ht hs hx hy hi h1
theorem ords_open {w : World} {A : Option Addr} {n c : Nat} (h : (.slice (.slice Odr.sh 48) 24 : Sh).Ok w [.slice A n c]) : ∃ T L, n = (T : List SV).length ∧ svRep.SHas 24 w A c T ∧ Tells w T L := by
 obtain ⟨A', c', L, e, hL⟩ := Rep.opens_slice (R := Odr.rep.slice 66 48) (by_ := 24) (λ w cs h => by
  obtain ⟨A, c, l, e, hl⟩ := Rep.opens_slice (R := Odr.rep) (by_ := 48) Odr.opens rfl (by decide) h
  exact ⟨l, A, c, e, hl⟩) rfl (by decide) h
 simp only [List.cons.injEq, Value.slice.injEq, and_true] at e
 obtain ⟨rfl, rfl, rfl⟩ := e
 obtain ⟨s1, s2, s3, s4, ess, s5, s6⟩ := hL
 have key : ∀ (ess : List (List Value)) (L : List (List Odr)), All2 (λ es a => (Odr.rep.slice 66 48).has w es a) ess L → ∃ T : List SV, T.length = L.length ∧ All2 (λ es a => svRep.has w es a) ess T ∧ ∀ (i : Nat) (v : SV), T[i]? = some v → ∃ l : List Odr, L[i]? = some l ∧ v.n = l.length ∧ Odr.rep.SHas 48 w v.a v.c l := by
  intro ess
  induction ess with
  | nil =>
   intro L h
   cases L with
   | nil => exact ⟨[], rfl, trivial, λ i v h => by simp at h⟩
   | cons => exact h.elim
  | cons es ess ih =>
   intro L h
   cases L with
   | nil => exact h.elim
   | cons l L =>
    obtain ⟨⟨A, c, he, hl⟩, h2⟩ := h
    obtain ⟨T, t1, t2, t3⟩ := ih L h2
    refine ⟨⟨A, l.length, c⟩ :: T, by simp [t1], ⟨⟨he, trivial⟩, t2⟩, λ i v hi => ?_⟩
    cases i with
    | zero =>
     obtain rfl := Option.some.inj (show some (⟨A, l.length, c⟩ : SV) = some v from hi)
     exact ⟨l, rfl, rfl, hl⟩
    | succ i => exact t3 i v hi
 obtain ⟨T, t1, t2, t3⟩ := key ess L s5
 exact ⟨T, L, t1.symm, ⟨by rw [t1]; exact s1, s2, by rw [t1]; exact s3, s4, ess, t2, by rw [t1]; exact s6⟩, t1, t3⟩
theorem clone_U (A : Option Addr) (c : Nat) (l : List (BitVec 64)) (w : World) (h : repU.SHas 8 w A c l) :
  Calls Tryz.prog 10 #[.slice A l.length c] w λ e w' => ∃ A' c', e = .returned (.slice A' l.length c') ∧ repU.SOwn 39 8 w' w.heap.size (Rep.blkOf A') A' c' l ∧ (A' = none ↔ A = none) ∧ Below w.heap.size w w' := by
 obtain ⟨i0, hi, hz0, hz1, hz2⟩ := info_parts info_u64
 have qnil : ∀ (w : World) (a : Option Addr) (n c n' c' : Nat), (binOp .eql 30 (.slice a n c) (.slice none n' c')).run Tryz.prog w = .ok (.bool a.isNone) w := λ w a n c n' c' => Lib.run_eql_slice_nil w _ _ a n c n' c' Tryz.underlying30
 cases A with
 | none =>
  obtain rfl : c = 0 := h.2.2.2.1 rfl
  obtain rfl : l = [] := List.eq_nil_of_length_eq_zero (by have := h.1; omega)
  go_enter Tryz.func10, Tryz.ntmps10
  go_wp2_with fail
  go_ret
  exact ⟨none, 0, rfl, Rep.SOwn.nil _, by simp, Below.refl _ _⟩
 | some a =>
  have hb0 : Below w.heap.size w (w.alloc (.cells #[] 39)) := (Below.refl _ w).alloc (Nat.le_refl _) _
  obtain ⟨n, HN⟩ : ∃ n, Hid (l.length = n) := ⟨_, Lib.hid rfl⟩
  obtain ⟨h1, h2, h3, h4, ess, h5, h6⟩ := h.keep hb0
  have H5 := Lib.hid h5
  have hone : ∀ u ∈ ess.flatten, u.oneCell' = true := by
   intro u hu
   obtain ⟨y, hy, hu⟩ := List.mem_flatten.1 hu
   obtain ⟨a, ha⟩ := h5.left y hy
   exact repU.one ha u hu
  have hraw : ∀ (j : Nat) u, ess.flatten[j]? = some u → repU.raw (j % repU.size) u := λ j u hu => flat_raw h5 (by decide) hu
  rw [HN.out] at h1 h3 h6
  have HR := Lib.hid h6
  have HE := Lib.hid (Own.empty (e := 39) (size := repU.size) (G := repU.raw) w (Nat.le_refl w.heap.size))
  clear h h4 h5 h6
  rw [HN.out]
  go_enter Tryz.func10, Tryz.ntmps10
  go_wp2_with (at_builtin; refine wpList_append_all _ rfl _ _ 30 rfl w.heap.size 39 i0 (Value.int .u64 0) repU.size 8 Tryz.underlying30 hi hz0 hz1 hz2 rfl (by decide) repU.raw raw0U _ _ _ rfl HE.out (some a) n c ess.flatten rfl HR.out hone hraw ?qc4 ?qc5 ?qc6 ?_)
  case qc4 => unfold maxLen; omega
  case qc5 => omega
  case qc6 => simp
  intro v' w1 hown hgrow hnil hat
  have hb1 := hb0.grown hgrow (by simp) (by intro k hk; simp [Value.ownBlock] at hk; omega)
  obtain ⟨A1, c1, rfl, hle, _, _, _, hnn⟩ := hown.shape
  have hA1 : A1 ≠ none := by
   intro h
   subst h
   exact hnil (hnn rfl)
  have HO : Hid (repU.SOwn 39 8 w1 w.heap.size (Rep.blkOf A1) A1 c1 l) := Lib.hid (Rep.SOwn.of_plain repU_plain H5.out (by rw [HN.out]; exact h3) (by rw [HN.out]; simpa using hown))
  have HA1 := Lib.hid hA1
  clear hgrow hnil hat hown hA1 hnn hone hraw
  go_wp2_with fail
  go_ret
  exact ⟨A1, c1, rfl, HO.out, ⟨λ h => absurd h HA1.out, λ h => by cases h⟩, hb1⟩
theorem clone_V (A : Option Addr) (c : Nat) (l : List SV) (w : World) (h : svRep.SHas 24 w A c l) :
  Calls Tryz.prog 7 #[.slice A l.length c] w λ e w' => ∃ A' c', e = .returned (.slice A' l.length c') ∧ svRep.SOwn 36 24 w' w.heap.size (Rep.blkOf A') A' c' l ∧ (A' = none ↔ A = none) ∧ Below w.heap.size w w' := by
 obtain ⟨i0, hi, hz0, hz1, hz2⟩ := info_parts info_ords
 have qnil : ∀ (w : World) (a : Option Addr) (n c n' c' : Nat), (binOp .eql 29 (.slice a n c) (.slice none n' c')).run Tryz.prog w = .ok (.bool a.isNone) w := λ w a n c n' c' => Lib.run_eql_slice_nil w _ _ a n c n' c' Tryz.underlying29
 cases A with
 | none =>
  obtain rfl : c = 0 := h.2.2.2.1 rfl
  obtain rfl : l = [] := List.eq_nil_of_length_eq_zero (by have := h.1; omega)
  go_enter Tryz.func7, Tryz.ntmps7
  go_wp2_with fail
  go_ret
  exact ⟨none, 0, rfl, Rep.SOwn.nil _, by simp, Below.refl _ _⟩
 | some a =>
  have hb0 : Below w.heap.size w (w.alloc (.cells #[] 36)) := (Below.refl _ w).alloc (Nat.le_refl _) _
  obtain ⟨n, HN⟩ : ∃ n, Hid (l.length = n) := ⟨_, Lib.hid rfl⟩
  obtain ⟨h1, h2, h3, h4, ess, h5, h6⟩ := h.keep hb0
  have H5 := Lib.hid h5
  have hone : ∀ u ∈ ess.flatten, u.oneCell' = true := by
   intro u hu
   obtain ⟨y, hy, hu⟩ := List.mem_flatten.1 hu
   obtain ⟨a, ha⟩ := h5.left y hy
   exact svRep.one ha u hu
  have hraw : ∀ (j : Nat) u, ess.flatten[j]? = some u → svRep.raw (j % svRep.size) u := λ j u hu => flat_raw h5 (by decide) hu
  rw [HN.out] at h1 h3 h6
  have HR := Lib.hid h6
  have HE := Lib.hid (Own.empty (e := 36) (size := svRep.size) (G := svRep.raw) w (Nat.le_refl w.heap.size))
  clear h h4 h5 h6
  rw [HN.out]
  go_enter Tryz.func7, Tryz.ntmps7
  go_wp2_with (at_builtin; refine wpList_append_all _ rfl _ _ 29 rfl w.heap.size 36 i0 (Value.slice none 0 0) svRep.size 24 Tryz.underlying29 hi hz0 hz1 hz2 rfl (by decide) svRep.raw raw0V _ _ _ rfl HE.out (some a) n c ess.flatten rfl HR.out hone hraw ?qc4 ?qc5 ?qc6 ?_)
  case qc4 => unfold maxLen; omega
  case qc5 => omega
  case qc6 => simp
  intro v' w1 hown hgrow hnil hat
  have hb1 := hb0.grown hgrow (by simp) (by intro k hk; simp [Value.ownBlock] at hk; omega)
  obtain ⟨A1, c1, rfl, hle, _, _, _, hnn⟩ := hown.shape
  have hA1 : A1 ≠ none := by
   intro h
   subst h
   exact hnil (hnn rfl)
  have HO : Hid (svRep.SOwn 36 24 w1 w.heap.size (Rep.blkOf A1) A1 c1 l) := Lib.hid (Rep.SOwn.of_plain svRep_plain H5.out (by rw [HN.out]; exact h3) (by rw [HN.out]; simpa using hown))
  have HA1 := Lib.hid hA1
  clear hgrow hnil hat hown hA1 hnn hone hraw
  go_wp2_with fail
  go_ret
  exact ⟨A1, c1, rfl, HO.out, ⟨λ h => absurd h HA1.out, λ h => by cases h⟩, hb1⟩
theorem equal_U (A B : Option Addr) (c d b1 b2 : Nat) (l m : List (BitVec 64)) (w : World) (h1 : repU.SHas b1 w A c l) (h2 : repU.SHas b2 w B d m) :
  Calls Tryz.prog 9 #[.slice A l.length c, .slice B m.length d] w (λ e w' => e = .returned (.bool (decide (l = m))) ∧ Ext w w') := by
 have hle := h1.len_le
 refine calls_W (n := 26) Tryz.func9 rfl rfl rfl ?_
 refine sg <| va rfl <| nK <| sq <| sg <| vm rfl <| vL (ln Tryz.underlying30 rfl) <| vm rfl <| vL (ln Tryz.underlying30 rfl) <| vL (bne rfl rfl) <| nK <| ?_
 refine cne rfl (λ h_1 => ?_) (λ h_1 => ?_)
 ·refine sg <| va rfl <| nK <| rt <| tT <| tR (.tmp rfl .nil) <| ?_
  rw [decide_eq_false (λ e => h_1 (by rw [e]))]
  exact ⟨rfl, (Ext.rf w)⟩
 ·refine sK <| sq <| sg <| vm rfl <| vL (ln Tryz.underlying30 rfl) <| vm rfl <| nK <| bk <| ?_
  refine lp (λ mI EI wI => ∃ k : Nat, EI = [(0, .slice A l.length c), (1, .slice B m.length d), (12, .int .i64 (l.length : Int)), (13, .int .i64 (k : Int))] ∧ mI = l.length - k ∧ Ext w wI ∧ (k ≤ l.length) ∧ (∀ j, j < k → l[j]? = m[j]?)) _ _ ⟨0, rfl, rfl, (Ext.rf w), by omega, λ j hj => absurd hj (by omega)⟩ (.cons rfl (.cons rfl (.cons rfl (.cons (loI rfl (by first | omega | rfl | (simp <;> omega))) .nil)))) ?_
  rintro m_3 E_4 w_2 ⟨k, rfl, rfl, z_2, hk, hk2⟩
  have := z_2.size
  have hle := h1.len_le
  have hle2 := h2.len_le
  refine sg <| vL (blt rfl rfl) <| nK <| sq <| ?_
  refine clt rfl (λ h_6 => ?_) (λ h_6 => ?_)
  ·obtain ⟨x1, hx1⟩ := get_of (l := l) (i := k) (by omega)
   obtain ⟨y1, hy1⟩ := get_of (l := m) (i := k) (by omega)
   refine sK <| sq <| bk <| sg <| vm rfl <| va rfl <| nK <| sq <| ?_
   refine rd [(3, 0), (7, 0)] [0, 1, 2, 3, 4, 5, 6, 7, 8] (by kernel_rfl) (by kernel_rfl) ?_
   refine fw1 rfl (λ _ => mv rfl) <| fw1 rfl (λ _ => mv rfl) <| fw1 rfl (λ _ => iA k Tryz.underlying30 eF180 rfl rfl ((h1.keep z_2).adr (zl k (by omega))) rfl (by omega)) <| fq1 rfl (λ _ x => ld rfl (Rep.SHas.one' hcU ((h1.keep (eT z_2 x)).adh (zl k (by omega))) hx1 rfl eF181)) <| fw1 rfl (λ _ => mv rfl) <| fw1 rfl (λ _ => mv rfl) <| fw1 rfl (λ _ => iA k Tryz.underlying30 eF180 rfl rfl ((h2.keep z_2).adr (zl k (by omega))) rfl (by omega)) <| fq1 rfl (λ _ x => ld rfl (Rep.SHas.one' hcU ((h2.keep (eT z_2 x)).adh (zl k (by omega))) hy1 rfl eF181)) <| fw1 rfl (λ _ => bne rfl rfl) <| fn λ w_7 x_8 => ?_
   have := x_8.size
   have z_7 := eT z_2 x_8
   refine nT <| ?_
   refine cne rfl (λ h_10 => ?_) (λ h_10 => ?_)
   ·refine sg <| va rfl <| nK <| rt <| tB <| tT <| tK <| tB <| tT <| tR (.tmp rfl .nil) <| ?_
    rw [decide_eq_false (λ e => by rw [e, hy1] at hx1; injection hx1 with hx1; exact absurd hx1.symm (by first | exact ne_of_nb h_10 | exact h_10 | exact λ e_ => h_10 (congrArg U e_)))]
    exact ⟨rfl, z_7⟩
   ·refine sk <| nB <| nT <| rg <| vL (bad rfl rfl (inI (by omega))) <| vm rfl <| nl <| ?_
    exact nI _ _ ⟨k + 1, rfl, rfl, z_7, by omega, lt_succ_all hk2 (by rw [hx1, hy1, (by first | exact eq_of_nb h_10 | exact h_10 | exact BitVec.eq_of_toNat_eq (Int.natCast_inj.1 h_10) : x1 = y1)])⟩ (by omega) (.cons rfl (.cons rfl (.cons rfl (.cons (loI rfl (by first | omega | rfl | (simp <;> omega))) .nil))))
  ·refine xt <| xT <| xK <| xB <| nT <| sg <| va rfl <| nK <| rt <| tR (.tmp rfl .nil) <| ?_
   rw [decide_eq_true (eq_all (by omega) (by omega) hk2)]
   exact ⟨rfl, z_2⟩
theorem tickCuts_w (a : Wd.At) (W : Wd) (A Bq : Option Addr) (c d : Nat) (T Tm : List SV) (L Lm : List (List Odr)) (w : World) (hW : Wd.Has w a W) (hT : svRep.SHas 24 w A c T) (hL : Tells w T L) (hTm : svRep.SHas 24 w Bq d Tm) (hLm : Tells w Tm Lm) :
  Calls Tryz.prog 3 #[.agg ((Wd.cells a W).toArray), .slice A T.length c, .slice Bq Tm.length d] w (λ e w' => e = .returned (.bool true) ∧ Ext w w') := by
 have hlT := hT.len_le
 have hlTm := hTm.len_le
 refine calls_W (n := 107) Tryz.func3 rfl rfl rfl ?_
 refine sg <| bx rfl rfl rfl rfl λ w_1 b_2 x_3 l_4 B_5 => ?_
 have := x_3.size
 have z_1 := eT (Ext.rf w) x_3
 have q_7 := B_5.lt
 refine va rfl <| nK <| sg <| vL (ld rfl (B_5.all eF61 eF62)) <| vm rfl <| ca eF182 rfl rfl ((run_any a W _ _ T L _ (hW.keep z_1) (hT.keep z_1) (hL.keep z_1)).mono ?_)
 rintro e w_13 ⟨E8, a8, V8, A8, c8, ms8, rfl, hr8, HO8, OM8, hd8, x_14⟩
 refine ⟨_, rfl, ?_⟩
 have := x_14.size
 have z_13 := eT z_1 x_14
 have u_9 := λ q hq => (HO8.lt q hq).2
 have lo_10 := λ q hq => (HO8.lt q hq).1
 have u_11 := λ q hq => (OM8.lt q hq).2
 have lo_12 := λ q hq => (OM8.lt q hq).1
 have dd8 : ∀ q ∈ Rep.blkOf A8, q ∈ WOwn.foot a8 → False := hd8
 have dw8 : ∀ q ∈ WOwn.foot a8, q ∈ Rep.blkOf A8 → False := λ q h1 h2 => hd8 q h2 h1
 refine vm rfl <| vL (ex rfl rfl) <| vL (ex rfl rfl) <| vL (ex rfl rfl) <| al rfl eF80 rfl rfl λ w_16 b_17 x_18 l_19 B_20 => ?_
 have := x_18.size
 have z_16 := eT z_13 x_18
 have q_22 := B_20.lt
 refine st rfl rfl B_20 rfl eF62 rfl rfl rfl λ w_23 m_24 B_20 => ?_
 have := m_24.size
 have z_23 := Ext.mod z_16 m_24 (ge1 (by omega))
 have := m_24.size
 refine va rfl <| va rfl <| nK <| sg <| vL (ld rfl (B_20.all eF61 eF62)) <| vm rfl <| ?_
 have HO8 := HO8.later x_18
 have HO8 := HO8.mod m_24 (fk1 u_9 (by omega))
 refine ca eF182 rfl rfl ((run_any a8 V8 _ _ Tm Lm _ HO8.has (hTm.keep z_23) (hLm.keep z_23)).mono ?_)
 rintro e w_32 ⟨E27, a27, V27, A27, c27, ms27, rfl, hr27, HO27, OM27, hd27, x_33⟩
 refine ⟨_, rfl, ?_⟩
 have := x_33.size
 have z_32 := eT z_23 x_33
 have u_28 := λ q hq => (HO27.lt q hq).2
 have lo_29 := λ q hq => (HO27.lt q hq).1
 have u_30 := λ q hq => (OM27.lt q hq).2
 have lo_31 := λ q hq => (OM27.lt q hq).1
 have dd27 : ∀ q ∈ Rep.blkOf A27, q ∈ WOwn.foot a27 → False := hd27
 have dw27 : ∀ q ∈ WOwn.foot a27, q ∈ Rep.blkOf A27 → False := λ q h1 h2 => hd27 q h2 h1
 refine vm rfl <| vL (ex rfl rfl) <| vL (ex rfl rfl) <| vL (ex rfl rfl) <| al rfl eF80 rfl rfl λ w_35 b_36 x_37 l_38 B_39 => ?_
 have := x_37.size
 have z_35 := eT z_32 x_37
 have q_41 := B_39.lt
 refine st rfl rfl B_39 rfl eF62 rfl rfl rfl λ w_42 m_43 B_39 => ?_
 have := m_43.size
 have z_42 := Ext.mod z_35 m_43 (ge1 (by omega))
 have := m_43.size
 refine va rfl <| va rfl <| nK <| sq <| sq <| ?_
 rcases b3t_ (E8 != 0) (E27 != 0) (decide (200 < (T.length : Int) + (Tm.length : Int))) with c0 | ⟨c0, c1_⟩ | ⟨c0, c1_, c2_⟩ | ⟨c0, c1_, c2_⟩
 ·refine rg <| ca eF183 rfl rfl ((tickLives_any _).mono ?_)
  rintro e w_46 ⟨rfl, x_47⟩
  refine ⟨_, rfl, ?_⟩
  have := x_47.size
  have z_46 := eT z_42 x_47
  refine vL (nt rfl) <| vm rfl <| ug rfl rfl rfl <| vm rfl <| ug rfl rfl rfl <| vL (bne rfl rfl) <| vL (pkF rfl (evb rfl c0)) <| vm rfl <| vQ (v := undef) rfl rfl rfl rfl (λ hc => nomatch hc) rfl <| vQ (v := undef) rfl rfl rfl rfl (λ hc => nomatch hc) rfl <| vL (pkT rfl rfl) <| vm rfl <| vQ (v := undef) rfl rfl rfl rfl (λ hc => nomatch hc) rfl <| vQ (v := undef) rfl rfl rfl rfl (λ hc => nomatch hc) rfl <| vQ (v := undef) rfl rfl rfl rfl (λ hc => nomatch hc) rfl <| vQ (v := undef) rfl rfl rfl rfl (λ hc => nomatch hc) rfl <| vQ (v := undef) rfl rfl rfl rfl (λ hc => nomatch hc) rfl <| vQ (v := undef) rfl rfl rfl rfl (λ hc => nomatch hc) rfl <| vL (pkT rfl rfl) <| vm rfl <| vQ (v := undef) rfl rfl rfl rfl (λ hc => nomatch hc) rfl <| vQ (v := undef) rfl rfl rfl rfl (λ hc => nomatch hc) rfl <| vQ (v := undef) rfl rfl rfl rfl (λ hc => nomatch hc) rfl <| vL (pkT rfl rfl) <| ?_
  refine nK <| cT rfl <| sg <| ca eF183 rfl rfl ((tickLives_any _).mono ?_)
  rintro e w_49 ⟨rfl, x_50⟩
  refine ⟨_, rfl, ?_⟩
  have := x_50.size
  have z_49 := eT z_46 x_50
  refine vm rfl <| ug rfl rfl rfl <| vm rfl <| ug rfl rfl rfl <| vL (bne rfl rfl) <| ug rfl rfl rfl <| vm (evb rfl c0) <| vQ (v := undef) rfl rfl rfl rfl (λ hc => nomatch hc) rfl <| vQ (v := undef) rfl rfl rfl rfl (λ hc => nomatch hc) rfl <| ug rfl rfl rfl <| vL (pkT rfl rfl) <| ug rfl rfl rfl <| vm rfl <| vQ (v := undef) rfl rfl rfl rfl (λ hc => nomatch hc) rfl <| vQ (v := undef) rfl rfl rfl rfl (λ hc => nomatch hc) rfl <| vQ (v := undef) rfl rfl rfl rfl (λ hc => nomatch hc) rfl <| vQ (v := undef) rfl rfl rfl rfl (λ hc => nomatch hc) rfl <| vQ (v := undef) rfl rfl rfl rfl (λ hc => nomatch hc) rfl <| vQ (v := undef) rfl rfl rfl rfl (λ hc => nomatch hc) rfl <| ug rfl rfl rfl <| vL (pkT rfl rfl) <| vL (pkT rfl rfl) <| va rfl <| nl <| ?_
  refine nT <| rt <| tT <| tR (.tmp rfl .nil) <| ?_
  exact ⟨rfl, z_49⟩
 ·refine rg <| ca eF183 rfl rfl ((tickLives_any _).mono ?_)
  rintro e w_52 ⟨rfl, x_53⟩
  refine ⟨_, rfl, ?_⟩
  have := x_53.size
  have z_52 := eT z_42 x_53
  refine vL (nt rfl) <| vm rfl <| ug rfl rfl rfl <| vm rfl <| ug rfl rfl rfl <| vL (bne rfl rfl) <| vL (pkF rfl (evb rfl c0)) <| vm rfl <| ug rfl rfl rfl <| vm rfl <| ug rfl rfl rfl <| vL (bne rfl rfl) <| vL (pkF rfl (evb rfl c1_)) <| vm rfl <| vQ (v := undef) rfl rfl rfl rfl (λ hc => nomatch hc) rfl <| vQ (v := undef) rfl rfl rfl rfl (λ hc => nomatch hc) rfl <| vQ (v := undef) rfl rfl rfl rfl (λ hc => nomatch hc) rfl <| vQ (v := undef) rfl rfl rfl rfl (λ hc => nomatch hc) rfl <| vQ (v := undef) rfl rfl rfl rfl (λ hc => nomatch hc) rfl <| vQ (v := undef) rfl rfl rfl rfl (λ hc => nomatch hc) rfl <| vL (pkT rfl rfl) <| vm rfl <| vQ (v := undef) rfl rfl rfl rfl (λ hc => nomatch hc) rfl <| vQ (v := undef) rfl rfl rfl rfl (λ hc => nomatch hc) rfl <| ?_
  refine vQ (v := undef) rfl rfl rfl rfl (λ hc => nomatch hc) rfl <| vL (pkT rfl rfl) <| nK <| cT rfl <| sg <| ca eF183 rfl rfl ((tickLives_any _).mono ?_)
  rintro e w_55 ⟨rfl, x_56⟩
  refine ⟨_, rfl, ?_⟩
  have := x_56.size
  have z_55 := eT z_52 x_56
  refine vm rfl <| ug rfl rfl rfl <| vm rfl <| ug rfl rfl rfl <| vL (bne rfl rfl) <| ug rfl rfl rfl <| vm (evb rfl c0) <| ug rfl rfl rfl <| vm rfl <| ug rfl rfl rfl <| vL (bne rfl rfl) <| ug rfl rfl rfl <| vL (pkF rfl (evb rfl c1_)) <| ug rfl rfl rfl <| vm rfl <| vQ (v := undef) rfl rfl rfl rfl (λ hc => nomatch hc) rfl <| vQ (v := undef) rfl rfl rfl rfl (λ hc => nomatch hc) rfl <| vQ (v := undef) rfl rfl rfl rfl (λ hc => nomatch hc) rfl <| vQ (v := undef) rfl rfl rfl rfl (λ hc => nomatch hc) rfl <| vQ (v := undef) rfl rfl rfl rfl (λ hc => nomatch hc) rfl <| vQ (v := undef) rfl rfl rfl rfl (λ hc => nomatch hc) rfl <| ug rfl rfl rfl <| vL (pkT rfl rfl) <| vL (pkT rfl rfl) <| ?_
  refine va rfl <| nK <| rt <| tT <| tR (.tmp rfl .nil) <| ?_
  exact ⟨rfl, z_55⟩
 ·obtain ⟨r1, _, _, _, hm2⟩ := hr27.ok (by simpa using c1_)
  obtain ⟨q1, _⟩ := hr8.ok (by simpa using c0)
  have t1 := hL.1
  have t2 := hLm.1
  have c5_ : ((ms27.length : Int) == 0) = false := by rw [hm2, runX_len]; simp; omega
  refine rg <| ca eF183 rfl rfl ((tickLives_any _).mono ?_)
  rintro e w_58 ⟨rfl, x_59⟩
  refine ⟨_, rfl, ?_⟩
  have := x_59.size
  have z_58 := eT z_42 x_59
  refine vL (nt rfl) <| vm rfl <| ug rfl rfl rfl <| vm rfl <| ug rfl rfl rfl <| vL (bne rfl rfl) <| vL (pkF rfl (evb rfl c0)) <| vm rfl <| ug rfl rfl rfl <| vm rfl <| ug rfl rfl rfl <| vL (bne rfl rfl) <| vL (pkF rfl (evb rfl c1_)) <| vm rfl <| ug rfl rfl rfl <| vm rfl <| ug rfl rfl rfl <| vL (ln Tryz.underlying29 rfl) <| ug rfl rfl rfl <| vm rfl <| ug rfl rfl rfl <| vL (ln Tryz.underlying29 rfl) <| ug rfl rfl rfl <| vL (bad rfl rfl (inI (by omega))) <| ?_
  refine ug rfl rfl rfl <| vL (bgt rfl rfl) <| vL (pkF rfl (evb rfl c2_)) <| vm rfl <| vQ (v := undef) rfl rfl rfl rfl (λ hc => nomatch hc) rfl <| vQ (v := undef) rfl rfl rfl rfl (λ hc => nomatch hc) rfl <| vQ (v := undef) rfl rfl rfl rfl (λ hc => nomatch hc) rfl <| vL (pkT rfl rfl) <| nK <| cT rfl <| sg <| ca eF183 rfl rfl ((tickLives_any _).mono ?_)
  rintro e w_61 ⟨rfl, x_62⟩
  refine ⟨_, rfl, ?_⟩
  have := x_62.size
  have z_61 := eT z_58 x_62
  refine vm rfl <| ug rfl rfl rfl <| vm rfl <| ug rfl rfl rfl <| vL (bne rfl rfl) <| ug rfl rfl rfl <| vm (evb rfl c0) <| ug rfl rfl rfl <| vm rfl <| ug rfl rfl rfl <| vL (bne rfl rfl) <| ug rfl rfl rfl <| vL (pkF rfl (evb rfl c1_)) <| ug rfl rfl rfl <| vm rfl <| ug rfl rfl rfl <| vm rfl <| ug rfl rfl rfl <| vL (ln Tryz.underlying29 rfl) <| ug rfl rfl rfl <| vm rfl <| ug rfl rfl rfl <| vL (ln Tryz.underlying29 rfl) <| ug rfl rfl rfl <| ?_
  refine vL (bad rfl rfl (inI (by omega))) <| ug rfl rfl rfl <| vL (bgt rfl rfl) <| ug rfl rfl rfl <| vL (pkF rfl (evb rfl c2_)) <| vL (pkT rfl rfl) <| va rfl <| nK <| rt <| tT <| tR (.tmp rfl .nil) <| ?_
  exact ⟨rfl, z_61⟩
 ·obtain ⟨q1, q2, q3, q4, q5⟩ := hr8.ok (by simpa using c0)
  obtain ⟨r1, r2, r3, r4, r5⟩ := hr27.ok (by simpa using c1_)
  rw [q4] at r3 r4 r5
  have h200 : T.length + Tm.length ≤ 200 := by have h9 := of_decide_eq_false c2_; omega
  obtain ⟨u1, u2, u3⟩ := run_cuts q3 r3
  have hl1 : ms8.length = T.length + 1 := by rw [q5, runX_len, hL.1]
  have hl2 : ms27.length = Tm.length + 1 := by rw [r5, runX_len, hLm.1]
  have c5_ : ((ms27.length : Int) == 0) = false := by rw [hl2]; simp; omega
  refine rg <| ca eF183 rfl rfl ((tickLives_any _).mono ?_)
  rintro e w_64 ⟨rfl, x_65⟩
  refine ⟨_, rfl, ?_⟩
  have := x_65.size
  have z_64 := eT z_42 x_65
  refine vL (nt rfl) <| vm rfl <| ug rfl rfl rfl <| vm rfl <| ug rfl rfl rfl <| vL (bne rfl rfl) <| vL (pkF rfl (evb rfl c0)) <| vm rfl <| ug rfl rfl rfl <| vm rfl <| ug rfl rfl rfl <| vL (bne rfl rfl) <| vL (pkF rfl (evb rfl c1_)) <| vm rfl <| ug rfl rfl rfl <| vm rfl <| ug rfl rfl rfl <| vL (ln Tryz.underlying29 rfl) <| ug rfl rfl rfl <| vm rfl <| ug rfl rfl rfl <| vL (ln Tryz.underlying29 rfl) <| ug rfl rfl rfl <| vL (bad rfl rfl (inI (by omega))) <| ?_
  refine ug rfl rfl rfl <| vL (bgt rfl rfl) <| vL (pkF rfl (evb rfl c2_)) <| vm rfl <| ug rfl rfl rfl <| vm rfl <| ug rfl rfl rfl <| vL (ln Tryz.underlying30 rfl) <| ug rfl rfl rfl <| vL (beq rfl rfl) <| vL (pkF rfl (evb rfl c5_)) <| nK <| cF rfl <| sK <| sq <| ?_
  refine rTD [(0, 0), (2, 2), (4, 2), (5, 2), (10, 2), (11, 3)] [0, 1, 3] (.two 2 [] (.two 4 [] (.last 5 [6, 7, 8, 9, 10, 11, 12, 13]) (.last 10 [5, 6, 7, 8, 9, 11, 12, 13])) (.last 10 [4, 5, 6, 7, 8, 9, 11, 12, 13])) (.last 10 [2, 4, 5, 6, 7, 8, 9, 11, 12, 13]) (by kernel_rfl) (by kernel_rfl) ?_
  have B_5 := B_5.later (eT x_14 x_18)
  have B_5 := B_5.mod m_24 (nm1 (by omega))
  have B_5 := B_5.later (eT x_33 x_37)
  have B_5 := B_5.mod m_43 (nm1 (by omega))
  have B_5 := B_5.later x_65
  refine fqD rfl rfl (λ _ x => ld rfl ((B_5.later (BE.at x)).all eF61 eF62)) rfl <| fwD rfl rfl (λ _ => mv rfl) rfl <| fwD rfl rfl (λ _ => mv rfl) rfl <| fnD λ w_67 x_68 => ?_
  have := x_68.size
  have z_67 := eT z_64 x_68
  refine fkTD (t2D_ ?_) (tlD ?_)
  ·refine fxD rfl rfl rfl λ w_70 x_71 Q hK => ca eF184 rfl rfl ((clone_V _ _ T _ (hT.keep (eT z_67 x_71))).mono ?_)
   rintro e w_75 ⟨A_72, c_72, rfl, OC_72, hn_72, x_76⟩
   refine ⟨_, rfl, hK _ _ ⟨BE.of (eT x_71 x_76), ?_⟩⟩
   have := x_71.size
   have := x_76.size
   have := x_71.size
   have z_70 := eT z_67 x_71
   have := x_76.size
   have z_75 := eT z_70 x_76
   have u_73 := λ q hq => (OC_72.lt q hq).2
   have lo_74 := λ q hq => (OC_72.lt q hq).1
   refine fnD λ w_81 x_82 => ?_
   have := x_82.size
   have z_81 := eT z_75 x_82
   refine fkTD (t2D_ ?_) (tlD ?_)
   ·have OC_72 := OC_72.later x_82
    refine fxD rfl rfl rfl λ w_84 x_85 Q hK => ap TcC_el_S_S_api_Order Rep.flat_bare (OC_72.later x_85) (hTm.keep (eT z_81 x_85)) rfl rfl (by omega) (by omega) (by have := x_85.size; omega) rfl λ w_86 A_87 c_88 m_89 O_90 g_91 n_92 => hK _ _ ⟨BE.md x_85 m_89 (λ q hq => by have h_ := ((OC_72.later x_85).lt q hq).1; have h2_ := x_85.size; omega), ?_⟩
    have := x_85.size
    have z_84 := eT z_81 x_85
    have := m_89.size
    have z_86 := Ext.mod z_84 m_89 (λ q hq => Nat.le_trans (by omega) ((OC_72.later x_85).lt q hq).1)
    have u_95 := λ q hq => (O_90.lt q hq).2
    have := m_89.size
    refine fnD λ w_97 x_98 => ?_
    have := x_98.size
    have z_97 := eT z_86 x_98
    refine fkTD (tlD ?_) (tlD ?_)
    ·have O_90 := O_90.later x_98
     refine fxD rfl rfl rfl λ w_100 x_101 Q hK => ca eF182 rfl rfl ((run_any a W _ _ (T ++ Tm) (L ++ Lm) _ (hW.keep (eT z_97 x_101)) (O_90.later x_101).has ((hL.app hLm).keep (eT z_97 x_101))).mono ?_)
     rintro e w_107 ⟨E102, a102, V102, A102, c102, ms102, rfl, hr102, HO102, OM102, hd102, x_108⟩
     refine ⟨_, rfl, hK _ _ ⟨BE.of (eT x_101 x_108), ?_⟩⟩
     have := x_101.size
     have := x_108.size
     have := x_101.size
     have z_100 := eT z_97 x_101
     have := x_108.size
     have z_107 := eT z_100 x_108
     have u_103 := λ q hq => (HO102.lt q hq).2
     have lo_104 := λ q hq => (HO102.lt q hq).1
     have u_105 := λ q hq => (OM102.lt q hq).2
     have lo_106 := λ q hq => (OM102.lt q hq).1
     have dd102 : ∀ q ∈ Rep.blkOf A102, q ∈ WOwn.foot a102 → False := hd102
     have dw102 : ∀ q ∈ WOwn.foot a102, q ∈ Rep.blkOf A102 → False := λ q h1 h2 => hd102 q h2 h1
     refine fwD rfl rfl (λ _ => mv rfl) rfl <| fwD rfl rfl (λ _ => ex rfl rfl) rfl <| fwD rfl rfl (λ _ => ex rfl rfl) rfl <| fwD rfl rfl (λ _ => ex rfl rfl) rfl <| fxD rfl rfl rfl λ w_113 x_114 Q hK => al rfl eF80 rfl rfl λ w_115 b_116 x_117 l_118 B_119 => hK _ _ ⟨BE.of (eT x_114 x_117), ?_⟩
     have := x_114.size
     have z_113 := eT z_107 x_114
     have := x_117.size
     have z_115 := eT z_113 x_117
     have q_122 := B_119.lt
     refine fbD rfl rfl rfl λ w_123 x_124 Q hK => st rfl rfl (B_119.later x_124) rfl eF62 rfl rfl rfl λ w_125 m_126 B_119 => hK _ _ ?_
     have := x_124.size
     have z_123 := eT z_115 x_124
     have := m_126.size
     have z_125 := Ext.mod z_123 m_126 (ge1 (by omega))
     have := m_126.size
     refine fwD rfl rfl (λ _ => as_ rfl) rfl <| fwD rfl rfl (λ _ => as_ rfl) rfl <| fnD λ w_130 x_131 => ?_
     have := x_131.size
     have z_130 := eT z_125 x_131
     refine nT <| sq <| ?_
     skip
     ·obtain ⟨v1, v2, v3⟩ := hr102.zero (by rw [List.length_append, ← hL.1, ← hLm.1]; exact h200) q2 u1
      have c6_ : (E102 == 0) = true := by rw [v1]; rfl
      have c7_ : (decide (V27 = V102)) = true := decide_eq_true (by rw [r4, v2, u2])
      have hdr : (ms27.drop 1).take (ms27.length - 1) = ms27.drop 1 := List.take_of_length_le (by rw [List.length_drop]; exact Nat.le_refl _)
      have c8_ : (decide (ms102 = ms8 ++ (ms27.drop 1).take (ms27.length - 1))) = true := decide_eq_true (by rw [hdr, v3, u3, q5, r5])
      have hl3 : ms102.length = T.length + Tm.length + 1 := by rw [v3, runX_len, List.length_append, ← hL.1, ← hLm.1]
      refine rd [(3, 0), (4, 0), (5, 0), (10, 2), (13, 3), (14, 0)] [0, 1, 2, 3, 4, 5, 6, 7, 8, 9, 11, 12, 10, 13, 14, 15, 16, 17, 18, 19, 20, 21, 22, 23, 24, 25, 26, 27] (by kernel_rfl) (by kernel_rfl) ?_
      refine fw1 rfl (λ _ => mv rfl) <| fw1 rfl (λ _ => beq rfl rfl) <| fw1 rfl (λ _ => mv (evb rfl c6_)) <| ?_
      have B_39 := B_39.later (eT x_65 (eT x_68 (eT x_71 (eT x_76 (eT x_82 x_85)))))
      have d_133 : ∀ q ∈ Rep.blkOf A_72, q = b_36 → False := λ q hq hb => by (have := lo_74 q hq; omega)
      have B_39 := B_39.mod m_89 (λ hq => d_133 _ hq rfl)
      have B_39 := B_39.later (eT x_98 (eT x_101 (eT x_108 (eT x_114 (eT x_117 x_124)))))
      have B_39 := B_39.mod m_126 (nm1 (by omega))
      have B_39 := B_39.later x_131
      refine fQ rfl rfl rfl rfl rfl rfl (λ hc _ x => ld rfl ((B_39.later x).all eF61 eF62)) rfl <| ?_
      have B_119 := B_119.later x_131
      refine fQ rfl rfl rfl rfl rfl rfl (λ hc _ x => ld rfl ((B_119.later x).all eF61 eF62)) rfl <| ?_
      have HO27 := HO27.later x_37
      have HO27 := HO27.mod m_43 (fk1 u_28 (by omega))
      have HO27 := HO27.later (eT x_65 (eT x_68 (eT x_71 (eT x_76 (eT x_82 x_85)))))
      have HO27 := HO27.mod m_89 (λ q hq h => by exfalso; (have := lo_74 q h; (have := u_28 q hq; omega)))
      have HO27 := HO27.later (eT x_98 (eT x_101 (eT x_108 (eT x_114 (eT x_117 x_124)))))
      have HO27 := HO27.mod m_126 (fk1 u_28 (by omega))
      have HO27 := HO27.later x_131
      have HO102 := HO102.later (eT x_114 (eT x_117 x_124))
      have HO102 := HO102.mod m_126 (fk1 u_103 (by omega))
      have HO102 := HO102.later x_131
      refine fC rfl rfl rfl rfl rfl rfl eF185 (λ hc => rfl) (λ hc _ x => sameWorld_any _ a27 V27 a102 V102 (HO27.later x).has (HO102.later x).has) rfl <| fw1 rfl (λ _ => pkT rfl (evb rfl c7_)) <| fw1 rfl (λ _ => mv rfl) <| fW rfl rfl rfl rfl rfl rfl (λ hc _ => mv rfl) rfl <| fW rfl rfl rfl rfl rfl rfl (λ hc _ => mv rfl) rfl <| fW rfl rfl rfl rfl rfl rfl (λ hc _ => mv rfl) rfl <| fW rfl rfl rfl rfl rfl rfl (λ hc _ => sTn 1 ((ms27.drop 1).take (ms27.length - 1)).length Tryz.underlying30 eF180 rfl rfl rfl (by omega) (by rw [List.length_take, List.length_drop]; omega)) rfl <| ?_
      have OM8 := OM8.later x_18
      have OM8 := OM8.mod m_24 (fk1 u_11 (by omega))
      have OM8 := OM8.later (eT x_33 x_37)
      have OM8 := OM8.mod m_43 (fk1 u_11 (by omega))
      have OM8 := OM8.later (eT x_65 (eT x_68 (eT x_71 (eT x_76 (eT x_82 x_85)))))
      have OM8 := OM8.mod m_89 (λ q hq h => by exfalso; (have := lo_74 q h; (have := u_11 q hq; omega)))
      have OM8 := OM8.later (eT x_98 (eT x_101 (eT x_108 (eT x_114 (eT x_117 x_124)))))
      have OM8 := OM8.mod m_126 (fk1 u_11 (by omega))
      have OM8 := OM8.later x_131
      refine fxG rfl rfl rfl rfl rfl λ w_134 x_135 Q hK => ca eF186 rfl rfl ((clone_U _ _ ms8 _ (OM8.later x_135).has).mono ?_)
      rintro e w_139 ⟨A_136, c_136, rfl, OC_136, hn_136, x_140⟩
      refine ⟨_, rfl, hK _ _ ⟨eT x_135 x_140, ?_⟩⟩
      have := x_135.size
      have z_134 := eT z_130 x_135
      have := x_140.size
      have z_139 := eT z_134 x_140
      have u_137 := λ q hq => (OC_136.lt q hq).2
      have lo_138 := λ q hq => (OC_136.lt q hq).1
      have OM27 := OM27.later x_37
      have OM27 := OM27.mod m_43 (fk1 u_30 (by omega))
      have OM27 := OM27.later (eT x_65 (eT x_68 (eT x_71 (eT x_76 (eT x_82 x_85)))))
      have OM27 := OM27.mod m_89 (λ q hq h => by exfalso; (have := lo_74 q h; (have := u_30 q hq; omega)))
      have OM27 := OM27.later (eT x_98 (eT x_101 (eT x_108 (eT x_114 (eT x_117 x_124)))))
      have OM27 := OM27.mod m_126 (fk1 u_30 (by omega))
      have OM27 := OM27.later (eT x_131 (eT x_135 x_140))
      refine fbG rfl rfl rfl rfl rfl λ w_143 x_144 Q hK => ap TcC_el_S_uint64 Rep.flat_bare (OC_136.later x_144) ((OM27.later x_144).has.sub 1 ms27.length (by omega) (Nat.le_refl _)) rfl rfl (by have := hl1; have := hl2; simp only [List.length_take, List.length_drop]; omega) (by have := hl1; have := hl2; simp only [List.length_take, List.length_drop]; omega) (by have := x_144.size; omega) rfl λ w_145 A_146 c_147 m_148 O_149 g_150 n_151 => hK _ _ ?_
      have := x_144.size
      have z_143 := eT z_139 x_144
      have := m_148.size
      have z_145 := Ext.mod z_143 m_148 (λ q hq => Nat.le_trans (by omega) ((OC_136.later x_144).lt q hq).1)
      have u_154 := λ q hq => (O_149.lt q hq).2
      have := m_148.size
      have OM102 := OM102.later (eT x_114 (eT x_117 x_124))
      have OM102 := OM102.mod m_126 (fk1 u_105 (by omega))
      have OM102 := OM102.later (eT x_131 (eT x_135 (eT x_140 x_144)))
      have OM102 := OM102.mod m_148 (λ q hq h => by exfalso; (have := lo_138 q h; (have := u_105 q hq; omega)))
      refine fC rfl rfl rfl rfl rfl rfl eF187 (λ hc => rfl) (λ hc _ x => equal_U _ _ _ _ _ _ ms102 (ms8 ++ (ms27.drop 1).take (ms27.length - 1)) _ (OM102.later x).has (O_149.later x).has) rfl <| fw1 rfl (λ _ => pkT rfl (evb rfl c8_)) <| fw1 rfl (λ _ => mv rfl) <| fW rfl rfl rfl rfl rfl rfl (λ hc _ => mv rfl) rfl <| fW rfl rfl rfl rfl rfl rfl (λ hc _ => ln Tryz.underlying30 rfl) rfl <| fW rfl rfl rfl rfl rfl rfl (λ hc _ => mv rfl) rfl <| fW rfl rfl rfl rfl rfl rfl (λ hc _ => ln Tryz.underlying29 rfl) rfl <| fW rfl rfl rfl rfl rfl rfl (λ hc _ => mv rfl) rfl <| fW rfl rfl rfl rfl rfl rfl (λ hc _ => ln Tryz.underlying29 rfl) rfl <| fW rfl rfl rfl rfl rfl rfl (λ hc _ => bad rfl rfl (inI (by (try simp only [bS] at hc); omega))) rfl <| fW rfl rfl rfl rfl rfl rfl (λ hc _ => bad rfl rfl (inI (by (try simp only [bS] at hc); omega))) rfl <| fW rfl rfl rfl rfl rfl rfl (λ hc _ => beq rfl rfl) rfl <| fw1 rfl (λ _ => pkT rfl rfl) <| fw1 rfl (λ _ => as_ rfl) <| fn λ w_156 x_157 => ?_
      have := x_157.size
      have z_156 := eT z_145 x_157
      refine nT <| rt <| tR (.tmp rfl .nil) <| ?_
      exact ⟨ret_true (by rw [beq_iff_eq]; omega), z_156⟩
    ·refine fxD rfl rfl rfl λ w_159 x_160 Q hK => al rfl eF80 rfl rfl λ w_161 b_162 x_163 l_164 B_165 => hK _ _ ⟨BE.of (eT x_160 x_163), ?_⟩
     have := x_160.size
     have z_159 := eT z_97 x_160
     have := x_163.size
     have z_161 := eT z_159 x_163
     have q_168 := B_165.lt
     have O_90 := O_90.later (eT x_98 (eT x_160 x_163))
     refine fxD rfl rfl rfl λ w_169 x_170 Q hK => ca eF182 rfl rfl ((run_any a W _ _ (T ++ Tm) (L ++ Lm) _ (hW.keep (eT z_161 x_170)) (O_90.later x_170).has ((hL.app hLm).keep (eT z_161 x_170))).mono ?_)
     rintro e w_176 ⟨E171, a171, V171, A171, c171, ms171, rfl, hr171, HO171, OM171, hd171, x_177⟩
     refine ⟨_, rfl, hK _ _ ⟨BE.of (eT x_170 x_177), ?_⟩⟩
     have := x_170.size
     have := x_177.size
     have := x_170.size
     have z_169 := eT z_161 x_170
     have := x_177.size
     have z_176 := eT z_169 x_177
     have u_172 := λ q hq => (HO171.lt q hq).2
     have lo_173 := λ q hq => (HO171.lt q hq).1
     have u_174 := λ q hq => (OM171.lt q hq).2
     have lo_175 := λ q hq => (OM171.lt q hq).1
     have dd171 : ∀ q ∈ Rep.blkOf A171, q ∈ WOwn.foot a171 → False := hd171
     have dw171 : ∀ q ∈ WOwn.foot a171, q ∈ Rep.blkOf A171 → False := λ q h1 h2 => hd171 q h2 h1
     refine fwD rfl rfl (λ _ => mv rfl) rfl <| fwD rfl rfl (λ _ => ex rfl rfl) rfl <| fwD rfl rfl (λ _ => ex rfl rfl) rfl <| fwD rfl rfl (λ _ => ex rfl rfl) rfl <| ?_
     have B_165 := B_165.later (eT x_170 x_177)
     refine fbD rfl rfl rfl λ w_182 x_183 Q hK => st rfl rfl (B_165.later x_183) rfl eF62 rfl rfl rfl λ w_184 m_185 B_165 => hK _ _ ?_
     have := x_183.size
     have z_182 := eT z_176 x_183
     have := m_185.size
     have z_184 := Ext.mod z_182 m_185 (ge1 (by omega))
     have := m_185.size
     refine fwD rfl rfl (λ _ => as_ rfl) rfl <| fwD rfl rfl (λ _ => as_ rfl) rfl <| fnD λ w_189 x_190 => ?_
     have := x_190.size
     have z_189 := eT z_184 x_190
     refine nT <| sq <| ?_
     skip
     ·obtain ⟨v1, v2, v3⟩ := hr171.zero (by rw [List.length_append, ← hL.1, ← hLm.1]; exact h200) q2 u1
      have c6_ : (E171 == 0) = true := by rw [v1]; rfl
      have c7_ : (decide (V27 = V171)) = true := decide_eq_true (by rw [r4, v2, u2])
      have hdr : (ms27.drop 1).take (ms27.length - 1) = ms27.drop 1 := List.take_of_length_le (by rw [List.length_drop]; exact Nat.le_refl _)
      have c8_ : (decide (ms171 = ms8 ++ (ms27.drop 1).take (ms27.length - 1))) = true := decide_eq_true (by rw [hdr, v3, u3, q5, r5])
      have hl3 : ms171.length = T.length + Tm.length + 1 := by rw [v3, runX_len, List.length_append, ← hL.1, ← hLm.1]
      refine rd [(3, 0), (4, 0), (5, 0), (10, 2), (13, 3), (14, 0)] [0, 1, 2, 3, 4, 5, 6, 7, 8, 9, 11, 12, 10, 13, 14, 15, 16, 17, 18, 19, 20, 21, 22, 23, 24, 25, 26, 27] (by kernel_rfl) (by kernel_rfl) ?_
      refine fw1 rfl (λ _ => mv rfl) <| fw1 rfl (λ _ => beq rfl rfl) <| fw1 rfl (λ _ => mv (evb rfl c6_)) <| ?_
      have B_39 := B_39.later (eT x_65 (eT x_68 (eT x_71 (eT x_76 (eT x_82 x_85)))))
      have d_192 : ∀ q ∈ Rep.blkOf A_72, q = b_36 → False := λ q hq hb => by (have := lo_74 q hq; omega)
      have B_39 := B_39.mod m_89 (λ hq => d_192 _ hq rfl)
      have B_39 := B_39.later (eT x_98 (eT x_160 (eT x_163 (eT x_170 (eT x_177 x_183)))))
      have B_39 := B_39.mod m_185 (nm1 (by omega))
      have B_39 := B_39.later x_190
      refine fQ rfl rfl rfl rfl rfl rfl (λ hc _ x => ld rfl ((B_39.later x).all eF61 eF62)) rfl <| ?_
      have B_165 := B_165.later x_190
      refine fQ rfl rfl rfl rfl rfl rfl (λ hc _ x => ld rfl ((B_165.later x).all eF61 eF62)) rfl <| ?_
      have HO27 := HO27.later x_37
      have HO27 := HO27.mod m_43 (fk1 u_28 (by omega))
      have HO27 := HO27.later (eT x_65 (eT x_68 (eT x_71 (eT x_76 (eT x_82 x_85)))))
      have HO27 := HO27.mod m_89 (λ q hq h => by exfalso; (have := lo_74 q h; (have := u_28 q hq; omega)))
      have HO27 := HO27.later (eT x_98 (eT x_160 (eT x_163 (eT x_170 (eT x_177 x_183)))))
      have HO27 := HO27.mod m_185 (fk1 u_28 (by omega))
      have HO27 := HO27.later x_190
      have HO171 := HO171.later x_183
      have HO171 := HO171.mod m_185 (fk2 lo_173 (by omega))
      have HO171 := HO171.later x_190
      refine fC rfl rfl rfl rfl rfl rfl eF185 (λ hc => rfl) (λ hc _ x => sameWorld_any _ a27 V27 a171 V171 (HO27.later x).has (HO171.later x).has) rfl <| fw1 rfl (λ _ => pkT rfl (evb rfl c7_)) <| fw1 rfl (λ _ => mv rfl) <| fW rfl rfl rfl rfl rfl rfl (λ hc _ => mv rfl) rfl <| fW rfl rfl rfl rfl rfl rfl (λ hc _ => mv rfl) rfl <| fW rfl rfl rfl rfl rfl rfl (λ hc _ => mv rfl) rfl <| fW rfl rfl rfl rfl rfl rfl (λ hc _ => sTn 1 ((ms27.drop 1).take (ms27.length - 1)).length Tryz.underlying30 eF180 rfl rfl rfl (by omega) (by rw [List.length_take, List.length_drop]; omega)) rfl <| ?_
      have OM8 := OM8.later x_18
      have OM8 := OM8.mod m_24 (fk1 u_11 (by omega))
      have OM8 := OM8.later (eT x_33 x_37)
      have OM8 := OM8.mod m_43 (fk1 u_11 (by omega))
      have OM8 := OM8.later (eT x_65 (eT x_68 (eT x_71 (eT x_76 (eT x_82 x_85)))))
      have OM8 := OM8.mod m_89 (λ q hq h => by exfalso; (have := lo_74 q h; (have := u_11 q hq; omega)))
      have OM8 := OM8.later (eT x_98 (eT x_160 (eT x_163 (eT x_170 (eT x_177 x_183)))))
      have OM8 := OM8.mod m_185 (fk1 u_11 (by omega))
      have OM8 := OM8.later x_190
      refine fxG rfl rfl rfl rfl rfl λ w_193 x_194 Q hK => ca eF186 rfl rfl ((clone_U _ _ ms8 _ (OM8.later x_194).has).mono ?_)
      rintro e w_198 ⟨A_195, c_195, rfl, OC_195, hn_195, x_199⟩
      refine ⟨_, rfl, hK _ _ ⟨eT x_194 x_199, ?_⟩⟩
      have := x_194.size
      have z_193 := eT z_189 x_194
      have := x_199.size
      have z_198 := eT z_193 x_199
      have u_196 := λ q hq => (OC_195.lt q hq).2
      have lo_197 := λ q hq => (OC_195.lt q hq).1
      have OM27 := OM27.later x_37
      have OM27 := OM27.mod m_43 (fk1 u_30 (by omega))
      have OM27 := OM27.later (eT x_65 (eT x_68 (eT x_71 (eT x_76 (eT x_82 x_85)))))
      have OM27 := OM27.mod m_89 (λ q hq h => by exfalso; (have := lo_74 q h; (have := u_30 q hq; omega)))
      have OM27 := OM27.later (eT x_98 (eT x_160 (eT x_163 (eT x_170 (eT x_177 x_183)))))
      have OM27 := OM27.mod m_185 (fk1 u_30 (by omega))
      have OM27 := OM27.later (eT x_190 (eT x_194 x_199))
      refine fbG rfl rfl rfl rfl rfl λ w_202 x_203 Q hK => ap TcC_el_S_uint64 Rep.flat_bare (OC_195.later x_203) ((OM27.later x_203).has.sub 1 ms27.length (by omega) (Nat.le_refl _)) rfl rfl (by have := hl1; have := hl2; simp only [List.length_take, List.length_drop]; omega) (by have := hl1; have := hl2; simp only [List.length_take, List.length_drop]; omega) (by have := x_203.size; omega) rfl λ w_204 A_205 c_206 m_207 O_208 g_209 n_210 => hK _ _ ?_
      have := x_203.size
      have z_202 := eT z_198 x_203
      have := m_207.size
      have z_204 := Ext.mod z_202 m_207 (λ q hq => Nat.le_trans (by omega) ((OC_195.later x_203).lt q hq).1)
      have u_213 := λ q hq => (O_208.lt q hq).2
      have := m_207.size
      have OM171 := OM171.later x_183
      have OM171 := OM171.mod m_185 (fk2 lo_175 (by omega))
      have OM171 := OM171.later (eT x_190 (eT x_194 (eT x_199 x_203)))
      have OM171 := OM171.mod m_207 (λ q hq h => by exfalso; (have := lo_197 q h; (have := u_174 q hq; omega)))
      refine fC rfl rfl rfl rfl rfl rfl eF187 (λ hc => rfl) (λ hc _ x => equal_U _ _ _ _ _ _ ms171 (ms8 ++ (ms27.drop 1).take (ms27.length - 1)) _ (OM171.later x).has (O_208.later x).has) rfl <| fw1 rfl (λ _ => pkT rfl (evb rfl c8_)) <| fw1 rfl (λ _ => mv rfl) <| fW rfl rfl rfl rfl rfl rfl (λ hc _ => mv rfl) rfl <| fW rfl rfl rfl rfl rfl rfl (λ hc _ => ln Tryz.underlying30 rfl) rfl <| fW rfl rfl rfl rfl rfl rfl (λ hc _ => mv rfl) rfl <| fW rfl rfl rfl rfl rfl rfl (λ hc _ => ln Tryz.underlying29 rfl) rfl <| fW rfl rfl rfl rfl rfl rfl (λ hc _ => mv rfl) rfl <| fW rfl rfl rfl rfl rfl rfl (λ hc _ => ln Tryz.underlying29 rfl) rfl <| fW rfl rfl rfl rfl rfl rfl (λ hc _ => bad rfl rfl (inI (by (try simp only [bS] at hc); omega))) rfl <| fW rfl rfl rfl rfl rfl rfl (λ hc _ => bad rfl rfl (inI (by (try simp only [bS] at hc); omega))) rfl <| fW rfl rfl rfl rfl rfl rfl (λ hc _ => beq rfl rfl) rfl <| fw1 rfl (λ _ => pkT rfl rfl) <| fw1 rfl (λ _ => as_ rfl) <| fn λ w_215 x_216 => ?_
      have := x_216.size
      have z_215 := eT z_204 x_216
      refine nT <| rt <| tR (.tmp rfl .nil) <| ?_
      exact ⟨ret_true (by rw [beq_iff_eq]; omega), z_215⟩
   ·refine fxD rfl rfl rfl λ w_218 x_219 Q hK => al rfl eF80 rfl rfl λ w_220 b_221 x_222 l_223 B_224 => hK _ _ ⟨BE.of (eT x_219 x_222), ?_⟩
    have := x_219.size
    have z_218 := eT z_81 x_219
    have := x_222.size
    have z_220 := eT z_218 x_222
    have q_227 := B_224.lt
    have OC_72 := OC_72.later (eT x_82 (eT x_219 x_222))
    refine fxD rfl rfl rfl λ w_228 x_229 Q hK => ap TcC_el_S_S_api_Order Rep.flat_bare (OC_72.later x_229) (hTm.keep (eT z_220 x_229)) rfl rfl (by omega) (by omega) (by have := x_229.size; omega) rfl λ w_230 A_231 c_232 m_233 O_234 g_235 n_236 => hK _ _ ⟨BE.md x_229 m_233 (λ q hq => by have h_ := ((OC_72.later x_229).lt q hq).1; have h2_ := x_229.size; omega), ?_⟩
    have := x_229.size
    have z_228 := eT z_220 x_229
    have := m_233.size
    have z_230 := Ext.mod z_228 m_233 (λ q hq => Nat.le_trans (by omega) ((OC_72.later x_229).lt q hq).1)
    have u_239 := λ q hq => (O_234.lt q hq).2
    have := m_233.size
    refine fxD rfl rfl rfl λ w_241 x_242 Q hK => ca eF182 rfl rfl ((run_any a W _ _ (T ++ Tm) (L ++ Lm) _ (hW.keep (eT z_230 x_242)) (O_234.later x_242).has ((hL.app hLm).keep (eT z_230 x_242))).mono ?_)
    rintro e w_248 ⟨E243, a243, V243, A243, c243, ms243, rfl, hr243, HO243, OM243, hd243, x_249⟩
    refine ⟨_, rfl, hK _ _ ⟨BE.of (eT x_242 x_249), ?_⟩⟩
    have := x_242.size
    have := x_249.size
    have := x_242.size
    have z_241 := eT z_230 x_242
    have := x_249.size
    have z_248 := eT z_241 x_249
    have u_244 := λ q hq => (HO243.lt q hq).2
    have lo_245 := λ q hq => (HO243.lt q hq).1
    have u_246 := λ q hq => (OM243.lt q hq).2
    have lo_247 := λ q hq => (OM243.lt q hq).1
    have dd243 : ∀ q ∈ Rep.blkOf A243, q ∈ WOwn.foot a243 → False := hd243
    have dw243 : ∀ q ∈ WOwn.foot a243, q ∈ Rep.blkOf A243 → False := λ q h1 h2 => hd243 q h2 h1
    refine fwD rfl rfl (λ _ => mv rfl) rfl <| fwD rfl rfl (λ _ => ex rfl rfl) rfl <| fwD rfl rfl (λ _ => ex rfl rfl) rfl <| fwD rfl rfl (λ _ => ex rfl rfl) rfl <| ?_
    have B_224 := B_224.later x_229
    have d_256 : ∀ q ∈ Rep.blkOf A_72, q = b_221 → False := λ q hq hb => by (have := u_73 q hq; omega)
    have B_224 := B_224.mod m_233 (λ hq => d_256 _ hq rfl)
    have B_224 := B_224.later (eT x_242 x_249)
    refine fbD rfl rfl rfl λ w_254 x_255 Q hK => st rfl rfl (B_224.later x_255) rfl eF62 rfl rfl rfl λ w_257 m_258 B_224 => hK _ _ ?_
    have := x_255.size
    have z_254 := eT z_248 x_255
    have := m_258.size
    have z_257 := Ext.mod z_254 m_258 (ge1 (by omega))
    have := m_258.size
    refine fwD rfl rfl (λ _ => as_ rfl) rfl <| fwD rfl rfl (λ _ => as_ rfl) rfl <| fnD λ w_262 x_263 => ?_
    have := x_263.size
    have z_262 := eT z_257 x_263
    refine nT <| sq <| ?_
    skip
    ·obtain ⟨v1, v2, v3⟩ := hr243.zero (by rw [List.length_append, ← hL.1, ← hLm.1]; exact h200) q2 u1
     have c6_ : (E243 == 0) = true := by rw [v1]; rfl
     have c7_ : (decide (V27 = V243)) = true := decide_eq_true (by rw [r4, v2, u2])
     have hdr : (ms27.drop 1).take (ms27.length - 1) = ms27.drop 1 := List.take_of_length_le (by rw [List.length_drop]; exact Nat.le_refl _)
     have c8_ : (decide (ms243 = ms8 ++ (ms27.drop 1).take (ms27.length - 1))) = true := decide_eq_true (by rw [hdr, v3, u3, q5, r5])
     have hl3 : ms243.length = T.length + Tm.length + 1 := by rw [v3, runX_len, List.length_append, ← hL.1, ← hLm.1]
     refine rd [(3, 0), (4, 0), (5, 0), (10, 2), (13, 3), (14, 0)] [0, 1, 2, 3, 4, 5, 6, 7, 8, 9, 11, 12, 10, 13, 14, 15, 16, 17, 18, 19, 20, 21, 22, 23, 24, 25, 26, 27] (by kernel_rfl) (by kernel_rfl) ?_
     refine fw1 rfl (λ _ => mv rfl) <| fw1 rfl (λ _ => beq rfl rfl) <| fw1 rfl (λ _ => mv (evb rfl c6_)) <| ?_
     have B_39 := B_39.later (eT x_65 (eT x_68 (eT x_71 (eT x_76 (eT x_82 (eT x_219 (eT x_222 x_229)))))))
     have d_265 : ∀ q ∈ Rep.blkOf A_72, q = b_36 → False := λ q hq hb => by (have := lo_74 q hq; omega)
     have B_39 := B_39.mod m_233 (λ hq => d_265 _ hq rfl)
     have B_39 := B_39.later (eT x_242 (eT x_249 x_255))
     have B_39 := B_39.mod m_258 (nm1 (by omega))
     have B_39 := B_39.later x_263
     refine fQ rfl rfl rfl rfl rfl rfl (λ hc _ x => ld rfl ((B_39.later x).all eF61 eF62)) rfl <| ?_
     have B_224 := B_224.later x_263
     refine fQ rfl rfl rfl rfl rfl rfl (λ hc _ x => ld rfl ((B_224.later x).all eF61 eF62)) rfl <| ?_
     have HO27 := HO27.later x_37
     have HO27 := HO27.mod m_43 (fk1 u_28 (by omega))
     have HO27 := HO27.later (eT x_65 (eT x_68 (eT x_71 (eT x_76 (eT x_82 (eT x_219 (eT x_222 x_229)))))))
     have HO27 := HO27.mod m_233 (λ q hq h => by exfalso; (have := lo_74 q h; (have := u_28 q hq; omega)))
     have HO27 := HO27.later (eT x_242 (eT x_249 x_255))
     have HO27 := HO27.mod m_258 (fk1 u_28 (by omega))
     have HO27 := HO27.later x_263
     have HO243 := HO243.later x_255
     have HO243 := HO243.mod m_258 (fk2 lo_245 (by omega))
     have HO243 := HO243.later x_263
     refine fC rfl rfl rfl rfl rfl rfl eF185 (λ hc => rfl) (λ hc _ x => sameWorld_any _ a27 V27 a243 V243 (HO27.later x).has (HO243.later x).has) rfl <| fw1 rfl (λ _ => pkT rfl (evb rfl c7_)) <| fw1 rfl (λ _ => mv rfl) <| fW rfl rfl rfl rfl rfl rfl (λ hc _ => mv rfl) rfl <| fW rfl rfl rfl rfl rfl rfl (λ hc _ => mv rfl) rfl <| fW rfl rfl rfl rfl rfl rfl (λ hc _ => mv rfl) rfl <| fW rfl rfl rfl rfl rfl rfl (λ hc _ => sTn 1 ((ms27.drop 1).take (ms27.length - 1)).length Tryz.underlying30 eF180 rfl rfl rfl (by omega) (by rw [List.length_take, List.length_drop]; omega)) rfl <| ?_
     have OM8 := OM8.later x_18
     have OM8 := OM8.mod m_24 (fk1 u_11 (by omega))
     have OM8 := OM8.later (eT x_33 x_37)
     have OM8 := OM8.mod m_43 (fk1 u_11 (by omega))
     have OM8 := OM8.later (eT x_65 (eT x_68 (eT x_71 (eT x_76 (eT x_82 (eT x_219 (eT x_222 x_229)))))))
     have OM8 := OM8.mod m_233 (λ q hq h => by exfalso; (have := lo_74 q h; (have := u_11 q hq; omega)))
     have OM8 := OM8.later (eT x_242 (eT x_249 x_255))
     have OM8 := OM8.mod m_258 (fk1 u_11 (by omega))
     have OM8 := OM8.later x_263
     refine fxG rfl rfl rfl rfl rfl λ w_266 x_267 Q hK => ca eF186 rfl rfl ((clone_U _ _ ms8 _ (OM8.later x_267).has).mono ?_)
     rintro e w_271 ⟨A_268, c_268, rfl, OC_268, hn_268, x_272⟩
     refine ⟨_, rfl, hK _ _ ⟨eT x_267 x_272, ?_⟩⟩
     have := x_267.size
     have z_266 := eT z_262 x_267
     have := x_272.size
     have z_271 := eT z_266 x_272
     have u_269 := λ q hq => (OC_268.lt q hq).2
     have lo_270 := λ q hq => (OC_268.lt q hq).1
     have OM27 := OM27.later x_37
     have OM27 := OM27.mod m_43 (fk1 u_30 (by omega))
     have OM27 := OM27.later (eT x_65 (eT x_68 (eT x_71 (eT x_76 (eT x_82 (eT x_219 (eT x_222 x_229)))))))
     have OM27 := OM27.mod m_233 (λ q hq h => by exfalso; (have := lo_74 q h; (have := u_30 q hq; omega)))
     have OM27 := OM27.later (eT x_242 (eT x_249 x_255))
     have OM27 := OM27.mod m_258 (fk1 u_30 (by omega))
     have OM27 := OM27.later (eT x_263 (eT x_267 x_272))
     refine fbG rfl rfl rfl rfl rfl λ w_275 x_276 Q hK => ap TcC_el_S_uint64 Rep.flat_bare (OC_268.later x_276) ((OM27.later x_276).has.sub 1 ms27.length (by omega) (Nat.le_refl _)) rfl rfl (by have := hl1; have := hl2; simp only [List.length_take, List.length_drop]; omega) (by have := hl1; have := hl2; simp only [List.length_take, List.length_drop]; omega) (by have := x_276.size; omega) rfl λ w_277 A_278 c_279 m_280 O_281 g_282 n_283 => hK _ _ ?_
     have := x_276.size
     have z_275 := eT z_271 x_276
     have := m_280.size
     have z_277 := Ext.mod z_275 m_280 (λ q hq => Nat.le_trans (by omega) ((OC_268.later x_276).lt q hq).1)
     have u_286 := λ q hq => (O_281.lt q hq).2
     have := m_280.size
     have OM243 := OM243.later x_255
     have OM243 := OM243.mod m_258 (fk2 lo_247 (by omega))
     have OM243 := OM243.later (eT x_263 (eT x_267 (eT x_272 x_276)))
     have OM243 := OM243.mod m_280 (λ q hq h => by exfalso; (have := lo_270 q h; (have := u_246 q hq; omega)))
     refine fC rfl rfl rfl rfl rfl rfl eF187 (λ hc => rfl) (λ hc _ x => equal_U _ _ _ _ _ _ ms243 (ms8 ++ (ms27.drop 1).take (ms27.length - 1)) _ (OM243.later x).has (O_281.later x).has) rfl <| fw1 rfl (λ _ => pkT rfl (evb rfl c8_)) <| fw1 rfl (λ _ => mv rfl) <| fW rfl rfl rfl rfl rfl rfl (λ hc _ => mv rfl) rfl <| fW rfl rfl rfl rfl rfl rfl (λ hc _ => ln Tryz.underlying30 rfl) rfl <| fW rfl rfl rfl rfl rfl rfl (λ hc _ => mv rfl) rfl <| fW rfl rfl rfl rfl rfl rfl (λ hc _ => ln Tryz.underlying29 rfl) rfl <| fW rfl rfl rfl rfl rfl rfl (λ hc _ => mv rfl) rfl <| fW rfl rfl rfl rfl rfl rfl (λ hc _ => ln Tryz.underlying29 rfl) rfl <| fW rfl rfl rfl rfl rfl rfl (λ hc _ => bad rfl rfl (inI (by (try simp only [bS] at hc); omega))) rfl <| fW rfl rfl rfl rfl rfl rfl (λ hc _ => bad rfl rfl (inI (by (try simp only [bS] at hc); omega))) rfl <| fW rfl rfl rfl rfl rfl rfl (λ hc _ => beq rfl rfl) rfl <| fw1 rfl (λ _ => pkT rfl rfl) <| fw1 rfl (λ _ => as_ rfl) <| fn λ w_288 x_289 => ?_
     have := x_289.size
     have z_288 := eT z_277 x_289
     refine nT <| rt <| tR (.tmp rfl .nil) <| ?_
     exact ⟨ret_true (by rw [beq_iff_eq]; omega), z_288⟩
  ·refine fxD rfl rfl rfl λ w_291 x_292 Q hK => al rfl eF80 rfl rfl λ w_293 b_294 x_295 l_296 B_297 => hK _ _ ⟨BE.of (eT x_292 x_295), ?_⟩
   have := x_292.size
   have z_291 := eT z_67 x_292
   have := x_295.size
   have z_293 := eT z_291 x_295
   have q_300 := B_297.lt
   refine fxD rfl rfl rfl λ w_301 x_302 Q hK => ca eF184 rfl rfl ((clone_V _ _ T _ (hT.keep (eT z_293 x_302))).mono ?_)
   rintro e w_306 ⟨A_303, c_303, rfl, OC_303, hn_303, x_307⟩
   refine ⟨_, rfl, hK _ _ ⟨BE.of (eT x_302 x_307), ?_⟩⟩
   have := x_302.size
   have := x_307.size
   have := x_302.size
   have z_301 := eT z_293 x_302
   have := x_307.size
   have z_306 := eT z_301 x_307
   have u_304 := λ q hq => (OC_303.lt q hq).2
   have lo_305 := λ q hq => (OC_303.lt q hq).1
   refine fxD rfl rfl rfl λ w_312 x_313 Q hK => ap TcC_el_S_S_api_Order Rep.flat_bare (OC_303.later x_313) (hTm.keep (eT z_306 x_313)) rfl rfl (by omega) (by omega) (by have := x_313.size; omega) rfl λ w_314 A_315 c_316 m_317 O_318 g_319 n_320 => hK _ _ ⟨BE.md x_313 m_317 (λ q hq => by have h_ := ((OC_303.later x_313).lt q hq).1; have h2_ := x_313.size; omega), ?_⟩
   have := x_313.size
   have z_312 := eT z_306 x_313
   have := m_317.size
   have z_314 := Ext.mod z_312 m_317 (λ q hq => Nat.le_trans (by omega) ((OC_303.later x_313).lt q hq).1)
   have u_323 := λ q hq => (O_318.lt q hq).2
   have := m_317.size
   refine fxD rfl rfl rfl λ w_325 x_326 Q hK => ca eF182 rfl rfl ((run_any a W _ _ (T ++ Tm) (L ++ Lm) _ (hW.keep (eT z_314 x_326)) (O_318.later x_326).has ((hL.app hLm).keep (eT z_314 x_326))).mono ?_)
   rintro e w_332 ⟨E327, a327, V327, A327, c327, ms327, rfl, hr327, HO327, OM327, hd327, x_333⟩
   refine ⟨_, rfl, hK _ _ ⟨BE.of (eT x_326 x_333), ?_⟩⟩
   have := x_326.size
   have := x_333.size
   have := x_326.size
   have z_325 := eT z_314 x_326
   have := x_333.size
   have z_332 := eT z_325 x_333
   have u_328 := λ q hq => (HO327.lt q hq).2
   have lo_329 := λ q hq => (HO327.lt q hq).1
   have u_330 := λ q hq => (OM327.lt q hq).2
   have lo_331 := λ q hq => (OM327.lt q hq).1
   have dd327 : ∀ q ∈ Rep.blkOf A327, q ∈ WOwn.foot a327 → False := hd327
   have dw327 : ∀ q ∈ WOwn.foot a327, q ∈ Rep.blkOf A327 → False := λ q h1 h2 => hd327 q h2 h1
   refine fwD rfl rfl (λ _ => mv rfl) rfl <| fwD rfl rfl (λ _ => ex rfl rfl) rfl <| fwD rfl rfl (λ _ => ex rfl rfl) rfl <| fwD rfl rfl (λ _ => ex rfl rfl) rfl <| ?_
   have B_297 := B_297.later (eT x_302 (eT x_307 x_313))
   have d_340 : ∀ q ∈ Rep.blkOf A_303, q = b_294 → False := λ q hq hb => by (have := lo_305 q hq; omega)
   have B_297 := B_297.mod m_317 (λ hq => d_340 _ hq rfl)
   have B_297 := B_297.later (eT x_326 x_333)
   refine fbD rfl rfl rfl λ w_338 x_339 Q hK => st rfl rfl (B_297.later x_339) rfl eF62 rfl rfl rfl λ w_341 m_342 B_297 => hK _ _ ?_
   have := x_339.size
   have z_338 := eT z_332 x_339
   have := m_342.size
   have z_341 := Ext.mod z_338 m_342 (ge1 (by omega))
   have := m_342.size
   refine fwD rfl rfl (λ _ => as_ rfl) rfl <| fwD rfl rfl (λ _ => as_ rfl) rfl <| fnD λ w_346 x_347 => ?_
   have := x_347.size
   have z_346 := eT z_341 x_347
   refine nT <| sq <| ?_
   skip
   ·obtain ⟨v1, v2, v3⟩ := hr327.zero (by rw [List.length_append, ← hL.1, ← hLm.1]; exact h200) q2 u1
    have c6_ : (E327 == 0) = true := by rw [v1]; rfl
    have c7_ : (decide (V27 = V327)) = true := decide_eq_true (by rw [r4, v2, u2])
    have hdr : (ms27.drop 1).take (ms27.length - 1) = ms27.drop 1 := List.take_of_length_le (by rw [List.length_drop]; exact Nat.le_refl _)
    have c8_ : (decide (ms327 = ms8 ++ (ms27.drop 1).take (ms27.length - 1))) = true := decide_eq_true (by rw [hdr, v3, u3, q5, r5])
    have hl3 : ms327.length = T.length + Tm.length + 1 := by rw [v3, runX_len, List.length_append, ← hL.1, ← hLm.1]
    refine rd [(3, 0), (4, 0), (5, 0), (10, 2), (13, 3), (14, 0)] [0, 1, 2, 3, 4, 5, 6, 7, 8, 9, 11, 12, 10, 13, 14, 15, 16, 17, 18, 19, 20, 21, 22, 23, 24, 25, 26, 27] (by kernel_rfl) (by kernel_rfl) ?_
    refine fw1 rfl (λ _ => mv rfl) <| fw1 rfl (λ _ => beq rfl rfl) <| fw1 rfl (λ _ => mv (evb rfl c6_)) <| ?_
    have B_39 := B_39.later (eT x_65 (eT x_68 (eT x_292 (eT x_295 (eT x_302 (eT x_307 x_313))))))
    have d_349 : ∀ q ∈ Rep.blkOf A_303, q = b_36 → False := λ q hq hb => by (have := lo_305 q hq; omega)
    have B_39 := B_39.mod m_317 (λ hq => d_349 _ hq rfl)
    have B_39 := B_39.later (eT x_326 (eT x_333 x_339))
    have B_39 := B_39.mod m_342 (nm1 (by omega))
    have B_39 := B_39.later x_347
    refine fQ rfl rfl rfl rfl rfl rfl (λ hc _ x => ld rfl ((B_39.later x).all eF61 eF62)) rfl <| ?_
    have B_297 := B_297.later x_347
    refine fQ rfl rfl rfl rfl rfl rfl (λ hc _ x => ld rfl ((B_297.later x).all eF61 eF62)) rfl <| ?_
    have HO27 := HO27.later x_37
    have HO27 := HO27.mod m_43 (fk1 u_28 (by omega))
    have HO27 := HO27.later (eT x_65 (eT x_68 (eT x_292 (eT x_295 (eT x_302 (eT x_307 x_313))))))
    have HO27 := HO27.mod m_317 (λ q hq h => by exfalso; (have := lo_305 q h; (have := u_28 q hq; omega)))
    have HO27 := HO27.later (eT x_326 (eT x_333 x_339))
    have HO27 := HO27.mod m_342 (fk1 u_28 (by omega))
    have HO27 := HO27.later x_347
    have HO327 := HO327.later x_339
    have HO327 := HO327.mod m_342 (fk2 lo_329 (by omega))
    have HO327 := HO327.later x_347
    refine fC rfl rfl rfl rfl rfl rfl eF185 (λ hc => rfl) (λ hc _ x => sameWorld_any _ a27 V27 a327 V327 (HO27.later x).has (HO327.later x).has) rfl <| fw1 rfl (λ _ => pkT rfl (evb rfl c7_)) <| fw1 rfl (λ _ => mv rfl) <| fW rfl rfl rfl rfl rfl rfl (λ hc _ => mv rfl) rfl <| fW rfl rfl rfl rfl rfl rfl (λ hc _ => mv rfl) rfl <| fW rfl rfl rfl rfl rfl rfl (λ hc _ => mv rfl) rfl <| fW rfl rfl rfl rfl rfl rfl (λ hc _ => sTn 1 ((ms27.drop 1).take (ms27.length - 1)).length Tryz.underlying30 eF180 rfl rfl rfl (by omega) (by rw [List.length_take, List.length_drop]; omega)) rfl <| ?_
    have OM8 := OM8.later x_18
    have OM8 := OM8.mod m_24 (fk1 u_11 (by omega))
    have OM8 := OM8.later (eT x_33 x_37)
    have OM8 := OM8.mod m_43 (fk1 u_11 (by omega))
    have OM8 := OM8.later (eT x_65 (eT x_68 (eT x_292 (eT x_295 (eT x_302 (eT x_307 x_313))))))
    have OM8 := OM8.mod m_317 (λ q hq h => by exfalso; (have := lo_305 q h; (have := u_11 q hq; omega)))
    have OM8 := OM8.later (eT x_326 (eT x_333 x_339))
    have OM8 := OM8.mod m_342 (fk1 u_11 (by omega))
    have OM8 := OM8.later x_347
    refine fxG rfl rfl rfl rfl rfl λ w_350 x_351 Q hK => ca eF186 rfl rfl ((clone_U _ _ ms8 _ (OM8.later x_351).has).mono ?_)
    rintro e w_355 ⟨A_352, c_352, rfl, OC_352, hn_352, x_356⟩
    refine ⟨_, rfl, hK _ _ ⟨eT x_351 x_356, ?_⟩⟩
    have := x_351.size
    have z_350 := eT z_346 x_351
    have := x_356.size
    have z_355 := eT z_350 x_356
    have u_353 := λ q hq => (OC_352.lt q hq).2
    have lo_354 := λ q hq => (OC_352.lt q hq).1
    have OM27 := OM27.later x_37
    have OM27 := OM27.mod m_43 (fk1 u_30 (by omega))
    have OM27 := OM27.later (eT x_65 (eT x_68 (eT x_292 (eT x_295 (eT x_302 (eT x_307 x_313))))))
    have OM27 := OM27.mod m_317 (λ q hq h => by exfalso; (have := lo_305 q h; (have := u_30 q hq; omega)))
    have OM27 := OM27.later (eT x_326 (eT x_333 x_339))
    have OM27 := OM27.mod m_342 (fk1 u_30 (by omega))
    have OM27 := OM27.later (eT x_347 (eT x_351 x_356))
    refine fbG rfl rfl rfl rfl rfl λ w_359 x_360 Q hK => ap TcC_el_S_uint64 Rep.flat_bare (OC_352.later x_360) ((OM27.later x_360).has.sub 1 ms27.length (by omega) (Nat.le_refl _)) rfl rfl (by have := hl1; have := hl2; simp only [List.length_take, List.length_drop]; omega) (by have := hl1; have := hl2; simp only [List.length_take, List.length_drop]; omega) (by have := x_360.size; omega) rfl λ w_361 A_362 c_363 m_364 O_365 g_366 n_367 => hK _ _ ?_
    have := x_360.size
    have z_359 := eT z_355 x_360
    have := m_364.size
    have z_361 := Ext.mod z_359 m_364 (λ q hq => Nat.le_trans (by omega) ((OC_352.later x_360).lt q hq).1)
    have u_370 := λ q hq => (O_365.lt q hq).2
    have := m_364.size
    have OM327 := OM327.later x_339
    have OM327 := OM327.mod m_342 (fk2 lo_331 (by omega))
    have OM327 := OM327.later (eT x_347 (eT x_351 (eT x_356 x_360)))
    have OM327 := OM327.mod m_364 (λ q hq h => by exfalso; (have := lo_354 q h; (have := u_330 q hq; omega)))
    refine fC rfl rfl rfl rfl rfl rfl eF187 (λ hc => rfl) (λ hc _ x => equal_U _ _ _ _ _ _ ms327 (ms8 ++ (ms27.drop 1).take (ms27.length - 1)) _ (OM327.later x).has (O_365.later x).has) rfl <| fw1 rfl (λ _ => pkT rfl (evb rfl c8_)) <| fw1 rfl (λ _ => mv rfl) <| fW rfl rfl rfl rfl rfl rfl (λ hc _ => mv rfl) rfl <| fW rfl rfl rfl rfl rfl rfl (λ hc _ => ln Tryz.underlying30 rfl) rfl <| fW rfl rfl rfl rfl rfl rfl (λ hc _ => mv rfl) rfl <| fW rfl rfl rfl rfl rfl rfl (λ hc _ => ln Tryz.underlying29 rfl) rfl <| fW rfl rfl rfl rfl rfl rfl (λ hc _ => mv rfl) rfl <| fW rfl rfl rfl rfl rfl rfl (λ hc _ => ln Tryz.underlying29 rfl) rfl <| fW rfl rfl rfl rfl rfl rfl (λ hc _ => bad rfl rfl (inI (by (try simp only [bS] at hc); omega))) rfl <| fW rfl rfl rfl rfl rfl rfl (λ hc _ => bad rfl rfl (inI (by (try simp only [bS] at hc); omega))) rfl <| fW rfl rfl rfl rfl rfl rfl (λ hc _ => beq rfl rfl) rfl <| fw1 rfl (λ _ => pkT rfl rfl) <| fw1 rfl (λ _ => as_ rfl) <| fn λ w_372 x_373 => ?_
    have := x_373.size
    have z_372 := eT z_361 x_373
    refine nT <| rt <| tR (.tmp rfl .nil) <| ?_
    exact ⟨ret_true (by rw [beq_iff_eq]; omega), z_372⟩
theorem tickCuts_any (c0 : Array Value) (a1 : Option Addr) (len1 cap1 : Nat) (a2 : Option Addr) (len2 cap2 : Nat) (w : World) (h0 : (.cons (.cons (.int .i64) (.cons (.int .i64) (.cons (.slice (.int .i64) 8) .nil))) (.cons (.slice (.cons (.int .i64) (.cons (.int .i64) .nil)) 16) (.cons (.slice (.int .i64) 8) (.cons (.slice (.int .i64) 8) (.cons (.slice (.cons (.int .i64) (.cons (.int .i64) (.cons (.int .i64) (.cons (.cons (.int .i64) (.cons (.int .i64) .nil)) (.cons (.int .i64) (.cons (.int .i64) .nil)))))) 56) (.cons (.int .i64) (.cons (.int .i64) .nil)))))) : Sh).Ok w c0.toList) (h1 : (.slice (.slice (.cons (.int .i64) (.cons (.int .i64) (.cons (.int .i64) (.cons (.cons (.int .i64) (.cons (.int .i64) .nil)) (.cons (.int .i64) .nil))))) 48) 24 : Sh).Ok w [.slice a1 len1 cap1]) (h2 : (.slice (.slice (.cons (.int .i64) (.cons (.int .i64) (.cons (.int .i64) (.cons (.cons (.int .i64) (.cons (.int .i64) .nil)) (.cons (.int .i64) .nil))))) 48) 24 : Sh).Ok w [.slice a2 len2 cap2]) :
  Calls Tryz.prog 3 #[.agg c0, .slice a1 len1 cap1, .slice a2 len2 cap2] w λ e w' => e = .returned (.bool true) ∧ Below w.heap.size w w' := by
 obtain ⟨a, W, e, hW⟩ := Wd.opens w _ (show Wd.sh.Ok w c0.toList from h0)
 have hc : c0 = (Wd.cells a W).toArray := by rw [← e]
 subst hc
 obtain ⟨T, L, rfl, hT, hL⟩ := ords_open h1
 obtain ⟨Tm, Lm, rfl, hTm, hLm⟩ := ords_open h2
 exact tickCuts_w a W _ _ _ _ T Tm L Lm w hW hT hL hTm hLm
end
end Go.Proofs.YtccankldeogdlaaGreat
