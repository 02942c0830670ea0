import Derived.Test.YtccankldeogdlaaGolC
import Derived.Test.YtccankldeogdlaaTroI
import Derived.Test.YtccankldeogdlaaFldR
import Derived.Test.YtccankldeogdlaaGooO
import Derived.Test.YtccankldeogdlaaMis
import Derived.Test.YtccankldeogdlaaMrP
import Derived.Test.YtccankldeogdlaaHitG
import Derived.Test.YtccankldeogdlaaLinG
import Derived.Test.YtccankldeogdlaaGol
import Derived.Test.YtccankldeogdlaaHp
import Derived.Test.YtccankldeogdlaaBas
import Derived.Test.YtccankldeogdlaaProg
set_option linter.unusedVariables false
set_option linter.unusedSimpArgs false
set_option maxRecDepth 100000
set_option maxHeartbeats 4000000
namespace Go.Proofs.Ytccankldeogdlaa
section
open Go.RowKit
theorem WOwn.modT {w w1 : World} {Z : Nat} {a : Wd.At} {W : Wd} {l : List Trp} (h : WOwn w Z a W) (m : Mod (Rep.blkOf a.T) w w1) (hT : Trp.rep.SOwn 80 56 w1 Z (Rep.blkOf a.T) a.T a.t l) : WOwn w1 Z a { W with troops := l } := by
 have hn := (List.nodup_append.1 h.apart).2.2
 have d : ∀ q ∈ Rep.blkOf a.P ++ Rep.blkOf a.B ++ Rep.blkOf a.S ++ Rep.blkOf a.M, q ∉ Rep.blkOf a.T := λ q hq ht => hn q hq q ht rfl
 exact ⟨h.P.mod m (λ q hq => d q (by simp [hq])), h.B.mod m (λ q hq => d q (by simp [hq])), h.S.mod m (λ q hq => d q (by simp [hq])), h.M.mod m (λ q hq => d q (by simp [hq])), hT, h.apart, h.nums⟩
theorem foot_PT {w : World} {Z : Nat} {a : Wd.At} {W : Wd} (h : WOwn w Z a W) : ∀ q ∈ Rep.blkOf a.P, q ∉ Rep.blkOf a.T := λ q hq ht => (List.nodup_append.1 h.apart).2.2 q (by simp [hq]) q ht rfl
theorem mstep_own (w0 : World) (a : Wd.At) (W : Wd) (A : Option Addr) (c : Nat) (l : List Gox) (w : World) (hO : WOwn w w0.heap.size a W) (hl : Gox.rep.SHas 24 w A c l) (hdl : 0 < l.length → ∀ q ∈ Rep.blkOf A, q ∉ Rep.blkOf a.T) (hnt : W.troops.length ≤ 100000) :
  Calls Try.prog 94 #[.agg (Wd.cells a W).toArray, .slice A l.length c] w (λ e w' => ∃ A' c', e = .returned (.slice A' (W.stepped l).2.length c') ∧ repI.SOwn 3 8 w' w.heap.size (Rep.blkOf A') A' c' (W.stepped l).2 ∧ WOwn w' w0.heap.size a (W.stepped l).1 ∧ Mod (Rep.blkOf a.T) w w') := by
 refine (stepped_any w0 a W A c l w hO.P.has hO.T (foot_PT hO) hl hdl hnt).mono ?_
 rintro e w' ⟨A', c', rfl, h1, h2, h3⟩
 exact ⟨A', c', rfl, h1, hO.modT h3 h2, h3⟩
theorem stepped_len (W : Wd) (l : List Gox) : (W.stepped l).1.troops.length = W.troops.length := (stS_len _).1
theorem stepped_cells (a : Wd.At) (W : Wd) (l : List Gox) : Wd.cells a W = Wd.cells a (W.stepped l).1 := by
 unfold Wd.cells; rw [stepped_len]; rfl
def marchE (W : Wd) (l : List Gox) : Int := if W.chk ≠ 0 then W.chk else if 200 < l.length then 2 else 0
noncomputable def marchW (W : Wd) (l : List Gox) : Wd := if marchE W l ≠ 0 then Wd.zero else (W.stepped l).1
noncomputable def marchM (W : Wd) (l : List Gox) : List Int := if marchE W l ≠ 0 then [] else (W.stepped l).2
theorem march_bad {W : Wd} {l : List Gox} (h : ¬ W.chk = 0) : marchE W l = W.chk ∧ marchW W l = Wd.zero ∧ marchM W l = [] := by
 have e : marchE W l = W.chk := by unfold marchE; rw [if_pos h]
 unfold marchW marchM; rw [e, if_pos h, if_pos h]; exact ⟨rfl, rfl, rfl⟩
theorem march_many {W : Wd} {l : List Gox} (h : W.chk = 0) (hl : (200 : Int) < (l.length : Int)) : marchE W l = 2 ∧ marchW W l = Wd.zero ∧ marchM W l = [] := by
 have e : marchE W l = 2 := by unfold marchE; rw [if_neg (by omega), if_pos (by omega)]
 unfold marchW marchM; rw [e]; exact ⟨rfl, rfl, rfl⟩
theorem march_ok {W : Wd} {l : List Gox} (h : W.chk = 0) (hl : (l.length : Int) ≤ 200) : marchE W l = 0 ∧ marchW W l = (W.stepped l).1 ∧ marchM W l = (W.stepped l).2 := by
 have e : marchE W l = 0 := by unfold marchE; rw [if_neg (by omega), if_neg (by omega)]
 unfold marchW marchM; rw [e]; exact ⟨rfl, rfl, rfl⟩
noncomputable def reachK (g : Gox) : Nat → Wd → Nat
 | 0, _ => 0
 | n + 1, W => if (W.stepped [g]).2.length = 0 then 0 else reachK g n (W.stepped [g]).1 + 1
noncomputable def reachV (g : Gox) : Nat → Wd → Wd
 | 0, W => W
 | n + 1, W => if (W.stepped [g]).2.length = 0 then (W.stepped [g]).1 else reachV g n (W.stepped [g]).1
def reachE (W : Wd) (id n : Int) : Int := if W.chk ≠ 0 then W.chk else if n < 0 ∨ 200 < n then 1 else if whichB W (isId id) = false then 7 else 0
noncomputable def reachW (W : Wd) (id : Int) (to_ : Cel) (n : Int) : Wd := if reachE W id n ≠ 0 then Wd.zero else reachV ⟨id, ⟨to_.x, to_.y⟩⟩ n.toNat W
noncomputable def reachN (W : Wd) (id : Int) (to_ : Cel) (n : Int) : Nat := if reachE W id n ≠ 0 then 0 else reachK ⟨id, ⟨to_.x, to_.y⟩⟩ n.toNat W
theorem mown_any (a : Wd.At) (W : Wd) (w : World) (hW : Wd.Has w a W) :
  Calls Try.prog 93 #[.agg ((Wd.cells a W).toArray)] w (λ e w' => ∃ a' : Wd.At, e = .returned (.agg (Wd.cells a' W).toArray) ∧ WOwn w' w.heap.size a' W ∧ Ext w w') := by
 refine calls_W (n := 26) Try.func93 rfl rfl rfl ?_
 refine sg <| bx rfl rfl rfl rfl λ w_1 b_2 x_3 l_4 B_5 => ?_
 have := x_3.size
 have z_1 := eT (Ext.rf w) x_3
 have q_7 := B_5.lt
 refine al rfl eF53 rfl rfl λ w_8 b_9 x_10 l_11 B_12 => ?_
 have := x_10.size
 have z_8 := eT z_1 x_10
 have q_14 := B_12.lt
 refine nK <| sg <| vL (fa eF28 rfl) <| vL (fa eF62 rfl) <| ?_
 have B_5 := B_5.later x_10
 refine vL (ld rfl (B_5.one eF30 rfl)) <| ca eF76 rfl rfl ((clone_I _ _ W.field.places _ (hW.P.keep z_8)).mono ?_)
 rintro e w_18 ⟨A_15, c_15, rfl, OC_15, hn_15, x_19⟩
 refine ⟨_, rfl, ?_⟩
 have := x_19.size
 have z_18 := eT z_8 x_19
 have u_16 := λ q hq => (OC_15.lt q hq).2
 have lo_17 := λ q hq => (OC_15.lt q hq).1
 refine vL (fa eF28 rfl) <| vL (fa eF62 rfl) <| ?_
 have B_5 := B_5.later x_19
 refine st (new := [.int .i64 W.field.wide, .int .i64 W.field.high, .slice A_15 ((W.field.places).length) c_15, .slice a.B W.bases.length a.b, .slice a.S W.stocks.length a.s, .slice a.M W.mines.length a.m, .slice a.T W.troops.length a.t, .int .i64 W.next, .int .i64 W.now]) rfl rfl B_5 rfl eF78 rfl rfl rfl λ w_21 m_22 B_5 => ?_
 have := m_22.size
 have z_21 := Ext.mod z_18 m_22 (ge1 (by omega))
 have := m_22.size
 refine nK <| sq <| ?_
 refine rd [(1, 0), (2, 2), (4, 0), (5, 2), (7, 3), (9, 3)] [0, 1, 3, 4, 2, 6, 5, 7, 8, 9] (by kernel_rfl) (by kernel_rfl) ?_
 refine fw1 rfl (λ _ => fa eF31 rfl) <| fq1 rfl (λ _ x => ld rfl ((B_5.later x).one eF32 rfl)) <| fw1 rfl (λ _ => fa eF34 rfl) <| fq1 rfl (λ _ x => ld rfl ((B_5.later x).one eF30 rfl)) <| fx rfl rfl rfl λ w_25 x_26 Q hK => ca eF77 rfl rfl ((clone_C _ _ W.bases _ (hW.B.keep (eT z_21 x_26))).mono ?_)
 rintro e w_30 ⟨A_27, c_27, rfl, OC_27, hn_27, x_31⟩
 refine ⟨_, rfl, hK _ _ ⟨eT x_26 x_31, ?_⟩⟩
 have := x_26.size
 have z_25 := eT z_21 x_26
 have := x_31.size
 have z_30 := eT z_25 x_31
 have u_28 := λ q hq => (OC_27.lt q hq).2
 have lo_29 := λ q hq => (OC_27.lt q hq).1
 refine fw1 rfl (λ _ => fa eF31 rfl) <| fx rfl rfl rfl λ w_34 x_35 Q hK => ca eF76 rfl rfl ((clone_I _ _ W.stocks _ (hW.S.keep (eT z_30 x_35))).mono ?_)
 rintro e w_39 ⟨A_36, c_36, rfl, OC_36, hn_36, x_40⟩
 refine ⟨_, rfl, hK _ _ ⟨eT x_35 x_40, ?_⟩⟩
 have := x_35.size
 have z_34 := eT z_30 x_35
 have := x_40.size
 have z_39 := eT z_34 x_40
 have u_37 := λ q hq => (OC_36.lt q hq).2
 have lo_38 := λ q hq => (OC_36.lt q hq).1
 have B_5 := B_5.later (eT x_26 (eT x_31 (eT x_35 x_40)))
 refine fb rfl rfl rfl λ w_43 x_44 Q hK => st (new := [.int .i64 W.field.wide, .int .i64 W.field.high, .slice A_15 ((W.field.places).length) c_15, .slice A_27 ((W.bases).length) c_27, .slice a.S W.stocks.length a.s, .slice a.M W.mines.length a.m, .slice a.T W.troops.length a.t, .int .i64 W.next, .int .i64 W.now]) rfl rfl (B_5.later x_44) rfl eF79 rfl rfl rfl λ w_45 m_46 B_5 => hK _ _ ?_
 have := x_44.size
 have z_43 := eT z_39 x_44
 have := m_46.size
 have z_45 := Ext.mod z_43 m_46 (ge1 (by omega))
 have := m_46.size
 refine fw1 rfl (λ _ => fa eF34 rfl) <| fb rfl rfl rfl λ w_50 x_51 Q hK => st (new := [.int .i64 W.field.wide, .int .i64 W.field.high, .slice A_15 ((W.field.places).length) c_15, .slice A_27 ((W.bases).length) c_27, .slice A_36 ((W.stocks).length) c_36, .slice a.M W.mines.length a.m, .slice a.T W.troops.length a.t, .int .i64 W.next, .int .i64 W.now]) rfl rfl (B_5.later x_51) rfl eF78 rfl rfl rfl λ w_52 m_53 B_5 => hK _ _ ?_
 have := x_51.size
 have z_50 := eT z_45 x_51
 have := m_53.size
 have z_52 := Ext.mod z_50 m_53 (ge1 (by omega))
 have := m_53.size
 refine fn λ w_57 x_58 => ?_
 have := x_58.size
 have z_57 := eT z_52 x_58
 refine nT <| sq <| ?_
 refine rd [(1, 0), (2, 2), (4, 0), (5, 2), (7, 3), (9, 3)] [0, 1, 3, 4, 2, 6, 5, 7, 8, 9] (by kernel_rfl) (by kernel_rfl) ?_
 refine fw1 rfl (λ _ => fa eF29 rfl) <| ?_
 have B_5 := B_5.later x_58
 refine fq1 rfl (λ _ x => ld rfl ((B_5.later x).one eF30 rfl)) <| fw1 rfl (λ _ => fa eF35 rfl) <| fq1 rfl (λ _ x => ld rfl ((B_5.later x).one eF36 rfl)) <| fx rfl rfl rfl λ w_60 x_61 Q hK => ca eF76 rfl rfl ((clone_I _ _ W.mines _ (hW.M.keep (eT z_57 x_61))).mono ?_)
 rintro e w_65 ⟨A_62, c_62, rfl, OC_62, hn_62, x_66⟩
 refine ⟨_, rfl, hK _ _ ⟨eT x_61 x_66, ?_⟩⟩
 have := x_61.size
 have z_60 := eT z_57 x_61
 have := x_66.size
 have z_65 := eT z_60 x_66
 have u_63 := λ q hq => (OC_62.lt q hq).2
 have lo_64 := λ q hq => (OC_62.lt q hq).1
 refine fw1 rfl (λ _ => fa eF29 rfl) <| fx rfl rfl rfl λ w_69 x_70 Q hK => ca eF80 rfl rfl ((clone_T _ _ W.troops _ (hW.T.keep (eT z_65 x_70))).mono ?_)
 rintro e w_74 ⟨A_71, c_71, rfl, OC_71, hn_71, x_75⟩
 refine ⟨_, rfl, hK _ _ ⟨eT x_70 x_75, ?_⟩⟩
 have := x_70.size
 have z_69 := eT z_65 x_70
 have := x_75.size
 have z_74 := eT z_69 x_75
 have u_72 := λ q hq => (OC_71.lt q hq).2
 have lo_73 := λ q hq => (OC_71.lt q hq).1
 have B_5 := B_5.later (eT x_61 (eT x_66 (eT x_70 x_75)))
 refine fb rfl rfl rfl λ w_78 x_79 Q hK => st (new := [.int .i64 W.field.wide, .int .i64 W.field.high, .slice A_15 ((W.field.places).length) c_15, .slice A_27 ((W.bases).length) c_27, .slice A_36 ((W.stocks).length) c_36, .slice A_62 ((W.mines).length) c_62, .slice a.T W.troops.length a.t, .int .i64 W.next, .int .i64 W.now]) rfl rfl (B_5.later x_79) rfl eF78 rfl rfl rfl λ w_80 m_81 B_5 => hK _ _ ?_
 have := x_79.size
 have z_78 := eT z_74 x_79
 have := m_81.size
 have z_80 := Ext.mod z_78 m_81 (ge1 (by omega))
 have := m_81.size
 refine fw1 rfl (λ _ => fa eF35 rfl) <| fb rfl rfl rfl λ w_85 x_86 Q hK => st (new := [.int .i64 W.field.wide, .int .i64 W.field.high, .slice A_15 ((W.field.places).length) c_15, .slice A_27 ((W.bases).length) c_27, .slice A_36 ((W.stocks).length) c_36, .slice A_62 ((W.mines).length) c_62, .slice A_71 ((W.troops).length) c_71, .int .i64 W.next, .int .i64 W.now]) rfl rfl (B_5.later x_86) rfl eF46 rfl rfl rfl λ w_87 m_88 B_5 => hK _ _ ?_
 have := x_86.size
 have z_85 := eT z_80 x_86
 have := m_88.size
 have z_87 := Ext.mod z_85 m_88 (ge1 (by omega))
 have := m_88.size
 refine fn λ w_92 x_93 => ?_
 have := x_93.size
 have z_92 := eT z_87 x_93
 refine nT <| sg <| ?_
 have B_5 := B_5.later x_93
 refine vL (ld rfl (B_5.all eF54 eF55)) <| ?_
 have B_12 := B_12.later x_19
 have B_12 := B_12.mod m_22 (nm1 (by omega))
 have B_12 := B_12.later (eT x_26 (eT x_31 (eT x_35 (eT x_40 x_44))))
 have B_12 := B_12.mod m_46 (nm1 (by omega))
 have B_12 := B_12.later x_51
 have B_12 := B_12.mod m_53 (nm1 (by omega))
 have B_12 := B_12.later (eT x_58 (eT x_61 (eT x_66 (eT x_70 (eT x_75 x_79)))))
 have B_12 := B_12.mod m_81 (nm1 (by omega))
 have B_12 := B_12.later x_86
 have B_12 := B_12.mod m_88 (nm1 (by omega))
 have B_12 := B_12.later x_93
 refine st (new := [.int .i64 W.field.wide, .int .i64 W.field.high, .slice A_15 ((W.field.places).length) c_15, .slice A_27 ((W.bases).length) c_27, .slice A_36 ((W.stocks).length) c_36, .slice A_62 ((W.mines).length) c_62, .slice A_71 ((W.troops).length) c_71, .int .i64 W.next, .int .i64 W.now]) rfl rfl B_12 rfl eF55 rfl rfl rfl λ w_95 m_96 B_12 => ?_
 have := m_96.size
 have z_95 := Ext.mod z_92 m_96 (ge1 (by omega))
 have := m_96.size
 refine nK <| rt <| tR (.cell rfl (B_12.all eF54 eF55) .nil) <| ?_
 have OC_15 := OC_15.mod m_22 (fk2 lo_17 (by omega))
 have OC_15 := OC_15.later (eT x_26 (eT x_31 (eT x_35 (eT x_40 x_44))))
 have OC_15 := OC_15.mod m_46 (fk2 lo_17 (by omega))
 have OC_15 := OC_15.later x_51
 have OC_15 := OC_15.mod m_53 (fk2 lo_17 (by omega))
 have OC_15 := OC_15.later (eT x_58 (eT x_61 (eT x_66 (eT x_70 (eT x_75 x_79)))))
 have OC_15 := OC_15.mod m_81 (fk2 lo_17 (by omega))
 have OC_15 := OC_15.later x_86
 have OC_15 := OC_15.mod m_88 (fk2 lo_17 (by omega))
 have OC_15 := OC_15.later x_93
 have OC_15 := OC_15.mod m_96 (fk2 lo_17 (by omega))
 have OC_27 := OC_27.later (eT x_35 (eT x_40 x_44))
 have OC_27 := OC_27.mod m_46 (fk2 lo_29 (by omega))
 have OC_27 := OC_27.later x_51
 have OC_27 := OC_27.mod m_53 (fk2 lo_29 (by omega))
 have OC_27 := OC_27.later (eT x_58 (eT x_61 (eT x_66 (eT x_70 (eT x_75 x_79)))))
 have OC_27 := OC_27.mod m_81 (fk2 lo_29 (by omega))
 have OC_27 := OC_27.later x_86
 have OC_27 := OC_27.mod m_88 (fk2 lo_29 (by omega))
 have OC_27 := OC_27.later x_93
 have OC_27 := OC_27.mod m_96 (fk2 lo_29 (by omega))
 have OC_36 := OC_36.later x_44
 have OC_36 := OC_36.mod m_46 (fk2 lo_38 (by omega))
 have OC_36 := OC_36.later x_51
 have OC_36 := OC_36.mod m_53 (fk2 lo_38 (by omega))
 have OC_36 := OC_36.later (eT x_58 (eT x_61 (eT x_66 (eT x_70 (eT x_75 x_79)))))
 have OC_36 := OC_36.mod m_81 (fk2 lo_38 (by omega))
 have OC_36 := OC_36.later x_86
 have OC_36 := OC_36.mod m_88 (fk2 lo_38 (by omega))
 have OC_36 := OC_36.later x_93
 have OC_36 := OC_36.mod m_96 (fk2 lo_38 (by omega))
 have OC_62 := OC_62.later (eT x_70 (eT x_75 x_79))
 have OC_62 := OC_62.mod m_81 (fk2 lo_64 (by omega))
 have OC_62 := OC_62.later x_86
 have OC_62 := OC_62.mod m_88 (fk2 lo_64 (by omega))
 have OC_62 := OC_62.later x_93
 have OC_62 := OC_62.mod m_96 (fk2 lo_64 (by omega))
 have OC_71 := OC_71.later x_79
 have OC_71 := OC_71.mod m_81 (fk2 lo_73 (by omega))
 have OC_71 := OC_71.later x_86
 have OC_71 := OC_71.mod m_88 (fk2 lo_73 (by omega))
 have OC_71 := OC_71.later x_93
 have OC_71 := OC_71.mod m_96 (fk2 lo_73 (by omega))
 have hR := WOwn.of5 (Z := w.heap.size) (OC_15.down (by omega)) (OC_27.down (by omega)) (OC_36.down (by omega)) (OC_62.down (by omega)) (OC_71.down (by omega)) (λ q h1 h2 => by exfalso; (have := lo_29 q h1; (have := u_16 q h2; omega))) (λ q h1 h2 => by exfalso; (have := lo_38 q h1; (have := u_16 q h2; omega))) (λ q h1 h2 => by exfalso; (have := lo_38 q h1; (have := u_28 q h2; omega))) (λ q h1 h2 => by exfalso; (have := lo_64 q h1; (have := u_16 q h2; omega))) (λ q h1 h2 => by exfalso; (have := lo_64 q h1; (have := u_28 q h2; omega))) (λ q h1 h2 => by exfalso; (have := lo_64 q h1; (have := u_37 q h2; omega))) (λ q h1 h2 => by exfalso; (have := lo_73 q h1; (have := u_16 q h2; omega))) (λ q h1 h2 => by exfalso; (have := lo_73 q h1; (have := u_28 q h2; omega))) (λ q h1 h2 => by exfalso; (have := lo_73 q h1; (have := u_37 q h2; omega))) (λ q h1 h2 => by exfalso; (have := lo_73 q h1; (have := u_63 q h2; omega))) hW.nums
 exact ⟨⟨A_15, A_27, A_36, A_62, A_71, c_15, c_27, c_36, c_62, c_71⟩, rfl, hR, z_95⟩
theorem mstep_any (a : Wd.At) (W : Wd) (A : Option Addr) (c : Nat) (l : List Gox) (w : World) (hW : Wd.Has w a W) (hl : Gox.rep.SHas 24 w A c l) :
  Calls Try.prog 57 #[.agg ((Wd.cells a W).toArray), .slice A l.length c] w (λ e w' => ∃ a' A' c', e = .returned (.tuple #[.agg (Wd.cells a' (marchW W l)).toArray, .slice A' (marchM W l).length c', .int .i64 (marchE W l)]) ∧ WOwn w' w.heap.size a' (marchW W l) ∧ repI.SOwn 3 8 w' w.heap.size (Rep.blkOf A') A' c' (marchM W l) ∧ (∀ q ∈ Rep.blkOf A', q ∉ WOwn.foot a') ∧ Ext w w') := by
 refine calls_W (n := 26) Try.func57 rfl rfl rfl ?_
 refine sg <| bx rfl rfl rfl rfl λ w_1 b_2 x_3 l_4 B_5 => ?_
 have := x_3.size
 have z_1 := eT (Ext.rf w) x_3
 have q_7 := B_5.lt
 refine al rfl eF53 rfl rfl λ w_8 b_9 x_10 l_11 B_12 => ?_
 have := x_10.size
 have z_8 := eT z_1 x_10
 have q_14 := B_12.lt
 refine va rfl <| va rfl <| nK <| sq <| sg <| ?_
 have B_5 := B_5.later x_10
 refine vL (ld rfl (B_5.all eF54 eF55)) <| ca eF56 rfl rfl ((check_any a W _ (hW.keep z_8)).mono ?_)
 rintro e w_15 ⟨rfl, x_16⟩
 refine ⟨_, rfl, ?_⟩
 have := x_16.size
 have z_15 := eT z_8 x_16
 refine va rfl <| nK <| sg <| vm rfl <| vL (bne rfl rfl) <| nK <| ?_
 refine cne rfl (λ h_18 => ?_) (λ h_18 => ?_)
 ·refine sg <| vL (v := .agg #[.int .i64 0, .int .i64 0, .slice none 0 0, .slice none 0 0, .slice none 0 0, .slice none 0 0, .slice none 0 0, .int .i64 0, .int .i64 0]) (bd rfl (by kernel_rfl)) <| vm rfl <| ?_
  have B_12 := B_12.later x_16
  refine st (new := [.int .i64 0, .int .i64 0, .slice none 0 0, .slice none 0 0, .slice none 0 0, .slice none 0 0, .slice none 0 0, .int .i64 0, .int .i64 0]) rfl rfl B_12 rfl eF55 rfl rfl rfl λ w_19 m_20 B_12 => ?_
  have := m_20.size
  have z_19 := Ext.mod z_15 m_20 (ge1 (by omega))
  have := m_20.size
  refine va rfl <| va rfl <| nK <| rt <| tT <| tR (.cell rfl (B_12.all eF54 eF55) (.tmp rfl (.tmp rfl .nil))) <| ?_
  obtain ⟨e1, e2, e3⟩ := march_bad (l := l) h_18
  exact ⟨⟨none, none, none, none, none, 0, 0, 0, 0, 0⟩, none, 0, by rw [e1, e2, e3]; rfl, by rw [e2]; exact WOwn.zero _ _, by rw [e3]; exact Rep.SOwn.nil _, λ q hq => by simp [Rep.blkOf] at hq, z_19⟩
 ·have hG := Good.of_chk h_18
  have hnt := hG.nt
  refine sK <| sq <| sg <| vm rfl <| vL (ln Try.underlying108 rfl) <| vL (bgt rfl rfl) <| nK <| ?_
  refine clt rfl (λ h_23 => ?_) (λ h_23 => ?_)
  ·refine sg <| vL (v := .agg #[.int .i64 0, .int .i64 0, .slice none 0 0, .slice none 0 0, .slice none 0 0, .slice none 0 0, .slice none 0 0, .int .i64 0, .int .i64 0]) (bd rfl (by kernel_rfl)) <| ?_
   have B_12 := B_12.later x_16
   refine st (new := [.int .i64 0, .int .i64 0, .slice none 0 0, .slice none 0 0, .slice none 0 0, .slice none 0 0, .slice none 0 0, .int .i64 0, .int .i64 0]) rfl rfl B_12 rfl eF55 rfl rfl rfl λ w_24 m_25 B_12 => ?_
   have := m_25.size
   have z_24 := Ext.mod z_15 m_25 (ge1 (by omega))
   have := m_25.size
   refine va rfl <| va rfl <| nK <| rt <| tT <| tR (.cell rfl (B_12.all eF54 eF55) (.tmp rfl (.tmp rfl .nil))) <| ?_
   obtain ⟨e1, e2, e3⟩ := march_many (l := l) h_18 (by omega)
   exact ⟨⟨none, none, none, none, none, 0, 0, 0, 0, 0⟩, none, 0, by rw [e1, e2, e3]; rfl, by rw [e2]; exact WOwn.zero _ _, by rw [e3]; exact Rep.SOwn.nil _, λ q hq => by simp [Rep.blkOf] at hq, z_24⟩
  ·refine sK <| sg <| ?_
   have B_5 := B_5.later x_16
   refine vL (ld rfl (B_5.all eF54 eF55)) <| ca eF145 rfl rfl ((mown_any a W _ (hW.keep z_15)).mono ?_)
   rintro e w_31 ⟨a28, rfl, HO28, x_32⟩
   refine ⟨_, rfl, ?_⟩
   have := x_32.size
   have z_31 := eT z_15 x_32
   have u_29 := λ q hq => (HO28.lt q hq).2
   have lo_30 := λ q hq => (HO28.lt q hq).1
   have B_5 := B_5.later x_32
   refine st rfl rfl B_5 rfl eF55 rfl rfl rfl λ w_34 m_35 B_5 => ?_
   have := m_35.size
   have z_34 := Ext.mod z_31 m_35 (ge1 (by omega))
   have := m_35.size
   refine nK <| sg <| vL (ld rfl (B_5.all eF54 eF55)) <| vm rfl <| ?_
   have HO28 := HO28.mod m_35 (fk2 lo_30 (by omega))
   refine ca eF146 rfl rfl ((mstep_own _ a28 W _ _ l _ HO28 (hl.keep z_34) (λ h0 q hq hb => by have h1 := hl.ltb (by decide) h0 q hq; have h2 := lo_30 q (foot_T hb); omega) (by omega)).mono ?_)
   rintro e w_42 ⟨A38, c38, rfl, OM38, HS38, m_41⟩
   refine ⟨_, rfl, ?_⟩
   have := m_41.size
   have z_42 := Ext.mod z_34 m_41 (λ q hq => by have h_ := lo_30 q (foot_T hq); omega)
   rw [stepped_cells a28 W l] at B_5
   have u_39 := λ q hq => (OM38.lt q hq).2
   have lo_40 := λ q hq => (OM38.lt q hq).1
   have u_38 := λ q hq => (HS38.lt q hq).2
   have hln38 := stepped_len W l
   refine va rfl <| nK <| sg <| ?_
   have d_44 : ∀ q ∈ Rep.blkOf a28.T, q = b_2 → False := λ q hq hb => by (have := lo_30 q (foot_T hq); omega)
   have B_5 := B_5.mod m_41 (λ hq => d_44 _ hq rfl)
   refine vL (ld rfl (B_5.all eF54 eF55)) <| vm rfl <| ?_
   have B_12 := B_12.later (eT x_16 x_32)
   have B_12 := B_12.mod m_35 (nm1 (by omega))
   have d_45 : ∀ q ∈ Rep.blkOf a28.T, q = b_9 → False := λ q hq hb => by (have := lo_30 q (foot_T hq); omega)
   have B_12 := B_12.mod m_41 (λ hq => d_45 _ hq rfl)
   refine st rfl rfl B_12 rfl eF55 rfl rfl rfl λ w_46 m_47 B_12 => ?_
   have := m_47.size
   have z_46 := Ext.mod z_42 m_47 (ge1 (by omega))
   have := m_47.size
   refine va rfl <| va rfl <| nK <| rt <| tR (.cell rfl (B_12.all eF54 eF55) (.tmp rfl (.tmp rfl .nil))) <| ?_
   have HS38 := HS38.mod m_47 (fk2 lo_30 (by omega))
   have OM38 := OM38.mod m_47 (fk2 lo_40 (by omega))
   obtain ⟨e1, e2, e3⟩ := march_ok (l := l) h_18 (by omega)
   exact ⟨a28, A38, c38, by rw [e1, e2, e3]; rfl, by rw [e2]; exact HS38.down (by omega), by rw [e3]; exact OM38.down (by omega), λ q hq hf => by (have := lo_40 q hq; (have := u_29 q hf; omega)), z_46⟩
end
section
open Go.RowKit
theorem nodup_le : ∀ (n : Nat) (l : List Nat), l.Nodup → (∀ x ∈ l, x < n) → l.length ≤ n := by
 intro n
 induction n with
 | zero =>
  intro l _ h
  cases l with
  | nil => exact Nat.le_refl _
  | cons x r => exact absurd (h x List.mem_cons_self) (by omega)
 | succ n ih =>
  intro l hn h
  by_cases hm : n ∈ l
  ·have h1 := ih (l.erase n) (hn.erase _) (λ x hx => by
    have := h x (List.mem_of_mem_erase hx)
    have hne : x ≠ n := λ e => by subst e; exact (List.Nodup.not_mem_erase hn) hx
    omega)
   rw [List.length_erase_of_mem hm] at h1
   omega
  ·have := ih l hn (λ x hx => by
    have := h x hx
    have hne : x ≠ n := λ e => hm (by rw [← e]; exact hx)
    omega)
   omega
section
variable {f : Fld} {a b c x y : Cel} {d D : Int} {far : List Int} {fr : Cel → Int}
theorem cells_le (hf : f.chk = 0) {l : List Cel} (hn : l.Nodup) (hi : ∀ x ∈ l, f.isIn x = true) : l.length ≤ f.places.length := by
 have h1 : (l.map f.at_).Nodup := by
  have : ∀ l : List Cel, l.Nodup → (∀ x ∈ l, f.isIn x = true) → (l.map f.at_).Nodup := by
   intro l
   induction l with
   | nil => intro _ _; exact List.nodup_nil
   | cons x r ih =>
    intro hn hi
    rw [List.nodup_cons] at hn
    rw [List.map_cons, List.nodup_cons]
    refine ⟨λ hm => ?_, ih hn.2 λ y hy => hi y (List.mem_cons_of_mem _ hy)⟩
    obtain ⟨y, hy, e⟩ := List.mem_map.1 hm
    have := Fld.at_inj hf (hi y (List.mem_cons_of_mem _ hy)) (hi x List.mem_cons_self) e
    subst this; exact hn.1 hy
  exact this l hn hi
 have := nodup_le f.places.length _ h1 (λ i hm => by
  obtain ⟨y, hy, rfl⟩ := List.mem_map.1 hm
  exact (Fld.at_lt hf (hi y hy)).1)
 rwa [List.length_map] at this
abbrev RchF (f : Fld) (a : Cel) : Cel → Int → Prop := Gra.Rch f.adj f.kost (λ s => s = a)
abbrev DstF (f : Fld) (a : Cel) : Cel → Int → Prop := Gra.IsD f.adj f.kost (λ s => s = a)
theorem RchF.nn (r : RchF f a x d) : 0 ≤ d := Gra.Rch.nn (Fld.okZ f) r
theorem RchF.ground (ha : f.ground a = true) (r : RchF f a x d) : f.ground x = true := by
 induction r with
 | start hs => rw [hs]; exact ha
 | step _ hy _ => exact (Fld.mem_adj.1 hy).2
theorem RchF.tr (r : RchF f a x d) {e : Int} (q : RchF f x y e) : RchF f a y (d + e) := by
 induction q with
 | start hs => rw [hs, Int.add_zero]; exact r
 | step _ hy ih => rw [← Int.add_assoc]; exact .step ih hy
theorem DstF.pred (h : DstF f a x d) : (x = a ∧ d = 0) ∨ ∃ p e, DstF f a p e ∧ x ∈ f.adj p ∧ d = e + f.kost x := by
 obtain ⟨r, hm⟩ := h
 cases r with
 | start hs => exact .inl ⟨hs, rfl⟩
 | @step p _ e hp hy =>
  obtain ⟨e', he⟩ := Gra.Rch.isD (Fld.okZ f) hp
  have h1 := he.2 _ hp
  have h2 := hm _ (.step he.1 hy)
  have : e = e' := by omega
  subst this
  exact .inr ⟨p, e, he, hy, rfl⟩
theorem DstF.chain (hf : f.chk = 0) (ha : f.ground a = true) : ∀ (n : Nat) (x : Cel) (d : Int), DstF f a x d → d.toNat = n → ∃ l : List Cel, l.Nodup ∧ (∀ y ∈ l, f.isIn y = true ∧ ∃ e, DstF f a y e ∧ e ≤ d) ∧ d + 3 ≤ 3 * (l.length : Int) := by
 intro n
 induction n using Nat.strongRecOn with
 | ind n ih =>
  intro x d h hn
  have hx := Fld.ground_in (RchF.ground ha h.1)
  rcases h.pred with ⟨h1, h2⟩ | ⟨p, e, h1, h2, h3⟩
  ·refine ⟨[x], by simp, λ y hy => ?_, by rw [h2]; simp⟩
   rw [List.mem_singleton.1 hy]; exact ⟨hx, d, h, Int.le_refl _⟩
  ·have hk := f.kost_bd (c := x)
   have he := RchF.nn h1.1
   obtain ⟨l, l1, l2, l3⟩ := ih e.toNat (by omega) p e h1 rfl
   refine ⟨x :: l, List.nodup_cons.2 ⟨λ hm => ?_, l1⟩, λ y hy => ?_, by rw [List.length_cons]; omega⟩
   ·obtain ⟨_, e', h4, h5⟩ := l2 x hm
    have := h4.uniq h; omega
   ·rcases List.mem_cons.1 hy with rfl | hy
    ·exact ⟨hx, d, h, Int.le_refl _⟩
    ·obtain ⟨h4, e', h5, h6⟩ := l2 y hy
     exact ⟨h4, e', h5, by omega⟩
theorem DstF.bd (hf : f.chk = 0) (ha : f.ground a = true) (h : DstF f a x d) : d + 3 ≤ 3 * (f.places.length : Int) := by
 obtain ⟨l, l1, l2, l3⟩ := h.chain hf ha _ x d rfl
 have := cells_le hf l1 λ y hy => (l2 y hy).1
 omega
def cellAt (f : Fld) (i : Nat) : Cel := ⟨(i : Int) % f.wide, (i : Int) / f.wide⟩
theorem cellAt_at (hf : f.chk = 0) (hc : f.isIn c = true) : cellAt f (f.at_ c) = c := by
 obtain ⟨_, _, a2, a3, a4, a5⟩ := Fld.idx hf hc
 have h := (Fld.at_lt hf hc).2
 unfold cellAt
 rw [h]
 have e1 : (c.y * f.wide + c.x) % f.wide = c.x := by rw [Int.add_comm, Int.add_mul_emod_self_right, Int.emod_eq_of_lt a2 a3]
 have e2 : (c.y * f.wide + c.x) / f.wide = c.y := by rw [Int.add_comm, Int.add_mul_ediv_right _ _ (by omega), Int.ediv_eq_zero_of_lt a2 a3, Int.zero_add]
 rw [e1, e2]
theorem fr_mk (hf : f.chk = 0) {g : Cel → Int} (hg : ∀ c, f.isIn c = false → g c = -1) : f.fr ((List.range f.places.length).map λ i => g (cellAt f i)) c = g c := by
 cases hc : f.isIn c with
 | false => rw [Fld.fr_out hc, hg c hc]
 | true =>
  rw [Fld.fr_in hc, List.getD_eq_getElem?_getD, List.getElem?_map, List.getElem?_range (Fld.at_lt hf hc).1]
  show g (cellAt f (f.at_ c)) = g c
  rw [cellAt_at hf hc]
theorem pend_ex (hf : f.chk = 0) (ha : f.ground a = true) (b : Cel) : ∃ far, PEnd f a b far := by
 let Q : Cel → Int → Prop := λ c d => DstF f a c d ∧ ∀ D, DstF f a b D → d + Fld.est b c ≤ D
 let g : Cel → Int := λ c => @dite _ (∃ d, Q c d) (Classical.propDecidable _) (λ h => h.choose) λ _ => -1
 have gp : ∀ c d, Q c d → g c = d := λ c d h => by
  have hex : ∃ d, Q c d := ⟨d, h⟩
  show @dite _ (∃ d, Q c d) (Classical.propDecidable _) (λ h => h.choose) (λ _ => -1) = d
  rw [dif_pos hex]
  exact hex.choose_spec.1.uniq h.1
 have gn : ∀ c, (¬ ∃ d, Q c d) → g c = -1 := λ c h => by
  show @dite _ (∃ d, Q c d) (Classical.propDecidable _) (λ h => h.choose) (λ _ => -1) = -1
  rw [dif_neg h]
 have gi : ∀ c, 0 ≤ g c → Q c (g c) := λ c h => by
  by_cases hex : ∃ d, Q c d
  ·obtain ⟨d, hd⟩ := hex
   rw [gp c d hd]; exact hd
  ·rw [gn c hex] at h; omega
 have go : ∀ c, f.isIn c = false → g c = -1 := λ c hc => gn c λ ⟨d, hd⟩ => by
  have := Fld.ground_in (RchF.ground ha hd.1.1); rw [hc] at this; cases this
 have hfr : ∀ c, f.fr ((List.range f.places.length).map λ i => g (cellAt f i)) c = g c := λ c => fr_mk hf go
 refine ⟨(List.range f.places.length).map λ i => g (cellAt f i), by rw [List.length_map, List.length_range], ⟨λ c h => ?_, λ c h => ?_, λ c d hd hle => ?_, λ c h => ?_⟩, λ c => ?_, λ c h => ?_⟩
 ·rw [hfr c] at h ⊢
  by_cases hex : ∃ d, Q c d
  ·obtain ⟨d, hd⟩ := hex
   rw [gp c d hd] at h
   have := RchF.nn hd.1.1; omega
  ·exact gn c hex
 ·rw [hfr c] at h ⊢; exact gi c h
 ·rw [hfr c]; exact gp c d ⟨hd, hle⟩
 ·rw [hfr c] at h ⊢
  have hq := gi c h
  rcases hq.1.pred with h1 | ⟨p, e, h1, h2, h3⟩
  ·exact .inl h1
  ·right
   have he := Fld.est_step b (Fld.mem_adj.1 h2).1
   have hk := f.kost_bd (c := c)
   have hp : g p = e := gp p e ⟨h1, λ D hD => by have := hq.2 D hD; omega⟩
   exact ⟨p, by rw [hfr p, hp]; exact RchF.nn h1.1, h2, by rw [hfr p, hp]; exact h3⟩
 ·rw [hfr c]
  by_cases h : 0 ≤ g c
  ·have := (gi c h).1.bd hf ha; omega
  ·omega
 ·rw [hfr c] at h; exact RchF.ground ha (gi c h).1.1
theorem frF_spec (hf : f.chk = 0) (ha : f.ground a = true) : Gra.Spec f.adj f.kost (Fld.est b) (λ s => s = a) b (frF f a b) := by
 obtain ⟨far, h⟩ := pend_ex hf ha b
 rw [← h.frE]; exact h.spec
theorem frF_dst (hf : f.chk = 0) (ha : f.ground a = true) (h : 0 ≤ frF f a b c) : DstF f a c (frF f a b c) := ((frF_spec hf ha).dist c h).1
theorem frF_end (hf : f.chk = 0) (ha : f.ground a = true) (h : DstF f a b d) : frF f a b b = d := (frF_spec hf ha).end_ (Fld.est_self b) h
theorem frF_rch (hf : f.chk = 0) (ha : f.ground a = true) (h : RchF f a b d) : 0 ≤ frF f a b b ∧ frF f a b b ≤ d := by
 obtain ⟨e, he⟩ := Gra.Rch.isD (Fld.okZ f) h
 rw [frF_end hf ha he]; exact ⟨RchF.nn he.1, he.2 _ h⟩
theorem frF_frs (hf : f.chk = 0) (ha : f.ground a = true) (h : 0 ≤ frF f a b b) : Frs f a (frF f a b) := by
 obtain ⟨far, hp⟩ := pend_ex hf ha b
 exact Frs.ofF hp h
theorem wayB_in (h : Frs f a fr) : ∀ (n : Nat) (c : Cel), 0 ≤ fr c → (fr c).toNat = n → ∀ x ∈ wayB f fr a c, 0 ≤ fr x ∧ fr x ≤ fr c ∧ f.ground x = true := by
 intro n
 induction n using Nat.strongRecOn with
 | ind n ih =>
  intro c hc hn x hx
  by_cases e : c = a
  ·subst e
   rw [wayB_self h] at hx
   rw [List.mem_singleton.1 hx]; exact ⟨hc, Int.le_refl _, h.gr _ hc⟩
  ·obtain ⟨p1, p2, p3, p4⟩ := h.prev hc e
   have hk := f.kost_bd (c := c)
   rw [wayB_step h hc e] at hx
   rcases List.mem_cons.1 hx with rfl | hx
   ·exact ⟨hc, Int.le_refl _, h.gr _ hc⟩
   ·obtain ⟨q1, q2, q3⟩ := ih _ (by omega) _ p3 rfl x hx
    exact ⟨q1, by omega, q3⟩
theorem find_dat (he : findE f a b = 0) : f.chk = 0 ∧ f.ground a = true ∧ f.ground b = true ∧ 0 ≤ frF f a b b ∧ findK f a b = frF f a b b ∧ findP f a b = (wayB f (frF f a b) a b).reverse := by
 rcases find_cases f a b with ⟨h1, h2⟩ | ⟨h1, h2, h3⟩ | ⟨h1, h2, h3, h4⟩ | ⟨h1, h2, h3, h4 | h4⟩
 ·rw [h2] at he; exact absurd he h1
 ·rw [h3] at he; exact absurd he h2
 ·rw [h4] at he; cases he
 ·rw [h4.2] at he; cases he
 ·refine ⟨h1, h2, h3, h4.1, ?_, ?_⟩
  ·unfold findK; rw [if_pos he]
  ·unfold findP; rw [if_pos he]
end
end
section
open Go.RowKit
def marchT : List Trp := [⟨1, 0, 1, ⟨2, 0⟩, 10, 0⟩]
def marchG : List Gox := [⟨1, ⟨2, 0⟩⟩]
end
section
open Go.RowKit
def trOfD (l : List Trp) (x : Int) : Option Trp := l.find? λ t => t.id == x
def trOfV (l : List Trp) (x : Int) : Value := .tuple #[.agg ((trOfD l x).getD default).cells.toArray, .bool (trOfD l x).isSome]
def sortedI (l : List Int) : Bool := (List.range (l.length - 1)).all λ i => !decide (l.getD (i + 1) 0 < l.getD i 0)
theorem sorted_yes {l : List Int} (h : ∀ i, i + 1 < l.length → ¬ l.getD (i + 1) 0 < l.getD i 0) : sortedI l = true := by
 unfold sortedI
 rw [List.all_eq_true]
 intro i hi
 have := h i (by have := List.mem_range.1 hi; omega)
 simpa using this
def revN {α : Type} (l : List α) (k : Nat) : List α := l.mapIdx λ i x => if i < k ∨ l.length - k ≤ i then (l[l.length - 1 - i]?).getD x else x
end
section
open Go.RowKit
def hurts (W : Wd) (l : List Blw) : List Trp := (List.range W.troops.length).map (hurt W.troops (harmW W l))
structure Struck (W : Wd) (l : List Blw) : Prop where
 good : Good W
 hW : struckW W l = { W with troops := (hurts W l).filter λ t => decide (0 < t.life) }
 hG : struckG W l = ((hurts W l).filter λ t => !decide (0 < t.life)).map Trp.id
 harm : ∀ k, 0 ≤ (harmW W l).getD k 0
 hl : (harmW W l).length = W.troops.length
theorem struck_of {W : Wd} {l : List Blw} (h : blowE W l = 0) : Struck W l :=
 ⟨Good.of_chk (blowE_ok h).1, (struck_ok h rfl).1, (struck_ok h rfl).2, λ k => ((harm_of h).2 k).1, (harm_of h).1⟩
theorem hurts_len (W : Wd) (l : List Blw) : (hurts W l).length = W.troops.length := by simp [hurts]
theorem hurts_get {W : Wd} {l : List Blw} {k : Nat} {t : Trp} (h : W.troops[k]? = some t) : (hurts W l)[k]? = some { t with life := t.life - (harmW W l).getD k 0 } := by
 have hk := (List.getElem?_eq_some_iff.1 h).1
 unfold hurts
 rw [List.getElem?_map, List.getElem?_range hk, Option.map_some]
 unfold hurt
 rw [getD_of h]
theorem hurts_mem {W : Wd} {l : List Blw} {x : Trp} (h : x ∈ hurts W l) : ∃ (k : Nat) (t : Trp), W.troops[k]? = some t ∧ x = { t with life := t.life - (harmW W l).getD k 0 } := by
 obtain ⟨k, hk⟩ := List.mem_iff_getElem?.1 h
 have hlt := (List.getElem?_eq_some_iff.1 hk).1
 rw [hurts_len] at hlt
 obtain ⟨t, ht⟩ := get_of hlt
 rw [hurts_get ht] at hk
 injection hk with hk
 exact ⟨k, t, ht, hk.symm⟩
theorem Struck.pw {W : Wd} {l : List Blw} (h : Struck W l) : (hurts W l).Pairwise Apart := by
 rw [List.pairwise_iff_getElem]
 intro i j hi hj hij
 rw [hurts_len] at hi hj
 obtain ⟨s, hs⟩ := get_of hi
 obtain ⟨t, ht⟩ := get_of hj
 have e1 := (List.getElem?_eq_some_iff.1 (hurts_get (l := l) hs)).2
 have e2 := (List.getElem?_eq_some_iff.1 (hurts_get (l := l) ht)).2
 rw [e1, e2]
 have := (List.pairwise_iff_getElem.1 h.good.pw) i j hi hj hij
 rw [(List.getElem?_eq_some_iff.1 hs).2, (List.getElem?_eq_some_iff.1 ht).2] at this
 exact this
theorem Struck.right {W : Wd} {l : List Blw} (h : Struck W l) : Good (struckW W l) := by
 rw [h.hW]
 refine Good.of_pw h.good rfl rfl rfl rfl rfl h.good.now ?_ (h.pw.filter _) λ t ht => ?_
 ·exact Nat.le_trans (List.length_filter_le _ _) (by rw [hurts_len]; exact h.good.nt)
 ·obtain ⟨ht, hp⟩ := List.mem_filter.1 ht
  obtain ⟨k, s, hs, rfl⟩ := hurts_mem ht
  have h1 := h.good.each (List.mem_of_getElem? hs)
  have h2 := h.harm k
  have h3 := of_decide_eq_true hp
  refine ⟨h1.1, h1.2.1, ⟨h1.2.2.kind, h1.2.2.owner, h1.2.2.ground, ?_, h1.2.2.load⟩⟩
  have h4 := h1.2.2.life
  show 1 ≤ s.life - _ ∧ s.life - _ ≤ Wd.lifeOf s.kind
  have h5 : 0 < s.life - (harmW W l).getD k 0 := h3
  omega
theorem sorted_of {l : List Int} (h : l.Pairwise (· < ·)) : sortedI l = true := by
 refine sorted_yes λ i hi => ?_
 have := (List.pairwise_iff_getElem.1 h) i (i + 1) (by omega) hi (by omega)
 rw [List.getD_eq_getElem?_getD, List.getD_eq_getElem?_getD, List.getElem?_eq_getElem hi, List.getElem?_eq_getElem (by omega : i < l.length)]
 show ¬ l[i + 1] < l[i]
 omega
theorem Struck.each {W : Wd} {l : List Blw} (h : Struck W l) {k : Nat} (hk : k < W.troops.length) :
  (∃ m : Int, 0 ≤ m ∧ trOfD (struckW W l).troops (W.troops.getD k default).id = some { W.troops.getD k default with life := (W.troops.getD k default).life - m } ∧ (struckG W l).any (λ y => (W.troops.getD k default).id == y) = false) ∨
  (trOfD (struckW W l).troops (W.troops.getD k default).id = none ∧ (struckG W l).any (λ y => (W.troops.getD k default).id == y) = true) := by
 obtain ⟨t, ht⟩ := get_of hk
 rw [getD_of ht]
 have hx := hurts_get (l := l) ht
 obtain ⟨x, hxe⟩ : ∃ x : Trp, x = { t with life := t.life - (harmW W l).getD k 0 } := ⟨_, rfl⟩
 rw [← hxe] at hx
 have hxm := List.mem_of_getElem? hx
 have hid : x.id = t.id := by rw [hxe]
 have huniq : ∀ y ∈ hurts W l, y.id = t.id → y = x := λ y hy e => by
  have h1 := find_id h.pw hy
  have h2 := find_id h.pw hxm
  rw [e] at h1; rw [hid, h1] at h2
  injection h2
 rw [h.hW, h.hG]
 by_cases hp : 0 < x.life
 ·refine .inl ⟨(harmW W l).getD k 0, h.harm k, ?_, ?_⟩
  ·have := find_id (h.pw.filter λ t => decide (0 < t.life)) (List.mem_filter.2 ⟨hxm, decide_eq_true hp⟩)
   rw [hid] at this
   rw [← hxe]; exact this
  ·rw [List.any_eq_false]
   intro y hy
   obtain ⟨z, hz, rfl⟩ := List.mem_map.1 hy
   obtain ⟨hz1, hz2⟩ := List.mem_filter.1 hz
   intro e
   have e : t.id = z.id := by simpa using e
   have := huniq z hz1 e.symm
   subst this
   rw [decide_eq_true hp] at hz2
   exact nomatch hz2
 ·refine .inr ⟨find_noid λ y hy e => ?_, ?_⟩
  ·obtain ⟨h1, h2⟩ := List.mem_filter.1 hy
   have := huniq y h1 e
   subst this
   exact hp (of_decide_eq_true h2)
  ·rw [List.any_eq_true]
   exact ⟨x.id, List.mem_map.2 ⟨x, List.mem_filter.2 ⟨hxm, by rw [decide_eq_false hp]; rfl⟩, rfl⟩, by rw [hid]; simp⟩
end
section
open Go.RowKit
section
variable {f : Fld} {a b c x y : Cel} {d D : Int}
theorem prev_same (hf : f.chk = 0) (ha : f.ground a = true) (hc1 : 0 ≤ frF f a b c) (hc2 : 0 ≤ frF f a x c) : prevF f (frF f a b) c = prevF f (frF f a x) c := by
 have key : ∀ t n, n ∈ sidesC c → 0 ≤ frF f a t c → ((f.ground n && decide (0 ≤ frF f a t n) && decide (frF f a t n + f.kost c = frF f a t c)) = true ↔ ∃ e, DstF f a n e ∧ DstF f a c (e + f.kost c)) := by
  intro t n hn ht
  have hs := frF_spec (b := t) hf ha
  have hdc := frF_dst hf ha ht
  constructor
  ·intro h
   simp only [Bool.and_eq_true, decide_eq_true_eq] at h
   exact ⟨_, frF_dst hf ha h.1.2, by rw [h.2]; exact hdc⟩
  ·rintro ⟨e, h1, h2⟩
   have he := hdc.uniq h2
   have hn2 : frF f a t n = e := hs.known n e h1 λ D hD => by
    have := (hs.dist c ht).2 D hD
    have h3 := Fld.est_step t (Fld.sides_symm hn)
    have hk := f.kost_bd (c := c)
    omega
   rw [hn2, RchF.ground ha h1.1, decide_eq_true (RchF.nn h1.1), decide_eq_true he.symm]; rfl
 unfold prevF
 congr 1
 apply find_congr
 intro n hn
 rw [Bool.eq_iff_iff, key b n hn hc1, key x n hn hc2]
where
 find_congr {p q : Cel → Bool} : ∀ {l : List Cel}, (∀ n ∈ l, p n = q n) → l.find? p = l.find? q
  | [], _ => rfl
  | n :: l, h => by
   rw [List.find?_cons, List.find?_cons, h n List.mem_cons_self, find_congr λ m hm => h m (List.mem_cons_of_mem _ hm)]
theorem wayB_same (hf : f.chk = 0) (ha : f.ground a = true) (hb : 0 ≤ frF f a b b) (hx : 0 ≤ frF f a x x) : ∀ (n : Nat) (c : Cel), 0 ≤ frF f a b c → 0 ≤ frF f a x c → (frF f a b c).toNat = n → wayB f (frF f a b) a c = wayB f (frF f a x) a c := by
 have F1 := frF_frs hf ha hb
 have F2 := frF_frs hf ha hx
 intro n
 induction n using Nat.strongRecOn with
 | ind n ih =>
  intro c h1 h2 hn
  by_cases e : c = a
  ·subst e; rw [wayB_self F1, wayB_self F2]
  ·have hp := prev_same (b := b) (x := x) hf ha h1 h2
   obtain ⟨p1, p2, p3, p4⟩ := F1.prev h1 e
   obtain ⟨q1, q2, q3, q4⟩ := F2.prev h2 e
   have hk := f.kost_bd (c := c)
   rw [wayB_step F1 h1 e, wayB_step F2 h2 e, ← hp]
   congr 1
   exact ih _ (by omega) _ p3 (by rw [hp]; exact q3) rfl
theorem wayB_suffix {fr : Cel → Int} (h : Frs f a fr) : ∀ (n : Nat) (c : Cel), 0 ≤ fr c → (fr c).toNat = n → ∀ i, (hi : i < (wayB f fr a c).length) → (wayB f fr a c).drop i = wayB f fr a ((wayB f fr a c)[i]) ∧ RchF f ((wayB f fr a c)[i]) c (fr c - fr ((wayB f fr a c)[i])) := by
 intro n
 induction n using Nat.strongRecOn with
 | ind n ih =>
  intro c hc hn i hi
  by_cases e : c = a
  ·subst e
   rw [wayB_self h] at hi
   have : i = 0 := by simpa using hi
   subst this
   simp only [wayB_self h, List.drop_zero, List.getElem_cons_zero]
   exact ⟨by first | trivial | rfl, by rw [Int.sub_self]; exact .start rfl⟩
  ·have hst := wayB_step h hc e
   obtain ⟨p1, p2, p3, p4⟩ := h.prev hc e
   have hk := f.kost_bd (c := c)
   cases i with
   | zero =>
    have e0 : (wayB f fr a c)[0] = c := by simp only [hst, List.getElem_cons_zero]
    rw [e0, List.drop_zero, Int.sub_self]; exact ⟨rfl, .start rfl⟩
   | succ i =>
    have hi' : i < (wayB f fr a (prevF f fr c)).length := by rw [hst] at hi; simpa using hi
    obtain ⟨k1, k2⟩ := ih _ (by omega) _ p3 rfl i hi'
    have e1 : (wayB f fr a c)[i + 1] = (wayB f fr a (prevF f fr c))[i] := by simp only [hst, List.getElem_cons_succ]
    rw [e1]
    refine ⟨by rw [← k1, hst, List.drop_succ_cons], ?_⟩
    have r : RchF f _ c (fr (prevF f fr c) - fr ((wayB f fr a (prevF f fr c))[i]) + f.kost c) := .step k2 (Fld.mem_adj.2 ⟨Fld.sides_symm p1, h.gr c hc⟩)
    rw [show fr c - fr ((wayB f fr a (prevF f fr c))[i]) = fr (prevF f fr c) - fr ((wayB f fr a (prevF f fr c))[i]) + f.kost c by omega]
    exact r
theorem way_part (he : findE f a b = 0) {n : Nat} (hn : n < (findP f a b).length) {x : Cel} (hx : (findP f a b).getD n default = x) : findE f a x = 0 ∧ findE f x b = 0 ∧ findP f a x = (findP f a b).take (n + 1) ∧ findK f a x + findK f x b = findK f a b := by
 obtain ⟨hf, ha, hb, h0, hk, hp⟩ := find_dat he
 have F := frF_frs hf ha h0
 have hl : (findP f a b).length = (wayB f (frF f a b) a b).length := by rw [hp, List.length_reverse]
 have hi : (wayB f (frF f a b) a b).length - 1 - n < (wayB f (frF f a b) a b).length := by omega
 obtain ⟨s1, s2⟩ := wayB_suffix F _ b h0 rfl _ hi
 have ex : (wayB f (frF f a b) a b)[(wayB f (frF f a b) a b).length - 1 - n] = x := by
  rw [getD_dd hn] at hx
  rw [← hx]
  simp only [hp, List.getElem_reverse]
 rw [ex] at s1 s2
 have hxm : x ∈ wayB f (frF f a b) a b := by rw [← ex]; exact List.getElem_mem hi
 obtain ⟨x1, x2, x3⟩ := wayB_in F _ b h0 rfl x hxm
 have hdx := frF_dst hf ha x1
 have e1 := frF_end hf ha hdx
 have hx0 : 0 ≤ frF f a x x := by rw [e1]; exact x1
 have hax := find_ok hf ha x3 hx0
 have r2 := frF_rch hf x3 s2
 have hxb := find_ok hf x3 hb r2.1
 refine ⟨hax, hxb, ?_, ?_⟩
 ·have hpx : findP f a x = (wayB f (frF f a x) a x).reverse := by unfold findP; rw [if_pos hax]
  rw [hpx, ← wayB_same hf ha h0 hx0 _ x x1 hx0 rfl, ← s1, hp, List.reverse_drop, hl.symm.trans hl]
  congr 1
  have : (wayB f (frF f a b) a b).reverse.length = (wayB f (frF f a b) a b).length := List.length_reverse
  omega
 ·have k1 : findK f a x = frF f a x x := by unfold findK; rw [if_pos hax]
  have k2 : findK f x b = frF f x b b := by unfold findK; rw [if_pos hxb]
  rw [k1, k2, hk, e1]
  have h3 := (frF_dst hf ha h0).2 _ (RchF.tr hdx.1 (frF_dst hf x3 r2.1).1)
  omega
end
end
section
open Go.RowKit
theorem step1_dat {f : Fld} {l : List Gox} {T : List Trp} {k : Nat} {c : Cel} (h : step1 f l T k = some c) :
  0 ≤ goK l (T.getD k default).id ∧ findE f (T.getD k default).spot (l.getD (goK l (T.getD k default).id).toNat default).to_ = 0 ∧ 2 ≤ (findP f (T.getD k default).spot (l.getD (goK l (T.getD k default).id).toNat default).to_).length ∧
  c = (findP f (T.getD k default).spot (l.getD (goK l (T.getD k default).id).toNat default).to_).getD 1 default ∧ occ T c ≤ 0 := by
 unfold step1 at h
 split at h
 ·exact nomatch h
 ·split at h
  ·exact nomatch h
  ·split at h
   ·exact nomatch h
   ·split at h
    ·exact nomatch h
    ·rename_i h1 h2 h3 h4
     injection h with h
     subst h
     exact ⟨by omega, by simpa using h2, by omega, rfl, by omega⟩
theorem wayB_head {f : Fld} {a : Cel} {fr : Cel → Int} (h : Frs f a fr) {c : Cel} (hc : 0 ≤ fr c) : ∃ r, wayB f fr a c = c :: r ∧ (r = [] ↔ c = a) := by
 by_cases e : c = a
 ·subst e; exact ⟨[], wayB_self h, by simp⟩
 ·obtain ⟨p1, p2, p3, p4⟩ := h.prev hc e
  refine ⟨_, wayB_step h hc e, ⟨λ hr => ?_, λ h => absurd h e⟩⟩
  by_cases e2 : prevF f fr c = a
  ·rw [e2, wayB_self h] at hr; exact nomatch hr
  ·rw [wayB_step h p3 e2] at hr; exact nomatch hr
theorem way_first {f : Fld} {a b x : Cel} (he : findE f a b = 0) (hn : 2 ≤ (findP f a b).length) (hx : (findP f a b).getD 1 default = x) :
  findE f a x = 0 ∧ findE f x b = 0 ∧ findK f a x + findK f x b = findK f a b ∧ a ∈ sidesC x ∧ f.ground x = true ∧ x ≠ a ∧ findP f a x = [a, x] := by
 obtain ⟨h1, h2, h3, h4⟩ := way_part he (n := 1) (by omega) hx
 obtain ⟨hf, ha, hb, h0, hk, hp⟩ := find_dat he
 obtain ⟨_, _, gx, hx0, _, hpx⟩ := find_dat h1
 have F := frF_frs hf ha h0
 have Fx := frF_frs hf ha hx0
 have hl : (findP f a x).length = 2 := by rw [h3, List.length_take]; omega
 rw [hpx, List.length_reverse] at hl
 have hxa : x ≠ a := by
  intro e
  obtain ⟨r, e1, e2⟩ := wayB_head Fx hx0
  rw [e1, e2.2 e] at hl
  simp at hl
 have hst := wayB_step Fx hx0 hxa
 obtain ⟨p1, p2, p3, p4⟩ := Fx.prev hx0 hxa
 obtain ⟨r, e1, e2⟩ := wayB_head Fx p3
 rw [hst, e1] at hl
 have hr : r = [] := List.eq_nil_of_length_eq_zero (by simpa using hl)
 have hpa := e2.1 hr
 refine ⟨h1, h2, h4, by rw [← hpa]; exact p1, gx, hxa, ?_⟩
 rw [hpx, hst, e1, hr, hpa]; rfl
theorem set_pw {T : List Trp} {k : Nat} {c : Cel} (hP : T.Pairwise Apart) (hk : k < T.length) (hc : occ T c ≤ 0) : (T.set k ((T.getD k default).to_ c)).Pairwise Apart := by
 have hno : ∀ t ∈ T, t.spot ≠ c := λ t ht e => by have := occ_pos.2 ⟨t, ht, e⟩; omega
 have hek : T.getD k default = T[k] := by rw [List.getD_eq_getElem?_getD, List.getElem?_eq_getElem hk]; rfl
 rw [List.pairwise_iff_getElem] at hP ⊢
 intro i j hi hj hij
 rw [List.length_set] at hi hj
 have h := hP i j hi hj hij
 rw [List.getElem_set, List.getElem_set]
 split <;> split
 ·omega
 ·rename_i e1 e2
  subst e1
  exact ⟨by have e9 := congrArg Trp.id hek; have h9 := h.1; show (T.getD k default).id < _; omega, λ e => hno _ (List.getElem_mem hj) e.symm⟩
 ·rename_i e1 e2
  subst e2
  exact ⟨by have e9 := congrArg Trp.id hek; have h9 := h.1; show _ < (T.getD k default).id; omega, hno _ (List.getElem_mem hi)⟩
 ·exact h
theorem stS_all {f : Fld} {l : List Gox} {T : List Trp} {Q : Trp → Prop} (hQ : ∀ t c, Q t → f.ground c = true → Q (t.to_ c)) (hP : T.Pairwise Apart) (hT : ∀ t ∈ T, Q t) : ∀ k, k ≤ T.length → (stS f l T k).1.Pairwise Apart ∧ ∀ t ∈ (stS f l T k).1, Q t
 | 0, _ => ⟨hP, hT⟩
 | k + 1, hk => by
  obtain ⟨ih1, ih2⟩ := stS_all (l := l) hQ hP hT k (by omega)
  have hl := (stS_len (f := f) (l := l) (T := T) k).1
  cases hs : step1 f l (stS f l T k).1 k with
  | none => rw [stS_none rfl hs]; exact ⟨ih1, ih2⟩
  | some c =>
   rw [stS_some rfl hs]
   obtain ⟨d1, d2, d3, d4, d5⟩ := step1_dat hs
   obtain ⟨_, _, _, _, g, _⟩ := way_first d2 d3 d4.symm
   refine ⟨set_pw ih1 (by omega) d5, λ t ht => ?_⟩
   rcases List.mem_or_eq_of_mem_set ht with ht | rfl
   ·exact ih2 t ht
   ·exact hQ _ _ (ih2 _ (mem_dd (by omega))) g
noncomputable def mvC (f : Fld) (l : List Gox) (T : List Trp) (i : Nat) : Option Cel := step1 f l (stS f l T i).1 i
theorem trp_set_self {T : List Trp} {k : Nat} {t : Trp} (h : k < T.length) : (T.set k t).getD k default = t := by rw [List.getD_eq_getElem?_getD, List.getElem?_set_self h]; rfl
theorem trp_set_ne {T : List Trp} {k i : Nat} {t : Trp} (h : k ≠ i) : (T.set k t).getD i default = T.getD i default := by rw [List.getD_eq_getElem?_getD, List.getElem?_set_ne h, List.getD_eq_getElem?_getD]
theorem stS_at {f : Fld} {l : List Gox} {T : List Trp} : ∀ k, k ≤ T.length → ∀ i, i < T.length → (stS f l T k).1.getD i default = if i < k then (match mvC f l T i with | some c => (T.getD i default).to_ c | none => T.getD i default) else T.getD i default
 | 0, _, i, hi => by rw [if_neg (by omega)]; rfl
 | k + 1, hk, i, hi => by
  have ih := stS_at (f := f) (l := l) (T := T) k (by omega)
  have hl := (stS_len (f := f) (l := l) (T := T) k).1
  have hkk := ih k (by omega)
  rw [if_neg (by omega)] at hkk
  cases hs : mvC f l T k with
  | none =>
   rw [stS_none rfl hs, ih i hi]
   by_cases e : i = k
   ·subst e; rw [if_neg (by omega), if_pos (by omega), hs]
   ·by_cases e2 : i < k
    ·rw [if_pos e2, if_pos (by omega)]
    ·rw [if_neg e2, if_neg (by omega)]
  | some c =>
   rw [stS_some rfl hs]
   by_cases e : i = k
   ·subst e; rw [trp_set_self (by omega), if_pos (by omega), hs, hkk]
   ·rw [trp_set_ne (λ h => e h.symm), ih i hi]
    by_cases e2 : i < k
    ·rw [if_pos e2, if_pos (by omega)]
    ·rw [if_neg e2, if_neg (by omega)]
theorem stS_M {f : Fld} {l : List Gox} {T : List Trp} : ∀ k, k ≤ T.length → (stS f l T k).2 = ((List.range k).filter λ i => (mvC f l T i).isSome).map λ i => (T.getD i default).id
 | 0, _ => rfl
 | k + 1, hk => by
  have ih := stS_M (f := f) (l := l) (T := T) k (by omega)
  have hkk := stS_at (f := f) (l := l) (T := T) k (by omega) k (by omega)
  rw [if_neg (by omega)] at hkk
  rw [List.range_succ, List.filter_append, List.map_append, List.filter_cons]
  cases hs : mvC f l T k with
  | none => rw [stS_none rfl hs, ih]; simp
  | some c => rw [stS_some rfl hs, ih, hkk]; simp
theorem march_same {W : Wd} {l : List Gox} (h : marchE W l = 0) : W.chk = 0 ∧ marchW W l = (W.stepped l).1 ∧ marchM W l = (W.stepped l).2 := by
 have hc : W.chk = 0 := by
  apply Classical.byContradiction
  intro hn
  rw [(march_bad (l := l) hn).1] at h
  exact hn h
 by_cases hl : (l.length : Int) ≤ 200
 ·have := march_ok (l := l) hc hl; exact ⟨hc, this.2⟩
 ·rw [(march_many (l := l) hc (by omega)).1] at h; exact nomatch h
theorem march_right {W : Wd} {l : List Gox} (h : marchE W l = 0) :
  Good (marchW W l) ∧ (marchW W l).troops.length = W.troops.length ∧ sortedI (marchM W l) = true ∧ marchW W l = { W with troops := (marchW W l).troops } ∧
  ∀ k, k < W.troops.length → ((marchM W l).any (λ y => (W.troops.getD k default).id == y) = false ∧ (marchW W l).troops.getD k default = W.troops.getD k default) ∨
   ∃ c : Cel, (marchM W l).any (λ y => (W.troops.getD k default).id == y) = true ∧ (marchW W l).troops.getD k default = (W.troops.getD k default).to_ c ∧ 0 ≤ goK l (W.troops.getD k default).id ∧
    findE W.field (W.troops.getD k default).spot (l.getD (goK l (W.troops.getD k default).id).toNat default).to_ = 0 ∧ findE W.field c (l.getD (goK l (W.troops.getD k default).id).toNat default).to_ = 0 ∧ findE W.field (W.troops.getD k default).spot c = 0 ∧
    findK W.field (W.troops.getD k default).spot (l.getD (goK l (W.troops.getD k default).id).toNat default).to_ = findK W.field c (l.getD (goK l (W.troops.getD k default).id).toNat default).to_ + findK W.field (W.troops.getD k default).spot c ∧
    (W.troops.getD k default).spot ∈ sidesC c := by
 obtain ⟨hc, eW, eM⟩ := march_same h
 have hG := Good.of_chk hc
 rw [eW, eM]
 have hall := stS_all (f := W.field) (l := l) (T := W.troops) (Q := λ t => 0 < t.id ∧ t.id < W.next ∧ TroopOk W.field W.bases.length t)
  (λ t c hq hg => ⟨hq.1, hq.2.1, ⟨hq.2.2.kind, hq.2.2.owner, hg, hq.2.2.life, hq.2.2.load⟩⟩) hG.pw (λ t ht => hG.each ht) W.troops.length (Nat.le_refl _)
 have hlen := stepped_len W l
 have hM := stS_M (f := W.field) (l := l) (T := W.troops) W.troops.length (Nat.le_refl _)
 have hpw := hG.pw
 refine ⟨Good.of_pw hG rfl rfl rfl rfl rfl hG.now (by rw [hlen]; exact hG.nt) hall.1 hall.2, hlen, ?_, rfl, λ k hk => ?_⟩
 ·show sortedI (stS W.field l W.troops W.troops.length).2 = true
  rw [hM]
  refine sorted_of ?_
  rw [List.pairwise_map]
  have hr : ((List.range W.troops.length).filter λ i => (mvC W.field l W.troops i).isSome).Pairwise (· < ·) := List.Pairwise.filter _ List.pairwise_lt_range
  refine List.Pairwise.imp_of_mem (fun {i j} hi hj hij => ?_) hr
  have hi := List.mem_range.1 (List.mem_filter.1 hi).1
  have hj := List.mem_range.1 (List.mem_filter.1 hj).1
  rw [getD_dd hi, getD_dd hj]
  exact ((List.pairwise_iff_getElem.1 hpw) i j hi hj hij).1
 ·have hat := stS_at (f := W.field) (l := l) (T := W.troops) W.troops.length (Nat.le_refl _) k hk
  rw [if_pos hk] at hat
  have hkk := stS_at (f := W.field) (l := l) (T := W.troops) k (by omega) k hk
  rw [if_neg (by omega)] at hkk
  have hany : ((W.stepped l).2).any (λ y => (W.troops.getD k default).id == y) = (mvC W.field l W.troops k).isSome := by
   show (stS W.field l W.troops W.troops.length).2.any _ = _
   rw [hM, Bool.eq_iff_iff, List.any_eq_true]
   constructor
   ·rintro ⟨y, hy, e⟩
    obtain ⟨i, hi, rfl⟩ := List.mem_map.1 hy
    obtain ⟨hi1, hi2⟩ := List.mem_filter.1 hi
    have hi1 := List.mem_range.1 hi1
    have e : (W.troops.getD k default).id = (W.troops.getD i default).id := by simpa using e
    have : i = k := by
     rw [getD_dd hk, getD_dd hi1] at e
     rcases Nat.lt_trichotomy i k with q | q | q
     ·have := ((List.pairwise_iff_getElem.1 hpw) i k hi1 hk q).1; omega
     ·exact q
     ·have := ((List.pairwise_iff_getElem.1 hpw) k i hk hi1 q).1; omega
    rw [← this]; exact hi2
   ·intro hs
    exact ⟨_, List.mem_map.2 ⟨k, List.mem_filter.2 ⟨List.mem_range.2 hk, hs⟩, rfl⟩, by simp⟩
  cases hs : mvC W.field l W.troops k with
  | none =>
   rw [hs] at hat hany
   exact .inl ⟨hany, hat⟩
  | some c =>
   rw [hs] at hat hany
   obtain ⟨d1, d2, d3, d4, d5⟩ := step1_dat hs
   rw [hkk] at d1 d2 d3 d4
   obtain ⟨f1, f2, f3, f4, f5, f6, f7⟩ := way_first d2 d3 d4.symm
   exact .inr ⟨c, hany, hat, d1, d2, f2, f1, by omega, f4⟩
end
section
open Go.RowKit
structure Odr where
 by_ : Int
 kind : Int
 who : Int
 spot : Cel
 what : Int
 deriving DecidableEq, Inhabited
namespace Odr
def cells (a : Odr) : List Value := [.int .i64 (a.by_), .int .i64 (a.kind), .int .i64 (a.who), .int .i64 (a.spot.x), .int .i64 (a.spot.y), .int .i64 (a.what)]
def ok (a : Odr) : Prop := (Lit.int .i64 a.by_).wf = true ∧ (Lit.int .i64 a.kind).wf = true ∧ (Lit.int .i64 a.who).wf = true ∧ (Lit.int .i64 a.spot.x).wf = true ∧ (Lit.int .i64 a.spot.y).wf = true ∧ (Lit.int .i64 a.what).wf = true
def raw (j : Nat) (u : Value) : Prop := match j with
 | 0 => ∃ n : Int, u = .int .i64 n
 | 1 => ∃ n : Int, u = .int .i64 n
 | 2 => ∃ n : Int, u = .int .i64 n
 | 3 => ∃ n : Int, u = .int .i64 n
 | 4 => ∃ n : Int, u = .int .i64 n
 | 5 => ∃ n : Int, u = .int .i64 n
 | _ => True
theorem cells_raw (a : Odr) : ∀ (j : Nat) u, a.cells[j]? = some u → raw j u := by
 intro j u hu
 match j, hu with
 | 0, hu => exact ⟨_, (Option.some.inj hu).symm⟩
 | 1, hu => exact ⟨_, (Option.some.inj hu).symm⟩
 | 2, hu => exact ⟨_, (Option.some.inj hu).symm⟩
 | 3, hu => exact ⟨_, (Option.some.inj hu).symm⟩
 | 4, hu => exact ⟨_, (Option.some.inj hu).symm⟩
 | 5, hu => exact ⟨_, (Option.some.inj hu).symm⟩
 | j + 6, hu => exact trivial
theorem cells_one (a : Odr) : ∀ u ∈ a.cells, u.oneCell' = true := by
 intro u hu
 unfold cells at hu
 simp only [List.mem_cons, List.not_mem_nil, or_false] at hu
 rcases hu with rfl | rfl | rfl | rfl | rfl | rfl <;> rfl
def rep : Rep Odr := Rep.flat 6 cells ok raw (λ _ => rfl) cells_one cells_raw
theorem plain : rep.Plain := Rep.flat_plain
def zero : Value := .agg #[.int .i64 0, .int .i64 0, .int .i64 0, .int .i64 0, .int .i64 0, .int .i64 0]
theorem zero_raw : ∀ (j : Nat) u, zero.cells[j]? = some u → rep.raw j u := by
 intro j u hu
 have hu : (#[(.int .i64 0 : Value), (.int .i64 0 : Value), (.int .i64 0 : Value), (.int .i64 0 : Value), (.int .i64 0 : Value), (.int .i64 0 : Value)] : Array Value)[j]? = some u := hu
 match j, hu with
 | 0, hu => exact ⟨_, (Option.some.inj hu).symm⟩
 | 1, hu => exact ⟨_, (Option.some.inj hu).symm⟩
 | 2, hu => exact ⟨_, (Option.some.inj hu).symm⟩
 | 3, hu => exact ⟨_, (Option.some.inj hu).symm⟩
 | 4, hu => exact ⟨_, (Option.some.inj hu).symm⟩
 | 5, hu => exact ⟨_, (Option.some.inj hu).symm⟩
 | j + 6, hu => cases hu
theorem info : (Try.prog.info? 72).map (λ i => (i.zero, i.size, i.bytes)) = some (some zero, 6, 48) := by kernel_rfl
theorem all_ok {by_ : Nat} {w : World} {A : Option Addr} {c : Nat} {l : List Odr} (h : rep.SHas by_ w A c l) : ∀ a ∈ l, a.ok := Rep.SHas.all_ (R := rep) (Q := ok) (fun {w cs a} (h : rep.has w cs a) => (show cs = a.cells ∧ a.ok from h).2) h
def sh : Sh := (.cons (.int .i64) (.cons (.int .i64) (.cons (.int .i64) (.cons (.cons (.int .i64) (.cons (.int .i64) .nil)) (.cons (.int .i64) .nil)))))
theorem opens (w : World) (cs : List Value) (h : sh.Ok w cs) : ∃ a, rep.has w cs a := by
 obtain ⟨_, _, rfl, _, _, ⟨x0, rfl, k0⟩, ⟨_, _, rfl, _, _, ⟨x1, rfl, k1⟩, ⟨_, _, rfl, _, _, ⟨x2, rfl, k2⟩, ⟨_, _, rfl, _, _, ⟨_, _, rfl, _, _, ⟨x3, rfl, k3⟩, ⟨_, _, rfl, _, _, ⟨x4, rfl, k4⟩, rfl⟩⟩, ⟨_, _, rfl, _, _, ⟨x5, rfl, k5⟩, rfl⟩⟩⟩⟩⟩ := h
 exact ⟨⟨x0, x1, x2, ⟨x3, x4⟩, x5⟩, rfl, k0, k1, k2, k3, k4, k5⟩
end Odr
end
end Go.Proofs.Ytccankldeogdlaa
