import Derived.Test.YtccankldeogdlaaGreatGra
import Derived.Test.YtccankldeogdlaaGreatTcL
import Derived.Test.YtccankldeogdlaaGreatGox
import Derived.Test.YtccankldeogdlaaGreatHitG
import Derived.Test.YtccankldeogdlaaGreatPtq
import Derived.Test.YtccankldeogdlaaGreatMarkM
set_option linter.unusedVariables false
set_option linter.unusedSimpArgs false
set_option maxRecDepth 100000
set_option maxHeartbeats 4000000
namespace Go.Proofs.YtccankldeogdlaaGreat
section
open Go.RowKit
theorem Tmk_el_S_int : ElT Tryz.prog repI 22 3 8 := ElT.mk_ (z := .int .i64 0) (k := 1) Tryz.underlying22 info_int rfl rfl (by decide) (λ j u h => raw0I j u h)
theorem Tmk_el_S_uint64 : ElT Tryz.prog repU 30 39 8 := ElT.mk_ (z := .int .u64 0) (k := 1) Tryz.underlying30 info_u64 rfl rfl (by decide) (λ j u h => raw0U j u h)
open Go.Proofs.YtccankldeogdlaaGreat.Bv
theorem leaf_any (l : List Int) (A : Option Addr) (c : Nat) (w : World) (hl : repI.SHas 8 w A c l) :
  Calls Tryz.prog 31 #[.slice A l.length c] w (λ e w' => e = .returned (.int .u64 (U (leafN l))) ∧ Ext w w') := by
 refine calls_W (n := 12) Tryz.func31 rfl rfl rfl ?_
 refine sg <| va rfl <| nK <| sg <| vm rfl <| ca eF168 rfl rfl ((pack_leaf l _ _ _ (hl.keep (Ext.rf w))).mono ?_)
 rintro e w_2 ⟨⟨k_1, rfl⟩, x_3⟩
 refine ⟨_, rfl, ?_⟩
 have := x_3.size
 have z_2 := eT (Ext.rf w) x_3
 refine vm rfl <| vL (ex rfl rfl) <| vL (ex rfl rfl) <| va rfl <| va rfl <| nK <| sg <| vm rfl <| ca eF169 rfl rfl ((leaf_text (packN l) (packN_len _) _).mono ?_)
 rintro e w_5 ⟨rfl, x_6⟩
 refine ⟨_, rfl, ?_⟩
 have := x_6.size
 have z_5 := eT z_2 x_6
 refine va rfl <| nK <| rt <| tR (.tmp rfl .nil) <| ?_
 exact ⟨rfl, z_5⟩
theorem mark_bad (a : Wd.At) (W : Wd) (w : World) (hW : Wd.Has w a W) (hc : W.chk ≠ 0) :
  Calls Tryz.prog 21 #[.agg ((Wd.cells a W).toArray)] w (λ e w' => e = .returned (.tuple #[.int .u64 (U (markN W)), .int .i64 W.chk]) ∧ Ext w w') := by
 have kc : (W.chk != 0) = true := by simpa using hc
 refine calls_W (n := 107) Tryz.func21 rfl rfl rfl ?_
 refine sg <| bx rfl rfl rfl rfl λ w_1 b_2 x_3 l_4 B_5 => ?_
 have := x_3.size
 have z_1 := eT (Ext.rf w) x_3
 have q_7 := B_5.lt
 refine va rfl <| va rfl <| nK <| sq <| sg <| vL (ld rfl (B_5.all eF61 eF62)) <| ca eF63 rfl rfl ((check_any a W _ (hW.keep z_1)).mono ?_)
 rintro e w_8 ⟨rfl, x_9⟩
 refine ⟨_, rfl, ?_⟩
 have := x_9.size
 have z_8 := eT z_1 x_9
 refine va rfl <| nK <| sg <| vm rfl <| vL (bne rfl rfl) <| nK <| cT (evb rfl kc) <| sg <| vm rfl <| va rfl <| va rfl <| nK <| rt <| tT <| tR (.tmp rfl (.tmp rfl .nil)) <| ?_
 exact ⟨by unfold markN; rw [if_neg hc]; rfl, z_8⟩
theorem mark_ok (a : Wd.At) (W : Wd) (w : World) (hW : Wd.Has w a W) (hc : W.chk = 0) :
  Calls Tryz.prog 21 #[.agg ((Wd.cells a W).toArray)] w (λ e w' => e = .returned (.tuple #[.int .u64 (U (markN W)), .int .i64 W.chk]) ∧ Ext w w') := by
 have kc : (W.chk != 0) = false := by simpa using hc
 have hG := Good.of_chk hc
 have g_nb := hG.nb
 have g_nt := hG.nt
 have g_sl := hG.sl
 have g_ml := hG.ml
 have g_16 := Fld.len_le hG.field
 obtain ⟨n1, n2, n3, n4⟩ := hW.nums
 have lB := hW.B.len_le
 have lM := hW.M.len_le
 have lT := hW.T.len_le
 refine calls_W (n := 107) Tryz.func21 rfl rfl rfl ?_
 refine sg <| bx rfl rfl rfl rfl λ w_1 b_2 x_3 l_4 B_5 => ?_
 have := x_3.size
 have z_1 := eT (Ext.rf w) x_3
 have q_7 := B_5.lt
 refine va rfl <| va rfl <| nK <| sq <| sg <| vL (ld rfl (B_5.all eF61 eF62)) <| ca eF63 rfl rfl ((check_any a W _ (hW.keep z_1)).mono ?_)
 rintro e w_8 ⟨rfl, x_9⟩
 refine ⟨_, rfl, ?_⟩
 have := x_9.size
 have z_8 := eT z_1 x_9
 refine va rfl <| nK <| sg <| vm rfl <| vL (bne rfl rfl) <| nK <| cF (evb rfl kc) <| sK <| sg <| vL (fa eF59 rfl) <| vL (fa eF22 rfl) <| ?_
 have B_5 := B_5.later x_9
 refine vL (ld rfl (B_5.one eF1 rfl)) <| vL (fa eF59 rfl) <| vL (fa eF170 rfl) <| vL (ld rfl (B_5.one eF1 rfl)) <| vL (fa eF115 rfl) <| vL (ld rfl (B_5.one eF1 rfl)) <| vL (fa eF156 rfl) <| vL (ld rfl (B_5.one eF1 rfl)) <| bs (e := 3) (cs := [.int .i64 1, .int .i64 W.field.wide, .int .i64 W.field.high, .int .i64 W.next, .int .i64 W.now]) rfl (λ _ => by kernel_rfl) rfl λ w_11 b_12 x_13 l_14 B_15 => ?_
 have := x_13.size
 have z_11 := eT z_8 x_13
 have q_17 := B_15.lt
 refine vL (fa eF59 rfl) <| vL (fa eF45 rfl) <| ?_
 have B_5 := B_5.later x_13
 refine vL (ld rfl (B_5.one eF36 rfl)) <| ?_
 have O_18 := Blk.ownN (R := repI) (by_ := 8) (B := w.heap.size) (k := [1, W.field.wide, W.field.high, W.next, W.now]) B_15 [[.int .i64 1], [.int .i64 W.field.wide], [.int .i64 W.field.high], [.int .i64 W.next], [.int .i64 W.now]] rfl (⟨⟨rfl, okI_iff.2 (by decide)⟩, ⟨⟨rfl, n1⟩, ⟨⟨rfl, n2⟩, ⟨⟨rfl, n3⟩, ⟨⟨rfl, n4⟩, trivial⟩⟩⟩⟩⟩) (by simp) (by simp) (by decide) (by omega)
 have u_19 := λ q hq => (O_18.lt q hq).2
 have lo_20 : ∀ q ∈ Rep.blkOf (some ⟨b_12, 0, none⟩), b_12 ≤ q := λ q hq => Nat.le_of_eq (List.mem_singleton.1 hq).symm
 refine ap Tmk_el_S_int Rep.flat_bare O_18 (hW.P.keep z_11) rfl rfl (by simp only [List.length_cons, List.length_nil]; omega) (by simp only [List.length_cons, List.length_nil]; omega) z_11.size rfl λ w_21 A_22 c_23 m_24 O_25 g_26 n_27 => ?_
 have := m_24.size
 have z_21 := Ext.mod z_11 m_24 (λ q hq => (O_18.lt q hq).1)
 have u_29 := λ q hq => (O_25.lt q hq).2
 have := m_24.size
 refine ca eF171 rfl rfl ((leaf_any ([1, W.field.wide, W.field.high, W.next, W.now] ++ W.field.places) _ _ _ O_25.has).mono ?_)
 rintro e w_31 ⟨rfl, x_32⟩
 refine ⟨_, rfl, ?_⟩
 have := x_32.size
 have z_31 := eT z_21 x_32
 refine bs (e := 39) (cs := [.int .u64 (U (leafN ([1, W.field.wide, W.field.high, W.next, W.now] ++ W.field.places)))]) rfl (λ _ => by kernel_rfl) rfl λ w_34 b_35 x_36 l_37 B_38 => ?_
 have := x_36.size
 have z_34 := eT z_31 x_36
 have q_40 := B_38.lt
 refine va rfl <| nK <| sq <| sg <| vL (fa eF83 rfl) <| ?_
 have d_41 : ∀ q ∈ Rep.blkOf (some ⟨b_12, 0, none⟩), q = b_2 → False := λ q hq hb => by (have := lo_20 q hq; omega)
 have B_5 := B_5.mod m_24 (λ hq => d_41 _ hq rfl)
 have B_5 := B_5.later (eT x_32 x_36)
 refine vL (ld rfl (B_5.one eF84 rfl)) <| vL (ln Tryz.underlying25 rfl) <| vm rfl <| nK <| bk <| ?_
 have OL0 := Blk.ownN (R := repU) (by_ := 8) (B := w.heap.size) (k := [mkF W]) B_38 [[.int .u64 (U (mkF W))]] rfl (⟨⟨rfl, trivial⟩, trivial⟩) (by simp) (by simp) (by decide) (by omega)
 have eL0 : ∀ q ∈ Rep.blkOf (some ⟨b_35, 0, none⟩), q = b_35 := λ q hq => List.mem_singleton.1 hq
 refine lp (λ mI EI wI => ∃ k1 : Nat, ∃ L1 : List (BitVec 64), ∃ AL1 : Option Addr, ∃ cL1 : Nat, EI = [(1, .pointer (some ⟨b_2, 0, none⟩)), (2, .int .u64 0), (3, .int .i64 0), (5, .slice AL1 L1.length cL1), (35, .slice a.B W.bases.length a.b), (36, .int .i64 (W.bases.length : Int)), (37, .int .i64 (k1 : Int))] ∧ mI = W.bases.length - k1 ∧ Ext w wI ∧ Blk wI b_2 (Wd.cells a W) 28 (0, 0) ∧ repU.SOwn 39 8 wI w.heap.size (Rep.blkOf AL1) AL1 cL1 L1 ∧ (k1 ≤ W.bases.length) ∧ (L1 = marksB W k1) ∧ (∀ q ∈ Rep.blkOf AL1, q = b_2 → False)) _ _ ⟨0, [mkF W], some ⟨b_35, 0, none⟩, 1, rfl, rfl, z_34, B_5, OL0, by omega, rfl, (λ q hq hb => by (have := eL0 q hq; omega))⟩ (.cons rfl (.cons rfl (.cons rfl (.cons rfl (.cons rfl (.cons rfl (.cons (loI rfl (by first | omega | rfl | (simp <;> omega))) .nil))))))) ?_
 rintro m_44 E_45 w_43 ⟨k1, L1, AL1, cL1, rfl, rfl, z_43, B_5, OLx1, hk1, hL1, d_42⟩
 have := z_43.size
 have q_47 := B_5.lt
 have u_48 := λ q hq => (OLx1.lt q hq).2
 refine sg <| vL (blt rfl rfl) <| nK <| sq <| ?_
 refine clt rfl (λ h_49 => ?_) (λ h_49 => ?_)
 ·obtain ⟨c, hc0⟩ : ∃ c, W.bases.getD k1 default = c := ⟨_, rfl⟩
  obtain ⟨sv, hs0⟩ : ∃ sv, W.stocks.getD k1 0 = sv := ⟨_, rfl⟩
  have ok1 : c.ok := Cel.all_ok hW.B c (by rw [← hc0]; exact mem_dd (by omega))
  have ok2 : okI sv := repI_ok hW.S sv (by rw [← hs0]; exact mem_dd (by omega))
  have hmb : mkB W k1 = leafN [2, (k1 : Int), c.x, c.y, sv] := by unfold mkB; rw [hc0, hs0]
  have hLn : L1.length = k1 + 1 := by rw [hL1, marksB_len]
  refine sK <| sq <| bk <| sg <| vm rfl <| vL (iA k1 Tryz.underlying25 eF4 rfl rfl ((hW.B.keep z_43).adr (zl k1 (by omega))) rfl (by omega)) <| vL (ld rfl (Rep.SHas.elt hcC ((hW.B.keep z_43).adh (zl k1 (by omega))) (show W.bases[k1]? = some c by rw [← hc0]; exact get_d (u := default) (by omega)) eF3 eF4)) <| al rfl eF41 rfl rfl λ w_50 b_51 x_52 l_53 B_54 => ?_
  have := x_52.size
  have z_50 := eT z_43 x_52
  have q_56 := B_54.lt
  refine va rfl <| st (new := [.int .i64 c.x, .int .i64 c.y]) rfl rfl B_54 rfl eF4 rfl rfl rfl λ w_57 m_58 B_54 => ?_
  have := m_58.size
  have z_57 := Ext.mod z_50 m_58 (ge1 (by omega))
  have := m_58.size
  refine nK <| ?_
  refine rd [(3, 0), (5, 0), (7, 0), (10, 0), (11, 2), (12, 0), (13, 2), (14, 3)] [0, 1, 2, 3, 4, 5, 6, 7, 8, 9, 10, 11, 12, 13, 14, 15] (by kernel_rfl) (by kernel_rfl) ?_
  refine fw1 rfl (λ _ => mv rfl) <| fw1 rfl (λ _ => mv rfl) <| fw1 rfl (λ _ => fa eF0 rfl) <| fq1 rfl (λ _ x => ld rfl ((B_54.later x).one eF1 rfl)) <| fw1 rfl (λ _ => fa eF2 rfl) <| fq1 rfl (λ _ x => ld rfl ((B_54.later x).one eF1 rfl)) <| fw1 rfl (λ _ => fa eF85 rfl) <| ?_
  have B_5 := B_5.later x_52
  have B_5 := B_5.mod m_58 (nm1 (by omega))
  refine fq1 rfl (λ _ x => ld rfl ((B_5.later x).one eF36 rfl)) <| fw1 rfl (λ _ => mv rfl) <| fw1 rfl (λ _ => iA k1 Tryz.underlying22 eF7 rfl rfl ((hW.S.keep z_57).adr (zl k1 (by omega))) rfl (by omega)) <| fq1 rfl (λ _ x => ld rfl (Rep.SHas.one' hcI ((hW.S.keep (eT z_57 x)).adh (zl k1 (by omega))) (show W.stocks[k1]? = some sv by rw [← hs0]; exact get_d (u := 0) (by omega)) rfl eF1)) <| fx rfl rfl rfl λ w_61 x_62 Q hK => bs (e := 3) (cs := [.int .i64 2, .int .i64 (k1 : Int), .int .i64 c.x, .int .i64 c.y, .int .i64 sv]) rfl (λ _ => by kernel_rfl) rfl λ w_63 b_64 x_65 l_66 B_67 => hK _ _ ⟨eT x_62 x_65, ?_⟩
  have := x_62.size
  have z_61 := eT z_57 x_62
  have := x_65.size
  have z_63 := eT z_61 x_65
  have q_70 := B_67.lt
  refine fc rfl rfl eF171 rfl (λ _ x => leaf_any ([2, (k1 : Int), c.x, c.y, sv]) _ _ _ ((Blk.hasN (R := repI) (by_ := 8) (k := [2, (k1 : Int), c.x, c.y, sv]) B_67 [[.int .i64 2], [.int .i64 (k1 : Int)], [.int .i64 c.x], [.int .i64 c.y], [.int .i64 sv]] rfl (⟨⟨rfl, okI_iff.2 (by decide)⟩, ⟨⟨rfl, okI_iff.2 (by omega)⟩, ⟨⟨rfl, ok1.1⟩, ⟨⟨rfl, ok1.2⟩, ⟨⟨rfl, ok2⟩, trivial⟩⟩⟩⟩⟩) (by simp) (by simp)).keep x)) rfl <| fx rfl rfl rfl λ w_71 x_72 Q hK => bs (e := 39) (cs := [.int .u64 (U (leafN ([2, (k1 : Int), c.x, c.y, sv])))]) rfl (λ _ => by kernel_rfl) rfl λ w_73 b_74 x_75 l_76 B_77 => hK _ _ ⟨eT x_72 x_75, ?_⟩
  have := x_72.size
  have z_71 := eT z_63 x_72
  have := x_75.size
  have z_73 := eT z_71 x_75
  have q_80 := B_77.lt
  have OLx1 := OLx1.later x_52
  have OLx1 := OLx1.mod m_58 (fk1 u_48 (by omega))
  have OLx1 := OLx1.later (eT x_62 (eT x_65 (eT x_72 x_75)))
  refine fb rfl rfl rfl λ w_81 x_82 Q hK => ap Tmk_el_S_uint64 Rep.flat_bare (OLx1.later x_82) ((Blk.has1 (R := repU) (by_ := 8) (q := (leafN ([2, (k1 : Int), c.x, c.y, sv]))) B_77 ⟨rfl, trivial⟩ (by decide)).keep x_82) rfl rfl (by simp only [List.length_cons, List.length_nil]; omega) (by simp only [List.length_cons, List.length_nil]; omega) (by have := x_82.size; omega) rfl λ w_83 A_84 c_85 m_86 O_87 g_88 n_89 => hK _ _ ?_
  have := x_82.size
  have z_81 := eT z_73 x_82
  have := m_86.size
  have z_83 := Ext.mod z_81 m_86 (λ q hq => Nat.le_trans (by omega) ((OLx1.later x_82).lt q hq).1)
  have u_92 := λ q hq => (O_87.lt q hq).2
  have := m_86.size
  refine fw1 rfl (λ _ => as_ rfl) <| fn λ w_94 x_95 => ?_
  have := x_95.size
  have z_94 := eT z_83 x_95
  refine nB <| nT <| rg <| vL (bad rfl rfl (inI (by omega))) <| vm rfl <| nl <| ?_
  have B_5 := B_5.later (eT x_62 (eT x_65 (eT x_72 (eT x_75 x_82))))
  have B_5 := B_5.mod m_86 (λ hq => d_42 _ hq rfl)
  have B_5 := B_5.later x_95
  have O_87 := O_87.later x_95
  exact nI _ _ ⟨k1 + 1, L1 ++ [(leafN ([2, (k1 : Int), c.x, c.y, sv]))], A_84, c_85, rfl, rfl, z_94, B_5, O_87, by omega, by rw [marksB_succ, hL1, hmb], (λ q hq hb => by (exact Or.elim (g_88 q hq) (λ k_97 => by (exact d_42 q k_97 hb)) (λ k_97 => by omega)))⟩ (by omega) (.cons rfl (.cons rfl (.cons rfl (.cons rfl (.cons rfl (.cons rfl (.cons (loI rfl (by first | omega | rfl | (simp <;> omega))) .nil)))))))
 ·refine xt <| xT <| xK <| xB <| nT <| sq <| sg <| vL (fa eF88 rfl) <| vL (ld rfl (B_5.one eF36 rfl)) <| vL (ln Tryz.underlying22 rfl) <| vm rfl <| nK <| bk <| ?_
  refine lp (λ mI EI wI => ∃ k2 : Nat, ∃ L2 : List (BitVec 64), ∃ AL2 : Option Addr, ∃ cL2 : Nat, EI = [(1, .pointer (some ⟨b_2, 0, none⟩)), (2, .int .u64 0), (3, .int .i64 0), (5, .slice AL2 L2.length cL2), (59, .slice a.M W.mines.length a.m), (60, .int .i64 (W.mines.length : Int)), (61, .int .i64 (k2 : Int))] ∧ mI = W.mines.length - k2 ∧ Ext w wI ∧ Blk wI b_2 (Wd.cells a W) 28 (0, 0) ∧ repU.SOwn 39 8 wI w.heap.size (Rep.blkOf AL2) AL2 cL2 L2 ∧ (k2 ≤ W.mines.length) ∧ (L2 = marksB W W.bases.length ++ mkM W k2) ∧ (∀ q ∈ Rep.blkOf AL2, q = b_2 → False)) _ _ ⟨0, L1, AL1, cL1, rfl, rfl, z_43, B_5, OLx1, by omega, by rw [mkM, List.append_nil, hL1, show k1 = W.bases.length by omega], (λ q hq hb => by (exact d_42 q hq hb))⟩ (.cons rfl (.cons rfl (.cons rfl (.cons rfl (.cons rfl (.cons rfl (.cons (loI rfl (by first | omega | rfl | (simp <;> omega))) .nil))))))) ?_
  rintro m_100 E_101 w_99 ⟨k2, L2, AL2, cL2, rfl, rfl, z_99, B_5, OLx2, hk2, hL2, d_98⟩
  have := z_99.size
  have q_103 := B_5.lt
  have u_104 := λ q hq => (OLx2.lt q hq).2
  refine sg <| vL (blt rfl rfl) <| nK <| sq <| ?_
  refine clt rfl (λ h_105 => ?_) (λ h_105 => ?_)
  ·obtain ⟨mn, hmn0⟩ : ∃ mn, W.mines.getD k2 0 = mn := ⟨_, rfl⟩
   have ok2 : okI mn := repI_ok hW.M mn (by rw [← hmn0]; exact mem_dd (by omega))
   have hLn : L2.length ≤ W.bases.length + 1 + k2 := by rw [hL2, List.length_append, marksB_len]; have := mkM_len W k2; omega
   refine sK <| sq <| bk <| sg <| vm rfl <| vL (iA k2 Tryz.underlying22 eF7 rfl rfl ((hW.M.keep z_99).adr (zl k2 (by omega))) rfl (by omega)) <| vL (ld rfl (Rep.SHas.one' hcI ((hW.M.keep z_99).adh (zl k2 (by omega))) (show W.mines[k2]? = some mn by rw [← hmn0]; exact get_d (u := 0) (by omega)) rfl eF1)) <| va rfl <| va rfl <| nK <| sg <| vm rfl <| vL (bne rfl rfl) <| nK <| ?_
   refine cne rfl (λ h_106 => ?_) (λ h_106 => ?_)
   ·have hm0 : mn ≠ 0 := by simpa using h_106
    refine rg <| vm rfl <| vm rfl <| vm rfl <| bs (e := 3) (cs := [.int .i64 3, .int .i64 (k2 : Int), .int .i64 mn]) rfl (λ _ => by kernel_rfl) rfl λ w_107 b_108 x_109 l_110 B_111 => ?_
    have := x_109.size
    have z_107 := eT z_99 x_109
    have q_113 := B_111.lt
    refine ca eF171 rfl rfl ((leaf_any ([3, (k2 : Int), mn]) _ _ _ (Blk.hasN (R := repI) (by_ := 8) (k := [3, (k2 : Int), mn]) B_111 [[.int .i64 3], [.int .i64 (k2 : Int)], [.int .i64 mn]] rfl (⟨⟨rfl, okI_iff.2 (by decide)⟩, ⟨⟨rfl, okI_iff.2 (by omega)⟩, ⟨⟨rfl, ok2⟩, trivial⟩⟩⟩) (by simp) (by simp))).mono ?_)
    rintro e w_114 ⟨rfl, x_115⟩
    refine ⟨_, rfl, ?_⟩
    have := x_115.size
    have z_114 := eT z_107 x_115
    refine bs (e := 39) (cs := [.int .u64 (U (leafN ([3, (k2 : Int), mn])))]) rfl (λ _ => by kernel_rfl) rfl λ w_117 b_118 x_119 l_120 B_121 => ?_
    have := x_119.size
    have z_117 := eT z_114 x_119
    have q_123 := B_121.lt
    have OLx2 := OLx2.later (eT x_109 (eT x_115 x_119))
    refine ap Tmk_el_S_uint64 Rep.flat_bare OLx2 (Blk.has1 (R := repU) (by_ := 8) (q := (leafN ([3, (k2 : Int), mn]))) B_121 ⟨rfl, trivial⟩ (by decide)) rfl rfl (by simp only [List.length_cons, List.length_nil]; omega) (by simp only [List.length_cons, List.length_nil]; omega) (by omega) rfl λ w_124 A_125 c_126 m_127 O_128 g_129 n_130 => ?_
    have := m_127.size
    have z_124 := Ext.mod z_117 m_127 (λ q hq => Nat.le_trans (by omega) (OLx2.lt q hq).1)
    have u_132 := λ q hq => (O_128.lt q hq).2
    have := m_127.size
    refine va rfl <| nl <| nB <| nT <| rg <| vL (bad rfl rfl (inI (by omega))) <| vm rfl <| nl <| ?_
    have B_5 := B_5.later (eT x_109 (eT x_115 x_119))
    have B_5 := B_5.mod m_127 (λ hq => d_98 _ hq rfl)
    exact nI _ _ ⟨k2 + 1, L2 ++ [(leafN ([3, (k2 : Int), mn]))], A_125, c_126, rfl, rfl, z_124, B_5, O_128, by omega, by rw [hL2, mkM, hmn0, if_neg hm0]; simp, (λ q hq hb => by (exact Or.elim (g_129 q hq) (λ k_134 => by (exact d_98 q k_134 hb)) (λ k_134 => by omega)))⟩ (by omega) (.cons rfl (.cons rfl (.cons rfl (.cons rfl (.cons rfl (.cons rfl (.cons (loI rfl (by first | omega | rfl | (simp <;> omega))) .nil)))))))
   ·have hm0 : mn = 0 := by simpa using h_106
    refine sk <| nB <| nT <| rg <| vL (bad rfl rfl (inI (by omega))) <| vm rfl <| nl <| ?_
    exact nI _ _ ⟨k2 + 1, L2, AL2, cL2, rfl, rfl, z_99, B_5, OLx2, by omega, by rw [hL2, mkM, hmn0, if_pos hm0]; simp, (λ q hq hb => by (exact d_98 q hq hb))⟩ (by omega) (.cons rfl (.cons rfl (.cons rfl (.cons rfl (.cons rfl (.cons rfl (.cons (loI rfl (by first | omega | rfl | (simp <;> omega))) .nil)))))))
  ·refine xt <| xT <| xK <| xB <| nT <| sq <| sg <| vL (fa eF64 rfl) <| vL (ld rfl (B_5.one eF65 rfl)) <| vL (ln Tryz.underlying26 rfl) <| vm rfl <| nK <| bk <| ?_
   refine lp (λ mI EI wI => ∃ k3 : Nat, ∃ L3 : List (BitVec 64), ∃ AL3 : Option Addr, ∃ cL3 : Nat, EI = [(2, .int .u64 0), (3, .int .i64 0), (5, .slice AL3 L3.length cL3), (77, .slice a.T W.troops.length a.t), (78, .int .i64 (W.troops.length : Int)), (79, .int .i64 (k3 : Int))] ∧ mI = W.troops.length - k3 ∧ Ext w wI ∧ repU.SOwn 39 8 wI w.heap.size (Rep.blkOf AL3) AL3 cL3 L3 ∧ (k3 ≤ W.troops.length) ∧ (L3 = marksB W W.bases.length ++ mkM W W.mines.length ++ (W.troops.take k3).map mkT)) _ _ ⟨0, L2, AL2, cL2, rfl, rfl, z_99, OLx2, by omega, by rw [hL2, show k2 = W.mines.length by omega]; simp⟩ (.cons rfl (.cons rfl (.cons rfl (.cons rfl (.cons rfl (.cons (loI rfl (by first | omega | rfl | (simp <;> omega))) .nil)))))) ?_
   rintro m_136 E_137 w_135 ⟨k3, L3, AL3, cL3, rfl, rfl, z_135, OLx3, hk3, hL3⟩
   have := z_135.size
   have u_139 := λ q hq => (OLx3.lt q hq).2
   refine sg <| vL (blt rfl rfl) <| nK <| sq <| ?_
   refine clt rfl (λ h_140 => ?_) (λ h_140 => ?_)
   ·obtain ⟨t, ht0⟩ : ∃ t, W.troops.getD k3 default = t := ⟨_, rfl⟩
    obtain ⟨o1, o2, o3, o4, o5, o6, o7⟩ : okI t.id ∧ okI t.owner ∧ okI t.kind ∧ okI t.spot.x ∧ okI t.spot.y ∧ okI t.life ∧ okI t.load := Trp.all_ok hW.T t (by rw [← ht0]; exact mem_dd (by omega))
    have hLn : L3.length ≤ W.bases.length + 1 + W.mines.length + k3 := by rw [hL3, List.length_append, List.length_append, marksB_len, List.length_map, List.length_take]; have := mkM_len W W.mines.length; omega
    refine sK <| sq <| bk <| sg <| vL (iA k3 Tryz.underlying26 eF66 rfl rfl ((hW.T.keep z_135).adr (zl k3 (by omega))) rfl (by omega)) <| vL (ld rfl (Rep.SHas.elt hcT ((hW.T.keep z_135).adh (zl k3 (by omega))) (show W.troops[k3]? = some t by rw [← ht0]; exact get_d (u := default) (by omega)) eF67 eF66)) <| al rfl eF68 rfl rfl λ w_141 b_142 x_143 l_144 B_145 => ?_
    have := x_143.size
    have z_141 := eT z_135 x_143
    have q_147 := B_145.lt
    refine st (new := [.int .i64 t.id, .int .i64 t.owner, .int .i64 t.kind, .int .i64 t.spot.x, .int .i64 t.spot.y, .int .i64 t.life, .int .i64 t.load]) rfl rfl B_145 rfl eF66 rfl rfl rfl λ w_148 m_149 B_145 => ?_
    have := m_149.size
    have z_148 := Ext.mod z_141 m_149 (ge1 (by omega))
    have := m_149.size
    refine nK <| rg <| vm rfl <| vL (fa eF69 rfl) <| vL (ld rfl (B_145.one eF1 rfl)) <| vL (fa eF57 rfl) <| vL (ld rfl (B_145.one eF1 rfl)) <| vL (fa eF52 rfl) <| vL (ld rfl (B_145.one eF1 rfl)) <| vL (fa eF56 rfl) <| vL (fa eF0 rfl) <| vL (ld rfl (B_145.one eF1 rfl)) <| vL (fa eF56 rfl) <| vL (fa eF2 rfl) <| vL (ld rfl (B_145.one eF1 rfl)) <| vL (fa eF93 rfl) <| vL (ld rfl (B_145.one eF1 rfl)) <| vL (fa eF109 rfl) <| vL (ld rfl (B_145.one eF1 rfl)) <| bs (e := 3) (cs := [.int .i64 4, .int .i64 t.id, .int .i64 t.owner, .int .i64 t.kind, .int .i64 t.spot.x, .int .i64 t.spot.y, .int .i64 t.life, .int .i64 t.load]) rfl (λ _ => by kernel_rfl) rfl λ w_152 b_153 x_154 l_155 B_156 => ?_
    have := x_154.size
    have z_152 := eT z_148 x_154
    have q_158 := B_156.lt
    refine ca eF171 rfl rfl ((leaf_any ([4, t.id, t.owner, t.kind, t.spot.x, t.spot.y, t.life, t.load]) _ _ _ (Blk.hasN (R := repI) (by_ := 8) (k := [4, t.id, t.owner, t.kind, t.spot.x, t.spot.y, t.life, t.load]) B_156 [[.int .i64 4], [.int .i64 t.id], [.int .i64 t.owner], [.int .i64 t.kind], [.int .i64 t.spot.x], [.int .i64 t.spot.y], [.int .i64 t.life], [.int .i64 t.load]] rfl (⟨⟨rfl, okI_iff.2 (by decide)⟩, ⟨⟨rfl, o1⟩, ⟨⟨rfl, o2⟩, ⟨⟨rfl, o3⟩, ⟨⟨rfl, o4⟩, ⟨⟨rfl, o5⟩, ⟨⟨rfl, o6⟩, ⟨⟨rfl, o7⟩, trivial⟩⟩⟩⟩⟩⟩⟩⟩) (by simp) (by simp))).mono ?_)
    rintro e w_159 ⟨rfl, x_160⟩
    refine ⟨_, rfl, ?_⟩
    have := x_160.size
    have z_159 := eT z_152 x_160
    refine bs (e := 39) (cs := [.int .u64 (U (leafN ([4, t.id, t.owner, t.kind, t.spot.x, t.spot.y, t.life, t.load])))]) rfl (λ _ => by kernel_rfl) rfl λ w_162 b_163 x_164 l_165 B_166 => ?_
    have := x_164.size
    have z_162 := eT z_159 x_164
    have q_168 := B_166.lt
    have OLx3 := OLx3.later x_143
    have OLx3 := OLx3.mod m_149 (fk1 u_139 (by omega))
    have OLx3 := OLx3.later (eT x_154 (eT x_160 x_164))
    refine ap Tmk_el_S_uint64 Rep.flat_bare OLx3 (Blk.has1 (R := repU) (by_ := 8) (q := (leafN ([4, t.id, t.owner, t.kind, t.spot.x, t.spot.y, t.life, t.load]))) B_166 ⟨rfl, trivial⟩ (by decide)) rfl rfl (by simp only [List.length_cons, List.length_nil]; omega) (by simp only [List.length_cons, List.length_nil]; omega) (by omega) rfl λ w_169 A_170 c_171 m_172 O_173 g_174 n_175 => ?_
    have := m_172.size
    have z_169 := Ext.mod z_162 m_172 (λ q hq => Nat.le_trans (by omega) (OLx3.lt q hq).1)
    have u_177 := λ q hq => (O_173.lt q hq).2
    have := m_172.size
    refine va rfl <| nl <| nB <| nT <| rg <| vL (bad rfl rfl (inI (by omega))) <| vm rfl <| nl <| ?_
    exact nI _ _ ⟨k3 + 1, L3 ++ [(leafN ([4, t.id, t.owner, t.kind, t.spot.x, t.spot.y, t.life, t.load]))], A_170, c_171, rfl, rfl, z_169, O_173, by omega, by rw [hL3, mkT_snoc (by omega) ht0, List.append_assoc]; rfl⟩ (by omega) (.cons rfl (.cons rfl (.cons rfl (.cons rfl (.cons rfl (.cons (loI rfl (by first | omega | rfl | (simp <;> omega))) .nil))))))
   ·refine xt <| xT <| xK <| xB <| nT <| sg <| vm rfl <| ca eF172 rfl rfl ((of_leaf L3 _ _ _ OLx3.has).mono ?_)
    rintro e w_179 ⟨rfl, x_180⟩
    refine ⟨_, rfl, ?_⟩
    have := x_180.size
    have z_179 := eT z_135 x_180
    refine va rfl <| va rfl <| nK <| rt <| tR (.tmp rfl (.tmp rfl .nil)) <| ?_
    exact ⟨by unfold markN; rw [if_pos hc, hc, hL3, show k3 = W.troops.length by omega, List.take_length]; rfl, z_179⟩
theorem mark_any (a : Wd.At) (W : Wd) (w : World) (hW : Wd.Has w a W) : Calls Tryz.prog 21 #[.agg (Wd.cells a W).toArray] w (λ e w' => e = .returned (.tuple #[.int .u64 (U (markN W)), .int .i64 W.chk]) ∧ Ext w w') := by
 by_cases hc : W.chk = 0
 ·exact mark_ok a W w hW hc
 ·exact mark_bad a W w hW hc
end
section
open Go.RowKit
theorem Tcr_el_S_uint64 : ElT Tryz.prog repU 30 39 8 := ElT.mk_ (z := .int .u64 0) (k := 1) Tryz.underlying30 info_u64 rfl rfl (by decide) (λ j u h => raw0U j u h)
open Go.Proofs.YtccankldeogdlaaGreat.Bv
theorem run_any (a : Wd.At) (W : Wd) (A : Option Addr) (c : Nat) (T : List SV) (L : List (List Odr)) (w : World) (hW : Wd.Has w a W) (hT : svRep.SHas 24 w A c T) (hL : Tells w T L) :
  Calls Tryz.prog 5 #[.agg ((Wd.cells a W).toArray), .slice A T.length c] w (λ e w' => ∃ e' a' V A' c' ms, e = .returned (.tuple #[.agg (Wd.cells a' V).toArray, .slice A' (ms : List (BitVec 64)).length c', .int .i64 e']) ∧ RRes W L e' V ms ∧ WOwn w' w.heap.size a' V ∧ repU.SOwn 39 8 w' w.heap.size (Rep.blkOf A') A' c' ms ∧ (∀ q, q ∈ Rep.blkOf A' → q ∈ WOwn.foot a' → False) ∧ Ext w w') := by
 refine calls_W (n := 64) Tryz.func5 rfl rfl rfl ?_
 refine sg <| bx rfl rfl rfl rfl λ w_1 b_2 x_3 l_4 B_5 => ?_
 have := x_3.size
 have z_1 := eT (Ext.rf w) x_3
 have q_7 := B_5.lt
 refine al rfl eF80 rfl rfl λ w_8 b_9 x_10 l_11 B_12 => ?_
 have := x_10.size
 have z_8 := eT z_1 x_10
 have q_14 := B_12.lt
 refine va rfl <| va rfl <| nK <| sq <| sg <| vm rfl <| vL (ln Tryz.underlying29 rfl) <| vL (bgt rfl rfl) <| nK <| ?_
 refine clt rfl (λ h_15 => ?_) (λ h_15 => ?_)
 ·refine sg <| vL (v := .agg #[.int .i64 0, .int .i64 0, .slice none 0 0, .slice none 0 0, .slice none 0 0, .slice none 0 0, .slice none 0 0, .int .i64 0, .int .i64 0]) (bd rfl (by kernel_rfl)) <| st (new := [.int .i64 0, .int .i64 0, .slice none 0 0, .slice none 0 0, .slice none 0 0, .slice none 0 0, .slice none 0 0, .int .i64 0, .int .i64 0]) rfl rfl B_12 rfl eF62 rfl rfl rfl λ w_16 m_17 B_12 => ?_
  have := m_17.size
  have z_16 := Ext.mod z_8 m_17 (ge1 (by omega))
  have := m_17.size
  refine va rfl <| va rfl <| nK <| rt <| tT <| tR (.cell rfl (B_12.all eF61 eF62) (.tmp rfl (.tmp rfl .nil))) <| ?_
  exact ⟨2, ⟨none, none, none, none, none, 0, 0, 0, 0, 0⟩, Wd.zero, none, 0, [], rfl, .inr ⟨by decide, .inl (by rw [← hL.1]; omega), rfl, rfl⟩, WOwn.zero _ _, Rep.SOwn.nil _, λ q hq => by simp [Rep.blkOf] at hq, z_16⟩
 ·have hT200 : L.length ≤ 200 := by rw [← hL.1]; omega
  refine sK <| sg <| ?_
  have B_5 := B_5.later x_10
  refine vL (ld rfl (B_5.all eF61 eF62)) <| ca eF157 rfl rfl ((struck_any ([] : List Blw) _ _ a W _ (hW.keep z_8) (Rep.SHas.nil _)).mono ?_)
  rintro e w_25 ⟨a20, A20, c20, rfl, HO20, OG20, hd20, x_26⟩
  refine ⟨_, rfl, ?_⟩
  have := x_26.size
  have z_25 := eT z_8 x_26
  have u_21 := λ q hq => (HO20.lt q hq).2
  have lo_22 := λ q hq => (HO20.lt q hq).1
  have u_23 := λ q hq => (OG20.lt q hq).2
  have lo_24 := λ q hq => (OG20.lt q hq).1
  have dd20 : ∀ q ∈ Rep.blkOf A20, q ∈ WOwn.foot a20 → False := hd20
  have dw20 : ∀ q ∈ WOwn.foot a20, q ∈ Rep.blkOf A20 → False := λ q h1 h2 => hd20 q h2 h1
  refine vm rfl <| vL (ex rfl rfl) <| vL (ex rfl rfl) <| vL (ex rfl rfl) <| ?_
  have B_5 := B_5.later x_26
  refine st rfl rfl B_5 rfl eF62 rfl rfl rfl λ w_28 m_29 B_5 => ?_
  have := m_29.size
  have z_28 := Ext.mod z_25 m_29 (ge1 (by omega))
  have := m_29.size
  refine va rfl <| va rfl <| nK <| sq <| sg <| vm rfl <| vL (bne rfl rfl) <| nK <| ?_
  refine cne rfl (λ h_32 => ?_) (λ h_32 => ?_)
  ·have hbE : W.chk ≠ 0 := λ h_ => h_32 (blowE_mk h_ (by simp))
   refine sg <| vL (v := .agg #[.int .i64 0, .int .i64 0, .slice none 0 0, .slice none 0 0, .slice none 0 0, .slice none 0 0, .slice none 0 0, .int .i64 0, .int .i64 0]) (bd rfl (by kernel_rfl)) <| vm rfl <| ?_
   have B_12 := B_12.later x_26
   have B_12 := B_12.mod m_29 (nm1 (by omega))
   refine st (new := [.int .i64 0, .int .i64 0, .slice none 0 0, .slice none 0 0, .slice none 0 0, .slice none 0 0, .slice none 0 0, .int .i64 0, .int .i64 0]) rfl rfl B_12 rfl eF62 rfl rfl rfl λ w_33 m_34 B_12 => ?_
   have := m_34.size
   have z_33 := Ext.mod z_28 m_34 (ge1 (by omega))
   have := m_34.size
   refine va rfl <| va rfl <| nK <| rt <| tT <| tR (.cell rfl (B_12.all eF61 eF62) (.tmp rfl (.tmp rfl .nil))) <| ?_
   exact ⟨blowE W ([] : List Blw), ⟨none, none, none, none, none, 0, 0, 0, 0, 0⟩, Wd.zero, none, 0, [], rfl, .inr ⟨h_32, .inr (.inl hbE), rfl, rfl⟩, WOwn.zero _ _, Rep.SOwn.nil _, λ q hq => by simp [Rep.blkOf] at hq, z_33⟩
  ·have hc0 : W.chk = 0 := (blowE_ok (by first | exact h_32 | simpa using h_32)).1
   have hsn := struck_nil hc0
   refine sK <| sg <| vL (ld rfl (B_5.all eF61 eF62)) <| ?_
   have HO20 := HO20.mod m_29 (fk2 lo_22 (by omega))
   refine ca eF173 rfl rfl ((mark_any a20 (struckW W ([] : List Blw)) _ HO20.has).mono ?_)
   rintro e w_37 ⟨rfl, x_38⟩
   refine ⟨_, rfl, ?_⟩
   have := x_38.size
   have z_37 := eT z_28 x_38
   refine vm rfl <| vL (ex rfl rfl) <| vL (ex rfl rfl) <| va rfl <| va rfl <| nK <| sg <| vm rfl <| bs (e := 39) (cs := [.int .u64 (U (markN (struckW W ([] : List Blw))))]) rfl (λ _ => by kernel_rfl) rfl λ w_40 b_41 x_42 l_43 B_44 => ?_
   have := x_42.size
   have z_40 := eT z_37 x_42
   have q_46 := B_44.lt
   refine va rfl <| nK <| sq <| sg <| vm rfl <| vL (ln Tryz.underlying29 rfl) <| vm rfl <| nK <| bk <| ?_
   have OL0 := Blk.ownN (R := repU) (by_ := 8) (B := w.heap.size) (k := [markN (struckW W ([] : List Blw))]) B_44 [[.int .u64 (U (markN (struckW W ([] : List Blw))))]] rfl (⟨⟨rfl, trivial⟩, trivial⟩) (by simp) (by simp) (by decide) (by omega)
   have eL0 : ∀ q ∈ Rep.blkOf (some ⟨b_41, 0, none⟩), q = b_41 := λ q hq => List.mem_singleton.1 hq
   have B_5 := B_5.later (eT x_38 x_42)
   have HO20 := HO20.later (eT x_38 x_42)
   have B_12 := B_12.later x_26
   have B_12 := B_12.mod m_29 (nm1 (by omega))
   have B_12 := B_12.later (eT x_38 x_42)
   refine lp (λ mI EI wI => ∃ k : Nat, ∃ Ms : List (BitVec 64), ∃ AL : Option Addr, ∃ cL : Nat, ∃ ax : Wd.At, ∃ Wx : Wd, EI = [(2, .pointer (some ⟨b_2, 0, none⟩)), (4, .pointer (some ⟨b_9, 0, none⟩)), (11, .slice AL Ms.length cL), (35, .slice A T.length c), (36, .int .i64 (T.length : Int)), (37, .int .i64 (k : Int))] ∧ mI = T.length - k ∧ Ext w wI ∧ Blk wI b_9 [.int .i64 0, .int .i64 0, .slice none 0 0, .slice none 0 0, .slice none 0 0, .slice none 0 0, .slice none 0 0, .int .i64 0, .int .i64 0] 28 (0, 0) ∧ repU.SOwn 39 8 wI w.heap.size (Rep.blkOf AL) AL cL Ms ∧ Blk wI b_2 (Wd.cells ax Wx) 28 (0, 0) ∧ WOwn wI w.heap.size ax Wx ∧ (k ≤ T.length) ∧ (runE W (L.take k) = 0) ∧ (Wx = runW W (L.take k)) ∧ (Ms = runX W (L.take k)) ∧ (∀ q ∈ WOwn.foot ax, q = b_2 → False) ∧ (∀ q ∈ WOwn.foot ax, q = b_9 → False) ∧ (∀ q ∈ Rep.blkOf AL, q = b_9 → False) ∧ (∀ q ∈ Rep.blkOf AL, q = b_2 → False) ∧ (∀ q ∈ Rep.blkOf AL, q ∈ WOwn.foot ax → False)) _ _ ⟨0, [markN (struckW W ([] : List Blw))], some ⟨b_41, 0, none⟩, 1, a20, struckW W ([] : List Blw), rfl, rfl, z_40, B_12, OL0, B_5, (HO20.down (by omega)), by omega, rfl, hsn.1, (by rw [hsn.1]; rfl), (λ q hq hb => by exfalso; (have := lo_22 q hq; omega)), (λ q hq hb => by exfalso; (have := lo_22 q hq; omega)), (λ q hq hb => by (have := eL0 q hq; omega)), (λ q hq hb => by (have := eL0 q hq; omega)), (λ q hq hb => by (have := eL0 q hq; (have := u_21 q hb; omega)))⟩ (.cons rfl (.cons rfl (.cons rfl (.cons rfl (.cons rfl (.cons (loI rfl (by first | omega | rfl | (simp <;> omega))) .nil)))))) ?_
   rintro m_51 E_52 w_50 ⟨k, Ms, AL, cL, ax, Wx, rfl, rfl, z_50, B_12, OLx, HB2, HWx, hk, hE, hWx, hMs, dW2, dW4, d_47, d_48, d_49⟩
   have := z_50.size
   have q_54 := B_12.lt
   have u_55 := λ q hq => (OLx.lt q hq).2
   have q_56 := HB2.lt
   have u_57 := λ q hq => (HWx.lt q hq).2
   have hMl : Ms.length ≤ k + 1 := by rw [hMs, runX_len, List.length_take]; omega
   refine sg <| vL (blt rfl rfl) <| nK <| sq <| ?_
   refine clt rfl (λ h_58 => ?_) (λ h_58 => ?_)
   ·obtain ⟨Ax, cx, lx, hTx, hLx, hx⟩ := hL.at_ (k := k) (by omega)
    refine sK <| sq <| bk <| sg <| vL (iA k Tryz.underlying29 eF174 rfl rfl ((hT.keep z_50).adr (zl k (by omega))) rfl (by omega)) <| vL (v := .slice Ax lx.length cx) (ld rfl (Rep.SHas.one' hcV ((hT.keep z_50).adh (zl k (by omega))) hTx rfl eF175)) <| va rfl <| nK <| sq <| sg <| vL (ld rfl (HB2.all eF61 eF62)) <| vm rfl <| ca eF165 rfl rfl ((turn_any ax Wx _ _ lx _ HWx.has (hx.keep z_50)).mono ?_)
    rintro e w_68 ⟨a59, A590, c590, A591, c591, A592, c592, rfl, HO59, OR590, OR591, OR592, hd59, x_69⟩
    refine ⟨_, rfl, ?_⟩
    have := x_69.size
    have z_68 := eT z_50 x_69
    have u_60 := λ q hq => (HO59.lt q hq).2
    have lo_61 := λ q hq => (HO59.lt q hq).1
    have u_62 := λ q hq => (OR590.lt q hq).2
    have lo_63 := λ q hq => (OR590.lt q hq).1
    have u_64 := λ q hq => (OR591.lt q hq).2
    have lo_65 := λ q hq => (OR591.lt q hq).1
    have u_66 := λ q hq => (OR592.lt q hq).2
    have lo_67 := λ q hq => (OR592.lt q hq).1
    have dd590 : ∀ q ∈ Rep.blkOf A590, q ∈ WOwn.foot a59 → False := λ q hq => hd59 q (.inl hq)
    have dw590 : ∀ q ∈ WOwn.foot a59, q ∈ Rep.blkOf A590 → False := λ q h1 h2 => dd590 q h2 h1
    have dd591 : ∀ q ∈ Rep.blkOf A591, q ∈ WOwn.foot a59 → False := λ q hq => hd59 q (.inr (.inl hq))
    have dw591 : ∀ q ∈ WOwn.foot a59, q ∈ Rep.blkOf A591 → False := λ q h1 h2 => dd591 q h2 h1
    have dd592 : ∀ q ∈ Rep.blkOf A592, q ∈ WOwn.foot a59 → False := λ q hq => hd59 q (.inr (.inr hq))
    have dw592 : ∀ q ∈ WOwn.foot a59, q ∈ Rep.blkOf A592 → False := λ q h1 h2 => dd592 q h2 h1
    refine vm rfl <| vL (ex rfl rfl) <| vL (ex rfl rfl) <| vL (ex rfl rfl) <| ?_
    have HB2 := HB2.later x_69
    refine st rfl rfl HB2 rfl eF62 rfl rfl rfl λ w_71 m_72 HB2 => ?_
    have := m_72.size
    have z_71 := Ext.mod z_68 m_72 (ge1 (by omega))
    have := m_72.size
    refine va rfl <| nK <| sg <| vm rfl <| vL (bne rfl rfl) <| nK <| ?_
    refine cne rfl (λ h_75 => ?_) (λ h_75 => ?_)
    ·refine sg <| vL (v := .agg #[.int .i64 0, .int .i64 0, .slice none 0 0, .slice none 0 0, .slice none 0 0, .slice none 0 0, .slice none 0 0, .int .i64 0, .int .i64 0]) (bd rfl (by kernel_rfl)) <| vm rfl <| ?_
     have B_12 := B_12.later x_69
     have B_12 := B_12.mod m_72 (nm1 (by omega))
     refine st (new := [.int .i64 0, .int .i64 0, .slice none 0 0, .slice none 0 0, .slice none 0 0, .slice none 0 0, .slice none 0 0, .int .i64 0, .int .i64 0]) rfl rfl B_12 rfl eF62 rfl rfl rfl λ w_76 m_77 B_12 => ?_
     have := m_77.size
     have z_76 := Ext.mod z_71 m_77 (ge1 (by omega))
     have := m_77.size
     refine va rfl <| va rfl <| nK <| rt <| tT <| tB <| tT <| tK <| tB <| tT <| tR (.cell rfl (B_12.all eF61 eF62) (.tmp rfl (.tmp rfl .nil))) <| ?_
     exact ⟨turnE Wx lx, ⟨none, none, none, none, none, 0, 0, 0, 0, 0⟩, Wd.zero, none, 0, [], rfl, .inr ⟨h_75, .inr (.inr (run_bad (k := k + 1) (by rw [run_step hE hLx, ← hWx]; exact h_75))), rfl, rfl⟩, WOwn.zero _ _, Rep.SOwn.nil _, λ q hq => by simp [Rep.blkOf] at hq, z_76⟩
    ·have hE2 : runE W (L.take (k + 1)) = 0 := by rw [run_step hE hLx, ← hWx]; first | exact h_75 | simpa using h_75
     refine sK <| sg <| vL (ld rfl (HB2.all eF61 eF62)) <| ?_
     have HO59 := HO59.mod m_72 (fk2 lo_61 (by omega))
     refine ca eF173 rfl rfl ((mark_any a59 (turnW Wx lx) _ HO59.has).mono ?_)
     rintro e w_80 ⟨rfl, x_81⟩
     refine ⟨_, rfl, ?_⟩
     have := x_81.size
     have z_80 := eT z_71 x_81
     refine vm rfl <| vL (ex rfl rfl) <| vL (ex rfl rfl) <| va rfl <| nK <| rg <| vm rfl <| vm rfl <| bs (e := 39) (cs := [.int .u64 (U (markN (turnW Wx lx)))]) rfl (λ _ => by kernel_rfl) rfl λ w_83 b_84 x_85 l_86 B_87 => ?_
     have := x_85.size
     have z_83 := eT z_80 x_85
     have q_89 := B_87.lt
     have OLx := OLx.later x_69
     have OLx := OLx.mod m_72 (λ q hq h => by have hb := List.mem_singleton.1 h; exfalso; (exact d_48 q hq hb))
     have OLx := OLx.later (eT x_81 x_85)
     refine ap Tcr_el_S_uint64 Rep.flat_bare OLx (Blk.has1 (R := repU) (by_ := 8) (q := (markN (turnW Wx lx))) B_87 ⟨rfl, trivial⟩ (by decide)) rfl rfl (by simp only [List.length_cons, List.length_nil]; omega) (by simp only [List.length_cons, List.length_nil]; omega) (by omega) rfl λ w_90 A_91 c_92 m_93 O_94 g_95 n_96 => ?_
     have := m_93.size
     have z_90 := Ext.mod z_83 m_93 (λ q hq => Nat.le_trans (by omega) (OLx.lt q hq).1)
     have u_98 := λ q hq => (O_94.lt q hq).2
     have := m_93.size
     refine va rfl <| nl <| nB <| nT <| rg <| vL (bad rfl rfl (inI (by omega))) <| vm rfl <| nl <| ?_
     have B_12 := B_12.later x_69
     have B_12 := B_12.mod m_72 (nm1 (by omega))
     have B_12 := B_12.later (eT x_81 x_85)
     have B_12 := B_12.mod m_93 (λ hq => d_47 _ hq rfl)
     have HB2 := HB2.later (eT x_81 x_85)
     have HB2 := HB2.mod m_93 (λ hq => d_48 _ hq rfl)
     have HWx := HWx.later x_69
     have HWx := HWx.mod m_72 (λ q hq h => by have hb := List.mem_singleton.1 h; exfalso; (exact dW2 q hq hb))
     have HWx := HWx.later (eT x_81 x_85)
     have HWx := HWx.mod m_93 (λ q hq h => by exfalso; (exact d_49 q h hq))
     have HO59 := HO59.later (eT x_81 x_85)
     have HO59 := HO59.mod m_93 (λ q hq h => by exfalso; (have := lo_61 q hq; (have := u_55 q h; omega)))
     exact nI _ _ ⟨k + 1, Ms ++ [(markN (turnW Wx lx))], A_91, c_92, a59, turnW Wx lx, rfl, rfl, z_90, B_12, O_94, HB2, (HO59.down (by omega)), by omega, hE2, by rw [take_snoc_ hLx, runW_app, hWx]; rfl, by rw [hMs, take_snoc_ hLx, runX_snoc, hWx], (λ q hq hb => by exfalso; (have := lo_61 q hq; omega)), (λ q hq hb => by exfalso; (have := lo_61 q hq; omega)), (λ q hq hb => by (exact Or.elim (g_95 q hq) (λ k_100 => by (exact d_47 q k_100 hb)) (λ k_100 => by omega))), (λ q hq hb => by (exact Or.elim (g_95 q hq) (λ k_101 => by (exact d_48 q k_101 hb)) (λ k_101 => by omega))), (λ q hq hb => by (exact Or.elim (g_95 q hq) (λ k_102 => by (have := lo_61 q hb; (have := u_55 q k_102; omega))) (λ k_102 => by (have := u_60 q hb; omega))))⟩ (by omega) (.cons rfl (.cons rfl (.cons rfl (.cons rfl (.cons rfl (.cons (loI rfl (by first | omega | rfl | (simp <;> omega))) .nil))))))
   ·have ek : k = L.length := by rw [← hL.1]; omega
    refine xt <| xT <| xK <| xB <| nT <| sg <| vL (ld rfl (HB2.all eF61 eF62)) <| vm rfl <| st rfl rfl B_12 rfl eF62 rfl rfl rfl λ w_103 m_104 B_12 => ?_
    have := m_104.size
    have z_103 := Ext.mod z_50 m_104 (ge1 (by omega))
    have := m_104.size
    refine va rfl <| va rfl <| nK <| rt <| tR (.cell rfl (B_12.all eF61 eF62) (.tmp rfl (.tmp rfl .nil))) <| ?_
    have OLx := OLx.mod m_104 (λ q hq h => by have hb := List.mem_singleton.1 h; exfalso; (exact d_47 q hq hb))
    have HWx := HWx.mod m_104 (λ q hq h => by have hb := List.mem_singleton.1 h; exfalso; (exact dW4 q hq hb))
    rw [ek, List.take_length] at hE hWx hMs
    exact ⟨0, ax, Wx, AL, cL, Ms, rfl, .inl ⟨rfl, hT200, hc0, hE, hWx, hMs⟩, HWx.down (by omega), OLx, λ q hq hf => by exfalso; (exact d_49 q hq hf), z_103⟩
end
section
open Go.RowKit
theorem spoilWorld_any (a : Wd.At) (W : Wd) (Z : Nat) (w : World) (hW : WOwn w Z a W) :
  Calls Tryz.prog 19 #[.agg ((Wd.cells a W).toArray)] w (λ e w' => e = .returned (.tuple #[]) ∧ Mod (WOwn.foot a) w w') := by
 have hd0 := hW.pairs
 have RP : Raw Z 1 0 w a.P a.p := Raw.of (R := repI) hW.P rfl (λ u h => h)
 have uP := λ q hq => (RP.lt q hq).2
 have RS : Raw Z 1 0 w a.S a.s := Raw.of (R := repI) hW.S rfl (λ u h => h)
 have uS := λ q hq => (RS.lt q hq).2
 have dSP : ∀ q ∈ Rep.blkOf a.S, q ∈ Rep.blkOf a.P → False := λ q h1 h2 => hd0.PS q h2 h1
 have RM : Raw Z 1 0 w a.M a.m := Raw.of (R := repI) hW.M rfl (λ u h => h)
 have uM := λ q hq => (RM.lt q hq).2
 have dMP : ∀ q ∈ Rep.blkOf a.M, q ∈ Rep.blkOf a.P → False := λ q h1 h2 => hd0.PM q h2 h1
 have dMS : ∀ q ∈ Rep.blkOf a.M, q ∈ Rep.blkOf a.S → False := λ q h1 h2 => hd0.SM q h2 h1
 have RB : Raw Z 2 0 w a.B a.b := Raw.of (R := Cel.rep) hW.B rfl (λ u h => h)
 have uB := λ q hq => (RB.lt q hq).2
 have dBP : ∀ q ∈ Rep.blkOf a.B, q ∈ Rep.blkOf a.P → False := λ q h1 h2 => hd0.PB q h2 h1
 have dBS : ∀ q ∈ Rep.blkOf a.B, q ∈ Rep.blkOf a.S → False := λ q h1 h2 => hd0.SB q h2 h1
 have dBM : ∀ q ∈ Rep.blkOf a.B, q ∈ Rep.blkOf a.M → False := λ q h1 h2 => hd0.MB q h2 h1
 have RT : Raw Z 7 5 w a.T a.t := Raw.of (R := Trp.rep) hW.T rfl (λ u h => h)
 have uT := λ q hq => (RT.lt q hq).2
 have dTP : ∀ q ∈ Rep.blkOf a.T, q ∈ Rep.blkOf a.P → False := λ q h1 h2 => hd0.PT q h2 h1
 have dTS : ∀ q ∈ Rep.blkOf a.T, q ∈ Rep.blkOf a.S → False := λ q h1 h2 => hd0.ST q h2 h1
 have dTM : ∀ q ∈ Rep.blkOf a.T, q ∈ Rep.blkOf a.M → False := λ q h1 h2 => hd0.MT q h2 h1
 have dTB : ∀ q ∈ Rep.blkOf a.T, q ∈ Rep.blkOf a.B → False := λ q h1 h2 => hd0.BT q h2 h1
 refine calls_W (n := 83) Tryz.func19 rfl rfl rfl ?_
 refine sg <| bx rfl rfl rfl rfl λ w_1 b_2 x_3 l_4 B_5 => ?_
 have := x_3.size
 have z_1 := (Mod.rf (WOwn.foot a) w).trans (Mod.of_ext x_3)
 have q_7 := B_5.lt
 refine nK <| sq <| sg <| vL (fa eF59 rfl) <| vL (fa eF45 rfl) <| vL (ld rfl (B_5.one eF36 rfl)) <| vL (fa eF85 rfl) <| vL (ld rfl (B_5.one eF36 rfl)) <| vL (fa eF88 rfl) <| vL (ld rfl (B_5.one eF36 rfl)) <| vL (v := .agg #[.slice a.P W.field.places.length a.p, .slice a.S W.stocks.length a.s, .slice a.M W.mines.length a.m]) (bd rfl (by kernel_rfl)) <| vm rfl <| nK <| bk <| ?_
 have eRP : ∀ q ∈ Rep.blkOf a.P, q = b_2 → False := λ q hq e => by have := uP q hq; omega
 have eRS : ∀ q ∈ Rep.blkOf a.S, q = b_2 → False := λ q hq e => by have := uS q hq; omega
 have eRM : ∀ q ∈ Rep.blkOf a.M, q = b_2 → False := λ q hq e => by have := uM q hq; omega
 have eRB : ∀ q ∈ Rep.blkOf a.B, q = b_2 → False := λ q hq e => by have := uB q hq; omega
 have eRT : ∀ q ∈ Rep.blkOf a.T, q = b_2 → False := λ q hq e => by have := uT q hq; omega
 refine lu 4 <| lr <| sg <| vL (blt rfl rfl) <| nK <| sq <| cT rfl <| sK <| sq <| bk <| sg <| vL (v := .slice a.P W.field.places.length a.p) (ixk rfl rfl (by kernel_rfl)) <| va rfl <| nK <| sg <| vm rfl <| vm rfl <| vL (cp Tryz.underlying22 rfl) <| ?_
 refine vL (sx Tryz.underlying22 eF7 rfl rfl) <| va rfl <| nK <| sg <| vm rfl <| vL (ln Tryz.underlying22 rfl) <| vm rfl <| nK <| bk <| ?_
 have RP := RP.later x_3
 have RS := RS.later x_3
 have RM := RM.later x_3
 have RB := RB.later x_3
 have RT := RT.later x_3
 refine lp (λ mI EI wI => ∃ k : Nat, EI = [(1, .pointer (some ⟨b_2, 0, none⟩)), (3, .slice a.P a.p a.p), (14, .agg #[.slice a.P W.field.places.length a.p, .slice a.S W.stocks.length a.s, .slice a.M W.mines.length a.m]), (15, .int .i64 0), (16, .bool true), (17, .slice a.P W.field.places.length a.p), (18, .slice a.P W.field.places.length a.p), (19, .slice a.P W.field.places.length a.p), (20, .int .i64 (a.p : Int)), (21, .slice a.P a.p a.p), (22, .slice a.P a.p a.p), (23, .int .i64 (a.p : Int)), (24, .int .i64 (k : Int))] ∧ mI = a.p - k ∧ Mod (WOwn.foot a) w wI ∧ Raw Z 1 0 wI a.P a.p ∧ Raw Z 1 0 wI a.S a.s ∧ Raw Z 1 0 wI a.M a.m ∧ Raw Z 2 0 wI a.B a.b ∧ Raw Z 7 5 wI a.T a.t ∧ Blk wI b_2 (Wd.cells a W) 28 (0, 0) ∧ (k ≤ a.p)) _ _ ⟨0, rfl, rfl, z_1, RP, RS, RM, RB, RT, B_5, by omega⟩ (.cons rfl (.cons rfl (.cons rfl (.cons rfl (.cons rfl (.cons rfl (.cons rfl (.cons rfl (.cons rfl (.cons rfl (.cons rfl (.cons rfl (.cons (loI rfl (by first | omega | rfl | (simp <;> omega))) .nil))))))))))))) ?_
 rintro m_9 E_10 w_8 ⟨k, rfl, rfl, z_8, RP, RS, RM, RB, RT, B_5, hk⟩
 have := z_8.size
 have u_12 := λ q hq => (RP.lt q hq).2
 have u_13 := λ q hq => (RS.lt q hq).2
 have u_14 := λ q hq => (RM.lt q hq).2
 have u_15 := λ q hq => (RB.lt q hq).2
 have u_16 := λ q hq => (RT.lt q hq).2
 have q_17 := B_5.lt
 have hcap : (a.p : Int) ≤ 9223372036854775807 := by have := hW.caps; omega
 refine sg <| vL (blt rfl rfl) <| nK <| sq <| ?_
 refine clt rfl (λ h_18 => ?_) (λ h_18 => ?_)
 ·refine sK <| sq <| bk <| sg <| vm rfl <| va rfl <| nK <| rg <| vm rfl <| vm rfl <| vL (iA k Tryz.underlying22 eF7 rfl rfl (RP.adr (zl k (by omega))) rfl (by omega)) <| ?_
  obtain ⟨v_19, hv_20⟩ := RP.get (i := k) (by omega)
  refine vL (ld rfl (Lds.one eF1 hv_20)) <| vL (badW rfl rfl) <| vL (iA k Tryz.underlying22 eF7 rfl rfl (RP.adr (zl k (by omega))) rfl (by omega)) <| sr (i := k) RP (by omega) rfl rfl eF7 λ w_21 m_22 RP => ?_
  have := m_22.size
  have z_21 := z_8.md m_22 (λ q hq => .inl (foot_P hq))
  have := m_22.size
  refine nl <| nB <| nT <| rg <| vL (bad rfl rfl (inI (by omega))) <| vm rfl <| nl <| ?_
  have RS := RS.mod m_22 (λ q hq h => by exfalso; (exact dSP q hq h))
  have RM := RM.mod m_22 (λ q hq h => by exfalso; (exact dMP q hq h))
  have RB := RB.mod m_22 (λ q hq h => by exfalso; (exact dBP q hq h))
  have RT := RT.mod m_22 (λ q hq h => by exfalso; (exact dTP q hq h))
  have B_5 := B_5.mod m_22 (λ hq => eRP _ hq rfl)
  exact nI _ _ ⟨k + 1, rfl, rfl, z_21, RP, RS, RM, RB, RT, B_5, by omega⟩ (by omega) (.cons rfl (.cons rfl (.cons rfl (.cons rfl (.cons rfl (.cons rfl (.cons rfl (.cons rfl (.cons rfl (.cons rfl (.cons rfl (.cons rfl (.cons (loI rfl (by first | omega | rfl | (simp <;> omega))) .nil)))))))))))))
 ·refine xt <| xT <| xK <| xB <| nB <| nT <| rg <| vL (badL (r := 1) rfl rfl (by decide) (by decide)) <| vm rfl <| nl <| nR <| lr <| sg <| vL (blt rfl rfl) <| nK <| sq <| cT rfl <| sK <| sq <| bk <| sq <| ?_
  refine rg <| vL (v := .slice a.S W.stocks.length a.s) (ixk rfl rfl (by kernel_rfl)) <| va rfl <| nK <| sg <| vm rfl <| vm rfl <| vL (cp Tryz.underlying22 rfl) <| vL (sx Tryz.underlying22 eF7 rfl rfl) <| va rfl <| nK <| sg <| vm rfl <| vL (ln Tryz.underlying22 rfl) <| vm rfl <| nK <| bk <| ?_
  refine lp (λ mI EI wI => ∃ k : Nat, EI = [(1, .pointer (some ⟨b_2, 0, none⟩)), (3, .slice a.S a.s a.s), (14, .agg #[.slice a.P W.field.places.length a.p, .slice a.S W.stocks.length a.s, .slice a.M W.mines.length a.m]), (15, .int .i64 1), (16, .bool true), (17, .slice a.S W.stocks.length a.s), (18, .slice a.S W.stocks.length a.s), (19, .slice a.S W.stocks.length a.s), (20, .int .i64 (a.s : Int)), (21, .slice a.S a.s a.s), (22, .slice a.S a.s a.s), (23, .int .i64 (a.s : Int)), (24, .int .i64 (k : Int)), (34, .int .i64 1)] ∧ mI = a.s - k ∧ Mod (WOwn.foot a) w wI ∧ Raw Z 1 0 wI a.P a.p ∧ Raw Z 1 0 wI a.S a.s ∧ Raw Z 1 0 wI a.M a.m ∧ Raw Z 2 0 wI a.B a.b ∧ Raw Z 7 5 wI a.T a.t ∧ Blk wI b_2 (Wd.cells a W) 28 (0, 0) ∧ (k ≤ a.s)) _ _ ⟨0, rfl, rfl, z_8, RP, RS, RM, RB, RT, B_5, by omega⟩ (.cons rfl (.cons rfl (.cons rfl (.cons rfl (.cons rfl (.cons rfl (.cons rfl (.cons rfl (.cons rfl (.cons rfl (.cons rfl (.cons rfl (.cons (loI rfl (by first | omega | rfl | (simp <;> omega))) (sba rfl)))))))))))))) ?_
  rintro m_26 E_27 w_25 ⟨k, rfl, rfl, z_25, RP, RS, RM, RB, RT, B_5, hk⟩
  have := z_25.size
  have u_29 := λ q hq => (RP.lt q hq).2
  have u_30 := λ q hq => (RS.lt q hq).2
  have u_31 := λ q hq => (RM.lt q hq).2
  have u_32 := λ q hq => (RB.lt q hq).2
  have u_33 := λ q hq => (RT.lt q hq).2
  have q_34 := B_5.lt
  have hcap : (a.s : Int) ≤ 9223372036854775807 := by have := hW.caps; omega
  refine sg <| vL (blt rfl rfl) <| nK <| sq <| ?_
  refine clt rfl (λ h_35 => ?_) (λ h_35 => ?_)
  ·refine sK <| sq <| bk <| sg <| vm rfl <| va rfl <| nK <| rg <| vm rfl <| vm rfl <| vL (iA k Tryz.underlying22 eF7 rfl rfl (RS.adr (zl k (by omega))) rfl (by omega)) <| ?_
   obtain ⟨v_36, hv_37⟩ := RS.get (i := k) (by omega)
   refine vL (ld rfl (Lds.one eF1 hv_37)) <| vL (badW rfl rfl) <| vL (iA k Tryz.underlying22 eF7 rfl rfl (RS.adr (zl k (by omega))) rfl (by omega)) <| sr (i := k) RS (by omega) rfl rfl eF7 λ w_38 m_39 RS => ?_
   have := m_39.size
   have z_38 := z_25.md m_39 (λ q hq => .inl (foot_S hq))
   have := m_39.size
   refine nl <| nB <| nT <| rg <| vL (bad rfl rfl (inI (by omega))) <| vm rfl <| nl <| ?_
   have RP := RP.mod m_39 (λ q hq h => by exfalso; (exact dSP q h hq))
   have RM := RM.mod m_39 (λ q hq h => by exfalso; (exact dMS q hq h))
   have RB := RB.mod m_39 (λ q hq h => by exfalso; (exact dBS q hq h))
   have RT := RT.mod m_39 (λ q hq h => by exfalso; (exact dTS q hq h))
   have B_5 := B_5.mod m_39 (λ hq => eRS _ hq rfl)
   exact nI _ _ ⟨k + 1, rfl, rfl, z_38, RP, RS, RM, RB, RT, B_5, by omega⟩ (by omega) (.cons rfl (.cons rfl (.cons rfl (.cons rfl (.cons rfl (.cons rfl (.cons rfl (.cons rfl (.cons rfl (.cons rfl (.cons rfl (.cons rfl (.cons (loI rfl (by first | omega | rfl | (simp <;> omega))) (sba rfl))))))))))))))
  ·refine xt <| xT <| xK <| xB <| nB <| nT <| rg <| vL (badL (r := 2) rfl rfl (by decide) (by decide)) <| vm rfl <| nl <| nR <| lr <| sg <| vL (blt rfl rfl) <| nK <| sq <| cT rfl <| sK <| sq <| bk <| sq <| ?_
   refine rg <| vL (v := .slice a.M W.mines.length a.m) (ixk rfl rfl (by kernel_rfl)) <| va rfl <| nK <| sg <| vm rfl <| vm rfl <| vL (cp Tryz.underlying22 rfl) <| vL (sx Tryz.underlying22 eF7 rfl rfl) <| va rfl <| nK <| sg <| vm rfl <| vL (ln Tryz.underlying22 rfl) <| vm rfl <| nK <| bk <| ?_
   refine lp (λ mI EI wI => ∃ k : Nat, EI = [(1, .pointer (some ⟨b_2, 0, none⟩)), (3, .slice a.M a.m a.m), (14, .agg #[.slice a.P W.field.places.length a.p, .slice a.S W.stocks.length a.s, .slice a.M W.mines.length a.m]), (15, .int .i64 2), (16, .bool true), (17, .slice a.M W.mines.length a.m), (18, .slice a.M W.mines.length a.m), (19, .slice a.M W.mines.length a.m), (20, .int .i64 (a.m : Int)), (21, .slice a.M a.m a.m), (22, .slice a.M a.m a.m), (23, .int .i64 (a.m : Int)), (24, .int .i64 (k : Int)), (34, .int .i64 2)] ∧ mI = a.m - k ∧ Mod (WOwn.foot a) w wI ∧ Raw Z 1 0 wI a.P a.p ∧ Raw Z 1 0 wI a.S a.s ∧ Raw Z 1 0 wI a.M a.m ∧ Raw Z 2 0 wI a.B a.b ∧ Raw Z 7 5 wI a.T a.t ∧ Blk wI b_2 (Wd.cells a W) 28 (0, 0) ∧ (k ≤ a.m)) _ _ ⟨0, rfl, rfl, z_25, RP, RS, RM, RB, RT, B_5, by omega⟩ (.cons rfl (.cons rfl (.cons rfl (.cons rfl (.cons rfl (.cons rfl (.cons rfl (.cons rfl (.cons rfl (.cons rfl (.cons rfl (.cons rfl (.cons (loI rfl (by first | omega | rfl | (simp <;> omega))) (sba rfl)))))))))))))) ?_
   rintro m_43 E_44 w_42 ⟨k, rfl, rfl, z_42, RP, RS, RM, RB, RT, B_5, hk⟩
   have := z_42.size
   have u_46 := λ q hq => (RP.lt q hq).2
   have u_47 := λ q hq => (RS.lt q hq).2
   have u_48 := λ q hq => (RM.lt q hq).2
   have u_49 := λ q hq => (RB.lt q hq).2
   have u_50 := λ q hq => (RT.lt q hq).2
   have q_51 := B_5.lt
   have hcap : (a.m : Int) ≤ 9223372036854775807 := by have := hW.caps; omega
   refine sg <| vL (blt rfl rfl) <| nK <| sq <| ?_
   refine clt rfl (λ h_52 => ?_) (λ h_52 => ?_)
   ·refine sK <| sq <| bk <| sg <| vm rfl <| va rfl <| nK <| rg <| vm rfl <| vm rfl <| vL (iA k Tryz.underlying22 eF7 rfl rfl (RM.adr (zl k (by omega))) rfl (by omega)) <| ?_
    obtain ⟨v_53, hv_54⟩ := RM.get (i := k) (by omega)
    refine vL (ld rfl (Lds.one eF1 hv_54)) <| vL (badW rfl rfl) <| vL (iA k Tryz.underlying22 eF7 rfl rfl (RM.adr (zl k (by omega))) rfl (by omega)) <| sr (i := k) RM (by omega) rfl rfl eF7 λ w_55 m_56 RM => ?_
    have := m_56.size
    have z_55 := z_42.md m_56 (λ q hq => .inl (foot_M hq))
    have := m_56.size
    refine nl <| nB <| nT <| rg <| vL (bad rfl rfl (inI (by omega))) <| vm rfl <| nl <| ?_
    have RP := RP.mod m_56 (λ q hq h => by exfalso; (exact dMP q h hq))
    have RS := RS.mod m_56 (λ q hq h => by exfalso; (exact dMS q h hq))
    have RB := RB.mod m_56 (λ q hq h => by exfalso; (exact dBM q hq h))
    have RT := RT.mod m_56 (λ q hq h => by exfalso; (exact dTM q hq h))
    have B_5 := B_5.mod m_56 (λ hq => eRM _ hq rfl)
    exact nI _ _ ⟨k + 1, rfl, rfl, z_55, RP, RS, RM, RB, RT, B_5, by omega⟩ (by omega) (.cons rfl (.cons rfl (.cons rfl (.cons rfl (.cons rfl (.cons rfl (.cons rfl (.cons rfl (.cons rfl (.cons rfl (.cons rfl (.cons rfl (.cons (loI rfl (by first | omega | rfl | (simp <;> omega))) (sba rfl))))))))))))))
   ·refine xt <| xT <| xK <| xB <| nB <| nT <| rg <| vL (badL (r := 3) rfl rfl (by decide) (by decide)) <| vm rfl <| nl <| nR <| lr <| sg <| vL (blt rfl rfl) <| nK <| sq <| cF rfl <| xt <| xT <| xK <| xB <| nT <| ?_
    refine sq <| sg <| vL (fa eF83 rfl) <| vL (ld rfl (B_5.one eF84 rfl)) <| vL (fa eF83 rfl) <| vL (ld rfl (B_5.one eF84 rfl)) <| vL (cp Tryz.underlying25 rfl) <| vL (sx Tryz.underlying25 eF4 rfl rfl) <| vL (ln Tryz.underlying25 rfl) <| vm rfl <| nK <| bk <| ?_
    refine lp (λ mI EI wI => ∃ k : Nat, EI = [(1, .pointer (some ⟨b_2, 0, none⟩)), (41, .int .i64 (a.b : Int)), (42, .int .i64 (k : Int))] ∧ mI = a.b - k ∧ Mod (WOwn.foot a) w wI ∧ Raw Z 1 0 wI a.P a.p ∧ Raw Z 1 0 wI a.S a.s ∧ Raw Z 1 0 wI a.M a.m ∧ Raw Z 2 0 wI a.B a.b ∧ Raw Z 7 5 wI a.T a.t ∧ Blk wI b_2 (Wd.cells a W) 28 (0, 0) ∧ (k ≤ a.b)) _ _ ⟨0, rfl, rfl, z_42, RP, RS, RM, RB, RT, B_5, by omega⟩ (.cons rfl (.cons rfl (.cons (loI rfl (by first | omega | rfl | (simp <;> omega))) .nil))) ?_
    rintro m_60 E_61 w_59 ⟨k, rfl, rfl, z_59, RP, RS, RM, RB, RT, B_5, hk⟩
    have := z_59.size
    have u_63 := λ q hq => (RP.lt q hq).2
    have u_64 := λ q hq => (RS.lt q hq).2
    have u_65 := λ q hq => (RM.lt q hq).2
    have u_66 := λ q hq => (RB.lt q hq).2
    have u_67 := λ q hq => (RT.lt q hq).2
    have q_68 := B_5.lt
    have hcap : (a.b : Int) ≤ 9223372036854775807 := by have := hW.caps; omega
    refine sg <| vL (blt rfl rfl) <| nK <| sq <| ?_
    refine clt rfl (λ h_69 => ?_) (λ h_69 => ?_)
    ·refine sK <| sq <| bk <| sg <| vm rfl <| va rfl <| nK <| rg <| vL (fa eF83 rfl) <| vL (ld rfl (B_5.one eF84 rfl)) <| vL (fa eF83 rfl) <| vL (ld rfl (B_5.one eF84 rfl)) <| vL (cp Tryz.underlying25 rfl) <| vL (sx Tryz.underlying25 eF4 rfl rfl) <| vm rfl <| vL (iA k Tryz.underlying25 eF4 rfl rfl (RB.adr (zl k (by omega))) rfl (by omega)) <| vL (fa eF0 rfl) <| ?_
     obtain ⟨v_70, hv_71⟩ := RB.get (i := k) (by omega)
     refine vL (ld rfl (Lds.one eF1 hv_71)) <| vL (badW rfl rfl) <| vL (iA k Tryz.underlying25 eF4 rfl rfl (RB.adr (zl k (by omega))) rfl (by omega)) <| vL (fa eF0 rfl) <| sr (i := k) RB (by omega) rfl rfl eF7 λ w_72 m_73 RB => ?_
     have := m_73.size
     have z_72 := z_59.md m_73 (λ q hq => .inl (foot_B hq))
     have := m_73.size
     refine nl <| nB <| nT <| rg <| vL (bad rfl rfl (inI (by omega))) <| vm rfl <| nl <| ?_
     have RP := RP.mod m_73 (λ q hq h => by exfalso; (exact dBP q h hq))
     have RS := RS.mod m_73 (λ q hq h => by exfalso; (exact dBS q h hq))
     have RM := RM.mod m_73 (λ q hq h => by exfalso; (exact dBM q h hq))
     have RT := RT.mod m_73 (λ q hq h => by exfalso; (exact dTB q hq h))
     have B_5 := B_5.mod m_73 (λ hq => eRB _ hq rfl)
     exact nI _ _ ⟨k + 1, rfl, rfl, z_72, RP, RS, RM, RB, RT, B_5, by omega⟩ (by omega) (.cons rfl (.cons rfl (.cons (loI rfl (by first | omega | rfl | (simp <;> omega))) .nil)))
    ·refine xt <| xT <| xK <| xB <| nT <| sg <| vL (fa eF64 rfl) <| vL (ld rfl (B_5.one eF65 rfl)) <| vL (fa eF64 rfl) <| vL (ld rfl (B_5.one eF65 rfl)) <| vL (cp Tryz.underlying26 rfl) <| vL (sx Tryz.underlying26 eF66 rfl rfl) <| vL (ln Tryz.underlying26 rfl) <| vm rfl <| nK <| bk <| ?_
     refine lp (λ mI EI wI => ∃ k : Nat, EI = [(1, .pointer (some ⟨b_2, 0, none⟩)), (65, .int .i64 (a.t : Int)), (66, .int .i64 (k : Int))] ∧ mI = a.t - k ∧ Mod (WOwn.foot a) w wI ∧ Raw Z 1 0 wI a.P a.p ∧ Raw Z 1 0 wI a.S a.s ∧ Raw Z 1 0 wI a.M a.m ∧ Raw Z 2 0 wI a.B a.b ∧ Raw Z 7 5 wI a.T a.t ∧ Blk wI b_2 (Wd.cells a W) 28 (0, 0) ∧ (k ≤ a.t)) _ _ ⟨0, rfl, rfl, z_59, RP, RS, RM, RB, RT, B_5, by omega⟩ (.cons rfl (.cons rfl (.cons (loI rfl (by first | omega | rfl | (simp <;> omega))) .nil))) ?_
     rintro m_77 E_78 w_76 ⟨k, rfl, rfl, z_76, RP, RS, RM, RB, RT, B_5, hk⟩
     have := z_76.size
     have u_80 := λ q hq => (RP.lt q hq).2
     have u_81 := λ q hq => (RS.lt q hq).2
     have u_82 := λ q hq => (RM.lt q hq).2
     have u_83 := λ q hq => (RB.lt q hq).2
     have u_84 := λ q hq => (RT.lt q hq).2
     have q_85 := B_5.lt
     have hcap : (a.t : Int) ≤ 9223372036854775807 := by have := hW.caps; omega
     refine sg <| vL (blt rfl rfl) <| nK <| sq <| ?_
     refine clt rfl (λ h_86 => ?_) (λ h_86 => ?_)
     ·refine sK <| sq <| bk <| sg <| vm rfl <| va rfl <| nK <| rg <| vL (fa eF64 rfl) <| vL (ld rfl (B_5.one eF65 rfl)) <| vL (fa eF64 rfl) <| vL (ld rfl (B_5.one eF65 rfl)) <| vL (cp Tryz.underlying26 rfl) <| vL (sx Tryz.underlying26 eF66 rfl rfl) <| vm rfl <| vL (iA k Tryz.underlying26 eF66 rfl rfl (RT.adr (zl k (by omega))) rfl (by omega)) <| vL (fa eF93 rfl) <| ?_
      obtain ⟨v_87, hv_88⟩ := RT.get (i := k) (by omega)
      refine vL (ld rfl (Lds.one eF1 hv_88)) <| vL (badW rfl rfl) <| vL (iA k Tryz.underlying26 eF66 rfl rfl (RT.adr (zl k (by omega))) rfl (by omega)) <| vL (fa eF93 rfl) <| sr (i := k) RT (by omega) rfl rfl eF7 λ w_89 m_90 RT => ?_
      have := m_90.size
      have z_89 := z_76.md m_90 (λ q hq => .inl (foot_T hq))
      have := m_90.size
      refine nl <| nB <| nT <| rg <| vL (bad rfl rfl (inI (by omega))) <| vm rfl <| nl <| ?_
      have RP := RP.mod m_90 (λ q hq h => by exfalso; (exact dTP q h hq))
      have RS := RS.mod m_90 (λ q hq h => by exfalso; (exact dTS q h hq))
      have RM := RM.mod m_90 (λ q hq h => by exfalso; (exact dTM q h hq))
      have RB := RB.mod m_90 (λ q hq h => by exfalso; (exact dTB q h hq))
      have B_5 := B_5.mod m_90 (λ hq => eRT _ hq rfl)
      exact nI _ _ ⟨k + 1, rfl, rfl, z_89, RP, RS, RM, RB, RT, B_5, by omega⟩ (by omega) (.cons rfl (.cons rfl (.cons (loI rfl (by first | omega | rfl | (simp <;> omega))) .nil)))
     ·refine xt <| xT <| xK <| xB <| ne <| tR .nil <| ?_
      exact ⟨rfl, z_76⟩
end
end Go.Proofs.YtccankldeogdlaaGreat
