import Derived.Test.YtlikikpgmmkjbaaGreatGra
import Derived.Test.YtlikikpgmmkjbaaGreatTroI
import Derived.Test.YtlikikpgmmkjbaaGreatPtq
import Derived.Test.YtlikikpgmmkjbaaGreatBlw
import Derived.Test.YtlikikpgmmkjbaaGreatHitG
import Derived.Test.YtlikikpgmmkjbaaGreatBas
import Derived.Test.YtlikikpgmmkjbaaGreatProg
import Derived.Test.YtlikikpgmmkjbaaGreatGolR
import Derived.Test.YtlikikpgmmkjbaaGreatEqI
set_option linter.unusedVariables false
set_option linter.unusedSimpArgs false
set_option maxRecDepth 100000
set_option maxHeartbeats 4000000
namespace Go.Proofs.YtlikikpgmmkjbaaGreat
section
open Go.RowKit
theorem WOwn.modT {w w1:World} {Z:Nat} {a:Wd.At} {W:Wd} {l:List Trp} (h:WOwn w Z a W) (m:Mod (Rep.blkOf a.T) w w1) (hT:Trp.rep.SOwn 66 56 w1 Z (Rep.blkOf a.T) a.T a.t l):WOwn w1 Z a {W with troops:=l}:=by
 have hn:=(List.nodup_append.1 h.apart).2.2
 have d:∀ q∈Rep.blkOf a.P++Rep.blkOf a.B++Rep.blkOf a.S++Rep.blkOf a.M,q∉Rep.blkOf a.T:=λ q hq ht=>hn q hq q ht rfl
 exact ⟨h.P.mod m (λ q hq=>d q (by simp [hq])),h.B.mod m (λ q hq=>d q (by simp [hq])),h.S.mod m (λ q hq=>d q (by simp [hq])),h.M.mod m (λ q hq=>d q (by simp [hq])),hT,h.apart,h.nums⟩
theorem foot_PT {w:World} {Z:Nat} {a:Wd.At} {W:Wd} (h:WOwn w Z a W):∀ q∈Rep.blkOf a.P,q∉Rep.blkOf a.T:=λ q hq ht=>(List.nodup_append.1 h.apart).2.2 q (by simp [hq]) q ht rfl
theorem mstep_own (w0:World) (a:Wd.At) (W:Wd) (A:Option Addr) (c:Nat) (l:List Gox) (w:World) (hO:WOwn w w0.heap.size a W) (hl:Gox.rep.SHas 24 w A c l) (hdl:0<l.length→∀ q∈Rep.blkOf A,q∉Rep.blkOf a.T) (hnt:W.troops.length≤100000):
  Calls Tryz.prog 98 #[.agg (Wd.cells a W).toArray, .slice A l.length c] w (λ e w'=>∃ A' c',e= .returned (.slice A' (W.stepped l).2.length c')∧repI.SOwn 3 8 w' w.heap.size (Rep.blkOf A') A' c' (W.stepped l).2∧WOwn w' w0.heap.size a (W.stepped l).1∧Mod (Rep.blkOf a.T) w w'):=by
 refine (stepped_any w0 a W A c l w hO.P.has hO.T (foot_PT hO) hl hdl hnt).mono ?_
 rintro e w' ⟨A',c',rfl,h1,h2,h3⟩
 exact ⟨A',c',rfl,h1,hO.modT h3 h2,h3⟩
theorem stepped_len (W:Wd) (l:List Gox):(W.stepped l).1.troops.length=W.troops.length:=(stS_len _).1
theorem stepped_cells (a:Wd.At) (W:Wd) (l:List Gox):Wd.cells a W=Wd.cells a (W.stepped l).1:=by
 unfold Wd.cells;rw [stepped_len];rfl
def marchE (W:Wd) (l:List Gox):Int:=if W.chk≠0 then W.chk else if 200<l.length then 2 else 0
noncomputable def marchW (W:Wd) (l:List Gox):Wd:=if marchE W l≠0 then Wd.zero else (W.stepped l).1
noncomputable def marchM (W:Wd) (l:List Gox):List Int:=if marchE W l≠0 then [] else (W.stepped l).2
theorem march_bad {W:Wd} {l:List Gox} (h:¬ W.chk=0):marchE W l=W.chk∧marchW W l=Wd.zero∧marchM W l= []:=by
 have e:marchE W l=W.chk:=by unfold marchE;rw [if_pos h]
 unfold marchW marchM;rw [e,if_pos h,if_pos h];exact ⟨rfl,rfl,rfl⟩
theorem march_many {W:Wd} {l:List Gox} (h:W.chk=0) (hl:(200:Int)<(l.length:Int)):marchE W l=2∧marchW W l=Wd.zero∧marchM W l= []:=by
 have e:marchE W l=2:=by unfold marchE;rw [if_neg (by omega),if_pos (by omega)]
 unfold marchW marchM;rw [e];exact ⟨rfl,rfl,rfl⟩
theorem march_ok {W:Wd} {l:List Gox} (h:W.chk=0) (hl:(l.length:Int)≤200):marchE W l=0∧marchW W l=(W.stepped l).1∧marchM W l=(W.stepped l).2:=by
 have e:marchE W l=0:=by unfold marchE;rw [if_neg (by omega),if_neg (by omega)]
 unfold marchW marchM;rw [e];exact ⟨rfl,rfl,rfl⟩
noncomputable def reachK (g:Gox):Nat→Wd→Nat
 | 0,_=>0
 | n+1,W=>if (W.stepped [g]).2.length=0 then 0 else reachK g n (W.stepped [g]).1+1
noncomputable def reachV (g:Gox):Nat→Wd→Wd
 | 0,W=>W
 | n+1,W=>if (W.stepped [g]).2.length=0 then (W.stepped [g]).1 else reachV g n (W.stepped [g]).1
def reachE (W:Wd) (id n:Int):Int:=if W.chk≠0 then W.chk else if n<0∨200<n then 1 else if whichB W (isId id)=false then 7 else 0
noncomputable def reachW (W:Wd) (id:Int) (to_:Cel) (n:Int):Wd:=if reachE W id n≠0 then Wd.zero else reachV ⟨id,⟨to_.x,to_.y⟩⟩ n.toNat W
noncomputable def reachN (W:Wd) (id:Int) (to_:Cel) (n:Int):Nat:=if reachE W id n≠0 then 0 else reachK ⟨id,⟨to_.x,to_.y⟩⟩ n.toNat W
theorem mown_any (a:Wd.At) (W:Wd) (w:World) (hW:Wd.Has w a W):
  Calls Tryz.prog 97 #[.agg ((Wd.cells a W).toArray)] w (λ e w'=>∃ a':Wd.At,e= .returned (.agg (Wd.cells a' W).toArray)∧WOwn w' w.heap.size a' W∧Ext w w'):=by
 refine calls_W (n:=26) Tryz.func97 rfl rfl rfl ?_
 refine sg<|bx rfl rfl rfl rfl λ w_1 b_2 x_3 l_4 B_5=> ?_
 have:=x_3.size
 have z_1:=eT (Ext.rf w) x_3
 have q_7:=B_5.lt
 refine al rfl eF80 rfl rfl λ w_8 b_9 x_10 l_11 B_12=> ?_
 have:=x_10.size
 have z_8:=eT z_1 x_10
 have q_14:=B_12.lt
 refine nK<|sg<|vL (fa eF59 rfl)<|vL (fa eF45 rfl)<| ?_
 have B_5:=B_5.later x_10
 refine vL (ld rfl (B_5.one eF36 rfl))<|ca eF81 rfl rfl ((clone_I _ _ W.field.places _ (hW.P.keep z_8)).mono ?_)
 rintro e w_18 ⟨A_15,c_15,rfl,OC_15,hn_15,x_19⟩
 refine ⟨_,rfl, ?_⟩
 have:=x_19.size
 have z_18:=eT z_8 x_19
 have u_16:=λ q hq=>(OC_15.lt q hq).2
 have lo_17:=λ q hq=>(OC_15.lt q hq).1
 refine vL (fa eF59 rfl)<|vL (fa eF45 rfl)<| ?_
 have B_5:=B_5.later x_19
 refine st (new:= [.int .i64 W.field.wide, .int .i64 W.field.high, .slice A_15 ((W.field.places).length) c_15, .slice a.B W.bases.length a.b, .slice a.S W.stocks.length a.s, .slice a.M W.mines.length a.m, .slice a.T W.troops.length a.t, .int .i64 W.next, .int .i64 W.now]) rfl rfl B_5 rfl eF82 rfl rfl rfl λ w_21 m_22 B_5=> ?_
 have:=m_22.size
 have z_21:=Ext.mod z_18 m_22 (ge1 (by omega))
 have:=m_22.size
 refine nK<|sq<| ?_
 refine rd [(1,0),(2,2),(4,0),(5,2),(7,3),(9,3)] [0,1,3,4,2,6,5,7,8,9] (by kernel_rfl) (by kernel_rfl) ?_
 refine fw1 rfl (λ _=>fa eF83 rfl)<|fq1 rfl (λ _ x=>ld rfl ((B_5.later x).one eF84 rfl))<|fw1 rfl (λ _=>fa eF85 rfl)<|fq1 rfl (λ _ x=>ld rfl ((B_5.later x).one eF36 rfl))<|fx rfl rfl rfl λ w_25 x_26 Q hK=>ca eF86 rfl rfl ((clone_C _ _ W.bases _ (hW.B.keep (eT z_21 x_26))).mono ?_)
 rintro e w_30 ⟨A_27,c_27,rfl,OC_27,hn_27,x_31⟩
 refine ⟨_,rfl,hK _ _ ⟨eT x_26 x_31, ?_⟩⟩
 have:=x_26.size
 have z_25:=eT z_21 x_26
 have:=x_31.size
 have z_30:=eT z_25 x_31
 have u_28:=λ q hq=>(OC_27.lt q hq).2
 have lo_29:=λ q hq=>(OC_27.lt q hq).1
 refine fw1 rfl (λ _=>fa eF83 rfl)<|fx rfl rfl rfl λ w_34 x_35 Q hK=>ca eF81 rfl rfl ((clone_I _ _ W.stocks _ (hW.S.keep (eT z_30 x_35))).mono ?_)
 rintro e w_39 ⟨A_36,c_36,rfl,OC_36,hn_36,x_40⟩
 refine ⟨_,rfl,hK _ _ ⟨eT x_35 x_40, ?_⟩⟩
 have:=x_35.size
 have z_34:=eT z_30 x_35
 have:=x_40.size
 have z_39:=eT z_34 x_40
 have u_37:=λ q hq=>(OC_36.lt q hq).2
 have lo_38:=λ q hq=>(OC_36.lt q hq).1
 have B_5:=B_5.later (eT x_26 (eT x_31 (eT x_35 x_40)))
 refine fb rfl rfl rfl λ w_43 x_44 Q hK=>st (new:= [.int .i64 W.field.wide, .int .i64 W.field.high, .slice A_15 ((W.field.places).length) c_15, .slice A_27 ((W.bases).length) c_27, .slice a.S W.stocks.length a.s, .slice a.M W.mines.length a.m, .slice a.T W.troops.length a.t, .int .i64 W.next, .int .i64 W.now]) rfl rfl (B_5.later x_44) rfl eF87 rfl rfl rfl λ w_45 m_46 B_5=>hK _ _ ?_
 have:=x_44.size
 have z_43:=eT z_39 x_44
 have:=m_46.size
 have z_45:=Ext.mod z_43 m_46 (ge1 (by omega))
 have:=m_46.size
 refine fw1 rfl (λ _=>fa eF85 rfl)<|fb rfl rfl rfl λ w_50 x_51 Q hK=>st (new:= [.int .i64 W.field.wide, .int .i64 W.field.high, .slice A_15 ((W.field.places).length) c_15, .slice A_27 ((W.bases).length) c_27, .slice A_36 ((W.stocks).length) c_36, .slice a.M W.mines.length a.m, .slice a.T W.troops.length a.t, .int .i64 W.next, .int .i64 W.now]) rfl rfl (B_5.later x_51) rfl eF82 rfl rfl rfl λ w_52 m_53 B_5=>hK _ _ ?_
 have:=x_51.size
 have z_50:=eT z_45 x_51
 have:=m_53.size
 have z_52:=Ext.mod z_50 m_53 (ge1 (by omega))
 have:=m_53.size
 refine fn λ w_57 x_58=> ?_
 have:=x_58.size
 have z_57:=eT z_52 x_58
 refine nT<|sq<| ?_
 refine rd [(1,0),(2,2),(4,0),(5,2),(7,3),(9,3)] [0,1,3,4,2,6,5,7,8,9] (by kernel_rfl) (by kernel_rfl) ?_
 refine fw1 rfl (λ _=>fa eF88 rfl)<| ?_
 have B_5:=B_5.later x_58
 refine fq1 rfl (λ _ x=>ld rfl ((B_5.later x).one eF36 rfl))<|fw1 rfl (λ _=>fa eF64 rfl)<|fq1 rfl (λ _ x=>ld rfl ((B_5.later x).one eF65 rfl))<|fx rfl rfl rfl λ w_60 x_61 Q hK=>ca eF81 rfl rfl ((clone_I _ _ W.mines _ (hW.M.keep (eT z_57 x_61))).mono ?_)
 rintro e w_65 ⟨A_62,c_62,rfl,OC_62,hn_62,x_66⟩
 refine ⟨_,rfl,hK _ _ ⟨eT x_61 x_66, ?_⟩⟩
 have:=x_61.size
 have z_60:=eT z_57 x_61
 have:=x_66.size
 have z_65:=eT z_60 x_66
 have u_63:=λ q hq=>(OC_62.lt q hq).2
 have lo_64:=λ q hq=>(OC_62.lt q hq).1
 refine fw1 rfl (λ _=>fa eF88 rfl)<|fx rfl rfl rfl λ w_69 x_70 Q hK=>ca eF89 rfl rfl ((clone_T _ _ W.troops _ (hW.T.keep (eT z_65 x_70))).mono ?_)
 rintro e w_74 ⟨A_71,c_71,rfl,OC_71,hn_71,x_75⟩
 refine ⟨_,rfl,hK _ _ ⟨eT x_70 x_75, ?_⟩⟩
 have:=x_70.size
 have z_69:=eT z_65 x_70
 have:=x_75.size
 have z_74:=eT z_69 x_75
 have u_72:=λ q hq=>(OC_71.lt q hq).2
 have lo_73:=λ q hq=>(OC_71.lt q hq).1
 have B_5:=B_5.later (eT x_61 (eT x_66 (eT x_70 x_75)))
 refine fb rfl rfl rfl λ w_78 x_79 Q hK=>st (new:= [.int .i64 W.field.wide, .int .i64 W.field.high, .slice A_15 ((W.field.places).length) c_15, .slice A_27 ((W.bases).length) c_27, .slice A_36 ((W.stocks).length) c_36, .slice A_62 ((W.mines).length) c_62, .slice a.T W.troops.length a.t, .int .i64 W.next, .int .i64 W.now]) rfl rfl (B_5.later x_79) rfl eF82 rfl rfl rfl λ w_80 m_81 B_5=>hK _ _ ?_
 have:=x_79.size
 have z_78:=eT z_74 x_79
 have:=m_81.size
 have z_80:=Ext.mod z_78 m_81 (ge1 (by omega))
 have:=m_81.size
 refine fw1 rfl (λ _=>fa eF64 rfl)<|fb rfl rfl rfl λ w_85 x_86 Q hK=>st (new:= [.int .i64 W.field.wide, .int .i64 W.field.high, .slice A_15 ((W.field.places).length) c_15, .slice A_27 ((W.bases).length) c_27, .slice A_36 ((W.stocks).length) c_36, .slice A_62 ((W.mines).length) c_62, .slice A_71 ((W.troops).length) c_71, .int .i64 W.next, .int .i64 W.now]) rfl rfl (B_5.later x_86) rfl eF90 rfl rfl rfl λ w_87 m_88 B_5=>hK _ _ ?_
 have:=x_86.size
 have z_85:=eT z_80 x_86
 have:=m_88.size
 have z_87:=Ext.mod z_85 m_88 (ge1 (by omega))
 have:=m_88.size
 refine fn λ w_92 x_93=> ?_
 have:=x_93.size
 have z_92:=eT z_87 x_93
 refine nT<|sg<| ?_
 have B_5:=B_5.later x_93
 refine vL (ld rfl (B_5.all eF61 eF62))<| ?_
 have B_12:=B_12.later x_19
 have B_12:=B_12.mod m_22 (nm1 (by omega))
 have B_12:=B_12.later (eT x_26 (eT x_31 (eT x_35 (eT x_40 x_44))))
 have B_12:=B_12.mod m_46 (nm1 (by omega))
 have B_12:=B_12.later x_51
 have B_12:=B_12.mod m_53 (nm1 (by omega))
 have B_12:=B_12.later (eT x_58 (eT x_61 (eT x_66 (eT x_70 (eT x_75 x_79)))))
 have B_12:=B_12.mod m_81 (nm1 (by omega))
 have B_12:=B_12.later x_86
 have B_12:=B_12.mod m_88 (nm1 (by omega))
 have B_12:=B_12.later x_93
 refine st (new:= [.int .i64 W.field.wide, .int .i64 W.field.high, .slice A_15 ((W.field.places).length) c_15, .slice A_27 ((W.bases).length) c_27, .slice A_36 ((W.stocks).length) c_36, .slice A_62 ((W.mines).length) c_62, .slice A_71 ((W.troops).length) c_71, .int .i64 W.next, .int .i64 W.now]) rfl rfl B_12 rfl eF62 rfl rfl rfl λ w_95 m_96 B_12=> ?_
 have:=m_96.size
 have z_95:=Ext.mod z_92 m_96 (ge1 (by omega))
 have:=m_96.size
 refine nK<|rt<|tR (.cell rfl (B_12.all eF61 eF62) .nil)<| ?_
 have OC_15:=OC_15.mod m_22 (fk2 lo_17 (by omega))
 have OC_15:=OC_15.later (eT x_26 (eT x_31 (eT x_35 (eT x_40 x_44))))
 have OC_15:=OC_15.mod m_46 (fk2 lo_17 (by omega))
 have OC_15:=OC_15.later x_51
 have OC_15:=OC_15.mod m_53 (fk2 lo_17 (by omega))
 have OC_15:=OC_15.later (eT x_58 (eT x_61 (eT x_66 (eT x_70 (eT x_75 x_79)))))
 have OC_15:=OC_15.mod m_81 (fk2 lo_17 (by omega))
 have OC_15:=OC_15.later x_86
 have OC_15:=OC_15.mod m_88 (fk2 lo_17 (by omega))
 have OC_15:=OC_15.later x_93
 have OC_15:=OC_15.mod m_96 (fk2 lo_17 (by omega))
 have OC_27:=OC_27.later (eT x_35 (eT x_40 x_44))
 have OC_27:=OC_27.mod m_46 (fk2 lo_29 (by omega))
 have OC_27:=OC_27.later x_51
 have OC_27:=OC_27.mod m_53 (fk2 lo_29 (by omega))
 have OC_27:=OC_27.later (eT x_58 (eT x_61 (eT x_66 (eT x_70 (eT x_75 x_79)))))
 have OC_27:=OC_27.mod m_81 (fk2 lo_29 (by omega))
 have OC_27:=OC_27.later x_86
 have OC_27:=OC_27.mod m_88 (fk2 lo_29 (by omega))
 have OC_27:=OC_27.later x_93
 have OC_27:=OC_27.mod m_96 (fk2 lo_29 (by omega))
 have OC_36:=OC_36.later x_44
 have OC_36:=OC_36.mod m_46 (fk2 lo_38 (by omega))
 have OC_36:=OC_36.later x_51
 have OC_36:=OC_36.mod m_53 (fk2 lo_38 (by omega))
 have OC_36:=OC_36.later (eT x_58 (eT x_61 (eT x_66 (eT x_70 (eT x_75 x_79)))))
 have OC_36:=OC_36.mod m_81 (fk2 lo_38 (by omega))
 have OC_36:=OC_36.later x_86
 have OC_36:=OC_36.mod m_88 (fk2 lo_38 (by omega))
 have OC_36:=OC_36.later x_93
 have OC_36:=OC_36.mod m_96 (fk2 lo_38 (by omega))
 have OC_62:=OC_62.later (eT x_70 (eT x_75 x_79))
 have OC_62:=OC_62.mod m_81 (fk2 lo_64 (by omega))
 have OC_62:=OC_62.later x_86
 have OC_62:=OC_62.mod m_88 (fk2 lo_64 (by omega))
 have OC_62:=OC_62.later x_93
 have OC_62:=OC_62.mod m_96 (fk2 lo_64 (by omega))
 have OC_71:=OC_71.later x_79
 have OC_71:=OC_71.mod m_81 (fk2 lo_73 (by omega))
 have OC_71:=OC_71.later x_86
 have OC_71:=OC_71.mod m_88 (fk2 lo_73 (by omega))
 have OC_71:=OC_71.later x_93
 have OC_71:=OC_71.mod m_96 (fk2 lo_73 (by omega))
 have hR:=WOwn.of5 (Z:=w.heap.size) (OC_15.down (by omega)) (OC_27.down (by omega)) (OC_36.down (by omega)) (OC_62.down (by omega)) (OC_71.down (by omega)) (λ q h1 h2=>by exfalso;(have:=lo_29 q h1;(have:=u_16 q h2;omega))) (λ q h1 h2=>by exfalso;(have:=lo_38 q h1;(have:=u_16 q h2;omega))) (λ q h1 h2=>by exfalso;(have:=lo_38 q h1;(have:=u_28 q h2;omega))) (λ q h1 h2=>by exfalso;(have:=lo_64 q h1;(have:=u_16 q h2;omega))) (λ q h1 h2=>by exfalso;(have:=lo_64 q h1;(have:=u_28 q h2;omega))) (λ q h1 h2=>by exfalso;(have:=lo_64 q h1;(have:=u_37 q h2;omega))) (λ q h1 h2=>by exfalso;(have:=lo_73 q h1;(have:=u_16 q h2;omega))) (λ q h1 h2=>by exfalso;(have:=lo_73 q h1;(have:=u_28 q h2;omega))) (λ q h1 h2=>by exfalso;(have:=lo_73 q h1;(have:=u_37 q h2;omega))) (λ q h1 h2=>by exfalso;(have:=lo_73 q h1;(have:=u_63 q h2;omega))) hW.nums
 exact ⟨⟨A_15,A_27,A_36,A_62,A_71,c_15,c_27,c_36,c_62,c_71⟩,rfl,hR,z_95⟩
theorem mstep_any (a:Wd.At) (W:Wd) (A:Option Addr) (c:Nat) (l:List Gox) (w:World) (hW:Wd.Has w a W) (hl:Gox.rep.SHas 24 w A c l):
  Calls Tryz.prog 62 #[.agg ((Wd.cells a W).toArray), .slice A l.length c] w (λ e w'=>∃ a' A' c',e= .returned (.tuple #[.agg (Wd.cells a' (marchW W l)).toArray, .slice A' (marchM W l).length c', .int .i64 (marchE W l)])∧WOwn w' w.heap.size a' (marchW W l)∧repI.SOwn 3 8 w' w.heap.size (Rep.blkOf A') A' c' (marchM W l)∧(∀ q∈Rep.blkOf A',q∉WOwn.foot a')∧Ext w w'):=by
 refine calls_W (n:=26) Tryz.func62 rfl rfl rfl ?_
 refine sg<|bx rfl rfl rfl rfl λ w_1 b_2 x_3 l_4 B_5=> ?_
 have:=x_3.size
 have z_1:=eT (Ext.rf w) x_3
 have q_7:=B_5.lt
 refine al rfl eF80 rfl rfl λ w_8 b_9 x_10 l_11 B_12=> ?_
 have:=x_10.size
 have z_8:=eT z_1 x_10
 have q_14:=B_12.lt
 refine va rfl<|va rfl<|nK<|sq<|sg<| ?_
 have B_5:=B_5.later x_10
 refine vL (ld rfl (B_5.all eF61 eF62))<|ca eF63 rfl rfl ((check_any a W _ (hW.keep z_8)).mono ?_)
 rintro e w_15 ⟨rfl,x_16⟩
 refine ⟨_,rfl, ?_⟩
 have:=x_16.size
 have z_15:=eT z_8 x_16
 refine va rfl<|nK<|sg<|vm rfl<|vL (bne rfl rfl)<|nK<| ?_
 refine cne rfl (λ h_18=> ?_) (λ h_18=> ?_)
 ·refine sg<|vL (v:= .agg #[.int .i64 0, .int .i64 0, .slice none 0 0, .slice none 0 0, .slice none 0 0, .slice none 0 0, .slice none 0 0, .int .i64 0, .int .i64 0]) (bd rfl (by kernel_rfl))<|vm rfl<| ?_
  have B_12:=B_12.later x_16
  refine st (new:= [.int .i64 0, .int .i64 0, .slice none 0 0, .slice none 0 0, .slice none 0 0, .slice none 0 0, .slice none 0 0, .int .i64 0, .int .i64 0]) rfl rfl B_12 rfl eF62 rfl rfl rfl λ w_19 m_20 B_12=> ?_
  have:=m_20.size
  have z_19:=Ext.mod z_15 m_20 (ge1 (by omega))
  have:=m_20.size
  refine va rfl<|va rfl<|nK<|rt<|tT<|tR (.cell rfl (B_12.all eF61 eF62) (.tmp rfl (.tmp rfl .nil)))<| ?_
  obtain ⟨e1,e2,e3⟩:=march_bad (l:=l) h_18
  exact ⟨⟨none,none,none,none,none,0,0,0,0,0⟩,none,0,by rw [e1,e2,e3];rfl,by rw [e2];exact WOwn.zero _ _,by rw [e3];exact Rep.SOwn.nil _,λ q hq=>by simp [Rep.blkOf] at hq,z_19⟩
 ·have hG:=Good.of_chk h_18
  have hnt:=hG.nt
  refine sK<|sq<|sg<|vm rfl<|vL (ln Tryz.underlying124 rfl)<|vL (bgt rfl rfl)<|nK<| ?_
  refine clt rfl (λ h_23=> ?_) (λ h_23=> ?_)
  ·refine sg<|vL (v:= .agg #[.int .i64 0, .int .i64 0, .slice none 0 0, .slice none 0 0, .slice none 0 0, .slice none 0 0, .slice none 0 0, .int .i64 0, .int .i64 0]) (bd rfl (by kernel_rfl))<| ?_
   have B_12:=B_12.later x_16
   refine st (new:= [.int .i64 0, .int .i64 0, .slice none 0 0, .slice none 0 0, .slice none 0 0, .slice none 0 0, .slice none 0 0, .int .i64 0, .int .i64 0]) rfl rfl B_12 rfl eF62 rfl rfl rfl λ w_24 m_25 B_12=> ?_
   have:=m_25.size
   have z_24:=Ext.mod z_15 m_25 (ge1 (by omega))
   have:=m_25.size
   refine va rfl<|va rfl<|nK<|rt<|tT<|tR (.cell rfl (B_12.all eF61 eF62) (.tmp rfl (.tmp rfl .nil)))<| ?_
   obtain ⟨e1,e2,e3⟩:=march_many (l:=l) h_18 (by omega)
   exact ⟨⟨none,none,none,none,none,0,0,0,0,0⟩,none,0,by rw [e1,e2,e3];rfl,by rw [e2];exact WOwn.zero _ _,by rw [e3];exact Rep.SOwn.nil _,λ q hq=>by simp [Rep.blkOf] at hq,z_24⟩
  ·refine sK<|sg<| ?_
   have B_5:=B_5.later x_16
   refine vL (ld rfl (B_5.all eF61 eF62))<|ca eF104 rfl rfl ((mown_any a W _ (hW.keep z_15)).mono ?_)
   rintro e w_31 ⟨a28,rfl,HO28,x_32⟩
   refine ⟨_,rfl, ?_⟩
   have:=x_32.size
   have z_31:=eT z_15 x_32
   have u_29:=λ q hq=>(HO28.lt q hq).2
   have lo_30:=λ q hq=>(HO28.lt q hq).1
   have B_5:=B_5.later x_32
   refine st rfl rfl B_5 rfl eF62 rfl rfl rfl λ w_34 m_35 B_5=> ?_
   have:=m_35.size
   have z_34:=Ext.mod z_31 m_35 (ge1 (by omega))
   have:=m_35.size
   refine nK<|sg<|vL (ld rfl (B_5.all eF61 eF62))<|vm rfl<| ?_
   have HO28:=HO28.mod m_35 (fk2 lo_30 (by omega))
   refine ca eF105 rfl rfl ((mstep_own _ a28 W _ _ l _ HO28 (hl.keep z_34) (λ h0 q hq hb=>by have h1:=hl.ltb (by decide) h0 q hq;have h2:=lo_30 q (foot_T hb);omega) (by omega)).mono ?_)
   rintro e w_42 ⟨A38,c38,rfl,OM38,HS38,m_41⟩
   refine ⟨_,rfl, ?_⟩
   have:=m_41.size
   have z_42:=Ext.mod z_34 m_41 (λ q hq=>by have h_:=lo_30 q (foot_T hq);omega)
   rw [stepped_cells a28 W l] at B_5
   have u_39:=λ q hq=>(OM38.lt q hq).2
   have lo_40:=λ q hq=>(OM38.lt q hq).1
   have u_38:=λ q hq=>(HS38.lt q hq).2
   have hln38:=stepped_len W l
   refine va rfl<|nK<|sg<| ?_
   have d_44:∀ q∈Rep.blkOf a28.T,q=b_2→False:=λ q hq hb=>by (have:=lo_30 q (foot_T hq);omega)
   have B_5:=B_5.mod m_41 (λ hq=>d_44 _ hq rfl)
   refine vL (ld rfl (B_5.all eF61 eF62))<|vm rfl<| ?_
   have B_12:=B_12.later (eT x_16 x_32)
   have B_12:=B_12.mod m_35 (nm1 (by omega))
   have d_45:∀ q∈Rep.blkOf a28.T,q=b_9→False:=λ q hq hb=>by (have:=lo_30 q (foot_T hq);omega)
   have B_12:=B_12.mod m_41 (λ hq=>d_45 _ hq rfl)
   refine st rfl rfl B_12 rfl eF62 rfl rfl rfl λ w_46 m_47 B_12=> ?_
   have:=m_47.size
   have z_46:=Ext.mod z_42 m_47 (ge1 (by omega))
   have:=m_47.size
   refine va rfl<|va rfl<|nK<|rt<|tR (.cell rfl (B_12.all eF61 eF62) (.tmp rfl (.tmp rfl .nil)))<| ?_
   have HS38:=HS38.mod m_47 (fk2 lo_30 (by omega))
   have OM38:=OM38.mod m_47 (fk2 lo_40 (by omega))
   obtain ⟨e1,e2,e3⟩:=march_ok (l:=l) h_18 (by omega)
   exact ⟨a28,A38,c38,by rw [e1,e2,e3];rfl,by rw [e2];exact HS38.down (by omega),by rw [e3];exact OM38.down (by omega),λ q hq hf=>by (have:=lo_40 q hq;(have:=u_29 q hf;omega)),z_46⟩
end
section
open Go.RowKit
structure Ded where
 kind:Int
 who:Int
 spot:Cel
 what:Int
 deriving DecidableEq,Inhabited
namespace Ded
def cells (a:Ded):List Value:= [.int .i64 (a.kind), .int .i64 (a.who), .int .i64 (a.spot.x), .int .i64 (a.spot.y), .int .i64 (a.what)]
def ok (a:Ded):Prop:=(Lit.int .i64 a.kind).wf=true∧(Lit.int .i64 a.who).wf=true∧(Lit.int .i64 a.spot.x).wf=true∧(Lit.int .i64 a.spot.y).wf=true∧(Lit.int .i64 a.what).wf=true
def raw (j:Nat) (u:Value):Prop:=match j with
 | 0=>∃ n:Int,u= .int .i64 n
 | 1=>∃ n:Int,u= .int .i64 n
 | 2=>∃ n:Int,u= .int .i64 n
 | 3=>∃ n:Int,u= .int .i64 n
 | 4=>∃ n:Int,u= .int .i64 n
 | _=>True
theorem cells_raw (a:Ded):∀ (j:Nat) u,a.cells[j]? =some u→raw j u:=by
 intro j u hu
 match j,hu with
 | 0,hu=>exact ⟨_,(Option.some.inj hu).symm⟩
 | 1,hu=>exact ⟨_,(Option.some.inj hu).symm⟩
 | 2,hu=>exact ⟨_,(Option.some.inj hu).symm⟩
 | 3,hu=>exact ⟨_,(Option.some.inj hu).symm⟩
 | 4,hu=>exact ⟨_,(Option.some.inj hu).symm⟩
 | j+5,hu=>exact trivial
theorem cells_one (a:Ded):∀ u∈a.cells,u.oneCell'=true:=by
 intro u hu
 unfold cells at hu
 simp only [List.mem_cons,List.not_mem_nil,or_false] at hu
 rcases hu with rfl | rfl | rfl | rfl | rfl<;>rfl
def rep:Rep Ded:=Rep.flat 5 cells ok raw (λ _=>rfl) cells_one cells_raw
def zero:Value:= .agg #[.int .i64 0, .int .i64 0, .int .i64 0, .int .i64 0, .int .i64 0]
theorem zero_raw:∀ (j:Nat) u,zero.cells[j]? =some u→rep.raw j u:=by
 intro j u hu
 have hu:(#[(.int .i64 0:Value),(.int .i64 0:Value),(.int .i64 0:Value),(.int .i64 0:Value),(.int .i64 0:Value)]:Array Value)[j]? =some u:=hu
 match j,hu with
 | 0,hu=>exact ⟨_,(Option.some.inj hu).symm⟩
 | 1,hu=>exact ⟨_,(Option.some.inj hu).symm⟩
 | 2,hu=>exact ⟨_,(Option.some.inj hu).symm⟩
 | 3,hu=>exact ⟨_,(Option.some.inj hu).symm⟩
 | 4,hu=>exact ⟨_,(Option.some.inj hu).symm⟩
 | j+5,hu=>cases hu
theorem info:(Tryz.prog.info? 178).map (λ i=>(i.zero,i.size,i.bytes))=some (some zero,5,40):=by kernel_rfl
def sh:Sh:=(.cons (.int .i64) (.cons (.int .i64) (.cons (.cons (.int .i64) (.cons (.int .i64) .nil)) (.cons (.int .i64) .nil))))
end Ded
theorem hcD {w:World} {cs:List Value} {a:Ded} (h:Ded.rep.has w cs a):cs=a.cells:=And.left (show cs=a.cells∧a.ok from h)
end
section
open Go.RowKit
def beside (a b:Cel):Bool:=inB b.x (a.x - 1) (a.x+1) && inB b.y (a.y - 1) (a.y+1)
namespace Wd
def place (W:Wd) (c:Cel):Nat:=(c.y * W.field.wide+c.x).toNat
def addLoad (t:Trp) (n:Int):Trp:= {t with load:=t.load+n}
def mine (W:Wd) (d:Ded):Option Wd :=
 match W.troops.findIdx? (isId d.who) with
 | none=>none
 | some k =>
  let t:=W.troops.getD k default
  let m:=W.mines.getD (W.place d.spot) 0
  if t.kind == 1 && decide (t.load<5) && beside t.spot d.spot && W.field.isIn d.spot && m != 0 then
   some {W with mines:=W.mines.set (W.place d.spot) (m - 1),troops:=W.troops.set k (addLoad t 1)}
  else none
def drop (W:Wd) (d:Ded):Option Wd :=
 match W.troops.findIdx? (isId d.who) with
 | none=>none
 | some k =>
  let t:=W.troops.getD k default
  let o:=t.owner.toNat
  let s:=W.stocks.getD o 0
  let n:=min t.load (1000000 - s)
  if t.load != 0 && beside (W.bases.getD o default) t.spot && decide (0<n) then
   some {W with stocks:=W.stocks.set o (s+n),troops:=W.troops.set k (addLoad t (-n))}
  else none
def around (c:Cel):List Cel :=
 [c,⟨c.x - 1,c.y - 1⟩,⟨c.x,c.y - 1⟩,⟨c.x+1,c.y - 1⟩,⟨c.x - 1,c.y⟩,⟨c.x,c.y⟩,⟨c.x+1,c.y⟩,⟨c.x - 1,c.y+1⟩,⟨c.x,c.y+1⟩,⟨c.x+1,c.y+1⟩]
def openTo (W:Wd) (c:Cel):Bool:=W.field.ground c && !W.troops.any (isAt c)
def free (W:Wd) (c:Cel):Option Cel:=(around c).find? W.openTo
def hire (W:Wd) (d:Ded):Option Wd :=
 let s:=W.stocks.getD d.who.toNat 0
 if inB d.who 0 ((W.bases.length:Int) - 1) && inB d.what 1 2 && decide (priceOf d.what≤s) && decide (W.troops.length<100) && decide (W.next<1000000) then
  match W.free (W.bases.getD d.who.toNat default) with
  | none=>none
  | some c=>some {W with troops:=W.troops++ [⟨W.next,d.who,d.what,c,lifeOf d.what,0⟩],next:=W.next+1,stocks:=W.stocks.set d.who.toNat (s - priceOf d.what)}
 else none
def deed (W:Wd) (d:Ded):Option Wd:=if d.kind=1 then W.mine d else if d.kind=2 then W.drop d else if d.kind=3 then W.hire d else none
def deeds (W:Wd):List Ded→Wd×List Bool
 | []=>(W, [])
 | d::l=>match W.deed d with
  | some V=>((V.deeds l).1,true::(V.deeds l).2)
  | none=>((W.deeds l).1,false::(W.deeds l).2)
end Wd
theorem findId {l:List Trp} {id:Int} {k:Nat} (h:l.findIdx? (isId id)=some k):∃ t,l[k]? =some t∧t.id=id∧l.getD k default=t:=by
 obtain ⟨h1,h2,_⟩:=List.findIdx?_eq_some_iff_getElem.1 h
 exact ⟨l[k],List.getElem?_eq_getElem h1,by simpa [isId] using h2,by rw [List.getD_eq_getElem?_getD,List.getElem?_eq_getElem h1];rfl⟩
theorem spots_set {W V:Wd} {k:Nat} {t u:Trp} (hV:V.troops=W.troops.set k u) (ht:W.troops[k]? =some t) (hs:u.spot=t.spot) (i:Nat):V.spots i=W.spots i:=by
 unfold Wd.spots
 rw [hV,List.take_set,List.map_set]
 by_cases hki:k<i
 ·have h1:((W.troops.take i).map (·.spot))[k]? =some t.spot:=by rw [List.getElem?_map,List.getElem?_take,if_pos hki,ht];rfl
  obtain ⟨h2,h3⟩:=List.getElem?_eq_some_iff.1 h1
  rw [hs,← h3]
  exact List.set_getElem_self _
 ·rw [List.set_eq_of_length_le (by rw [List.length_map,List.length_take];omega)]
theorem last_set {W V:Wd} {k:Nat} {t u:Trp} (hV:V.troops=W.troops.set k u) (ht:W.troops[k]? =some t) (hs:u.id=t.id) (i:Nat):V.lastId i=W.lastId i:=by
 unfold Wd.lastId
 by_cases hi:i=0
 ·rw [if_pos hi,if_pos hi]
 ·rw [if_neg hi,if_neg hi,hV,List.getD_eq_getElem?_getD,List.getD_eq_getElem?_getD]
  by_cases hk:k=i - 1
  ·subst hk
   rw [List.getElem?_set_self (List.getElem?_eq_some_iff.1 ht).1,ht]
   exact hs
  ·rw [List.getElem?_set_ne hk]
theorem at_set {W V:Wd} {k:Nat} {t u:Trp} (hV:V.troops=W.troops.set k u) (ht:W.troops[k]? =some t) {i:Nat} {x:Trp} (hx:V.troops[i]? =some x):(i=k∧x=u)∨(i≠k∧W.troops[i]? =some x):=by
 rw [hV] at hx
 by_cases hk:k=i
 ·subst hk
  rw [List.getElem?_set_self (List.getElem?_eq_some_iff.1 ht).1] at hx
  exact .inl ⟨rfl,(Option.some.inj hx).symm⟩
 ·rw [List.getElem?_set_ne hk] at hx
  exact .inr ⟨Ne.symm hk,hx⟩
theorem Good.turned {W V:Wd} (h:Good W) {k:Nat} {t:Trp} {n:Int} (ht:W.troops[k]? =some t) (hV:V.troops=W.troops.set k (Wd.addLoad t n)) (hl:0≤t.load+n∧t.load+n≤Wd.mostOf t.kind)
  (hf:V.field=W.field) (hb:V.bases=W.bases) (hn:V.next=W.next) (hw:V.now=W.now)
  (hsl:V.stocks.length=W.stocks.length) (hs:∀ (i:Nat) s,V.stocks[i]? =some s→0≤s∧s≤1000000)
  (hml:V.mines.length=W.mines.length) (hm:∀ (i:Nat) m,V.mines[i]? =some m→0≤m∧m≤1000000∧(m≤0∨W.field.places.getD i 0=3)):Good V:=by
 have h1:=h.troops k t ht
 have hlen:V.troops.length=W.troops.length:=by rw [hV,List.length_set]
 refine ⟨by rw [hf];exact h.field,by rw [hb];exact h.nb,by rw [hlen];exact h.nt,by rw [hsl,hb];exact h.sl, ?_,hs,by rw [hml,hf];exact h.ml,by rw [hf];exact hm,λ i x hx=> ?_,λ i x hx=> ?_,λ i x hx=> ?_,by rw [hn];exact h.next,by rw [hw];exact h.now⟩
 ·rw [hb,hf];exact h.bases
 ·rw [hf,hb]
  rcases at_set hV ht hx with ⟨rfl,rfl⟩ | ⟨_,hx⟩
  ·exact ⟨h1.kind,h1.owner,h1.ground,h1.life,hl⟩
  ·exact h.troops i x hx
 ·rw [last_set hV ht rfl,hn]
  rcases at_set hV ht hx with ⟨rfl,rfl⟩ | ⟨_,hx⟩
  ·exact h.ids i t ht
  ·exact h.ids i x hx
 ·rw [spots_set hV ht rfl]
  rcases at_set hV ht hx with ⟨rfl,rfl⟩ | ⟨_,hx⟩
  ·exact h.spots i t ht
  ·exact h.spots i x hx
theorem mine_some {W V:Wd} {d:Ded} (h:W.mine d=some V):∃ (k:Nat) (t:Trp),W.troops.findIdx? (isId d.who)=some k∧W.troops[k]? =some t∧t.id=d.who∧t.kind=1∧t.load<5∧beside t.spot d.spot=true∧W.field.isIn d.spot=true∧W.mines.getD (W.place d.spot) 0≠0∧
  V= {W with mines:=W.mines.set (W.place d.spot) (W.mines.getD (W.place d.spot) 0 - 1),troops:=W.troops.set k (Wd.addLoad t 1)}:=by
 unfold Wd.mine at h
 cases hf:W.troops.findIdx? (isId d.who) with
 | none=>rw [hf] at h;cases h
 | some k =>
  rw [hf] at h
  obtain ⟨t,ht,hid,hg⟩:=findId hf
  simp only [hg] at h
  split at h
  ·rename_i hc
   simp only [Bool.and_eq_true,decide_eq_true_eq,bne_iff_ne,beq_iff_eq] at hc
   exact ⟨k,t,rfl,ht,hid,hc.1.1.1.1,hc.1.1.1.2,hc.1.1.2,hc.1.2,hc.2,(Option.some.inj h).symm⟩
  ·cases h
theorem drop_some {W V:Wd} {d:Ded} (h:W.drop d=some V):∃ (k:Nat) (t:Trp) (n:Int),W.troops.findIdx? (isId d.who)=some k∧W.troops[k]? =some t∧t.id=d.who∧t.load≠0∧beside (W.bases.getD t.owner.toNat default) t.spot=true∧n=min t.load (1000000 - W.stocks.getD t.owner.toNat 0)∧0<n∧
  V= {W with stocks:=W.stocks.set t.owner.toNat (W.stocks.getD t.owner.toNat 0+n),troops:=W.troops.set k (Wd.addLoad t (-n))}:=by
 unfold Wd.drop at h
 cases hf:W.troops.findIdx? (isId d.who) with
 | none=>rw [hf] at h;cases h
 | some k =>
  rw [hf] at h
  obtain ⟨t,ht,hid,hg⟩:=findId hf
  simp only [hg] at h
  split at h
  ·rename_i hc
   simp only [Bool.and_eq_true,decide_eq_true_eq,bne_iff_ne] at hc
   exact ⟨k,t,_,rfl,ht,hid,hc.1.1,hc.1.2,rfl,hc.2,(Option.some.inj h).symm⟩
  ·cases h
theorem hire_some {W V:Wd} {d:Ded} (h:W.hire d=some V):∃ c:Cel,W.free (W.bases.getD d.who.toNat default)=some c∧0≤d.who∧d.who<(W.bases.length:Int)∧(d.what=1∨d.what=2)∧Wd.priceOf d.what≤W.stocks.getD d.who.toNat 0∧W.troops.length<100∧W.next<1000000∧
  V= {W with troops:=W.troops++ [⟨W.next,d.who,d.what,c,Wd.lifeOf d.what,0⟩],next:=W.next+1,stocks:=W.stocks.set d.who.toNat (W.stocks.getD d.who.toNat 0 - Wd.priceOf d.what)}:=by
 unfold Wd.hire at h
 simp only at h
 split at h
 ·rename_i hc
  simp only [Bool.and_eq_true,decide_eq_true_eq] at hc
  have a:=inB_true hc.1.1.1.1
  have b:=inB_true hc.1.1.1.2
  split at h
  ·cases h
  ·rename_i c hfr
   exact ⟨c,hfr,a.1,by omega,by omega,hc.1.1.2,hc.1.2,hc.2,(Option.some.inj h).symm⟩
 ·cases h
theorem price_pos (k:Int):0≤Wd.priceOf k:=by unfold Wd.priceOf;split<;>(try split)<;>omega
theorem Good.mine {W V:Wd} {d:Ded} (h:Good W) (hd:W.mine d=some V):Good V:=by
 obtain ⟨k,t,_,ht,_,hk,hl,_,hin,hm0,rfl⟩:=mine_some hd
 have h1:=h.troops k t ht
 have hmo:Wd.mostOf t.kind=5:=by rw [hk];rfl
 obtain ⟨i1,i2,_⟩:=Fld.idx h.field hin
 have hlt:W.place d.spot<W.mines.length:=by rw [h.ml];unfold Wd.place;omega
 obtain ⟨m,hm⟩:=get_of hlt
 have h2:=h.mines _ m hm
 have hg:W.mines.getD (W.place d.spot) 0=m:=by rw [List.getD_eq_getElem?_getD,hm];rfl
 rw [hg] at hm0 ⊢
 refine h.turned ht rfl (by have:=h1.load;omega) rfl rfl rfl rfl rfl h.stocks (by simp) λ i x hx=> ?_
 simp only at hx
 by_cases hi:W.place d.spot=i
 ·subst hi
  rw [List.getElem?_set_self hlt] at hx
  obtain rfl:=Option.some.inj hx
  refine ⟨by omega,by omega, ?_⟩
  rcases h2.2.2 with h3 | h3
  ·omega
  ·exact .inr h3
 ·rw [List.getElem?_set_ne hi] at hx
  exact h.mines i x hx
theorem Good.drop {W V:Wd} {d:Ded} (h:Good W) (hd:W.drop d=some V):Good V:=by
 obtain ⟨k,t,n,_,ht,_,hl,_,hn,hn0,rfl⟩:=drop_some hd
 have h1:=h.troops k t ht
 have hlt:t.owner.toNat<W.stocks.length:=by rw [h.sl];have:=h1.owner;omega
 obtain ⟨s,hs⟩:=get_of hlt
 have h2:=h.stocks _ s hs
 have hg:W.stocks.getD t.owner.toNat 0=s:=by rw [List.getD_eq_getElem?_getD,hs];rfl
 rw [hg] at hn ⊢
 refine h.turned ht rfl (by have:=h1.load;omega) rfl rfl rfl rfl (by simp) (λ i x hx=> ?_) rfl h.mines
 simp only at hx
 by_cases hi:t.owner.toNat=i
 ·subst hi
  rw [List.getElem?_set_self hlt] at hx
  obtain rfl:=Option.some.inj hx
  omega
 ·rw [List.getElem?_set_ne hi] at hx
  exact h.stocks i x hx
theorem Good.hire {W V:Wd} {d:Ded} (h:Good W) (hd:W.hire d=some V):Good V:=by
 obtain ⟨c,hfr,hw0,hw1,hk,hp,hnt,hnx,rfl⟩:=hire_some hd
 have hop:=List.find?_some hfr
 unfold Wd.openTo at hop
 rw [Bool.and_eq_true] at hop
 have hany:∀ t∈W.troops,t.spot≠c:=λ t ht he=>by
  have:=hop.2
  rw [Bool.not_eq_true',List.any_eq_false] at this
  exact this t ht (by simp [isAt,he])
 have hlt:d.who.toNat<W.stocks.length:=by rw [h.sl];omega
 obtain ⟨s,hs⟩:=get_of hlt
 have h2:=h.stocks _ s hs
 have hg:W.stocks.getD d.who.toNat 0=s:=by rw [List.getD_eq_getElem?_getD,hs];rfl
 rw [hg] at hp ⊢
 have hpp:=price_pos d.what
 have hn:=h.next
 have hsp:∀ i,i≤W.troops.length→Wd.spots {W with troops:=W.troops++ [⟨W.next,d.who,d.what,c,Wd.lifeOf d.what,0⟩],next:=W.next+1,stocks:=W.stocks.set d.who.toNat (s - Wd.priceOf d.what)} i=W.spots i:=λ i hi=>by
  unfold Wd.spots
  simp only
  rw [List.take_append_of_le_length hi]
 have hla:∀ i,i≤W.troops.length→Wd.lastId {W with troops:=W.troops++ [⟨W.next,d.who,d.what,c,Wd.lifeOf d.what,0⟩],next:=W.next+1,stocks:=W.stocks.set d.who.toNat (s - Wd.priceOf d.what)} i=W.lastId i:=λ i hi=>by
  unfold Wd.lastId
  simp only
  by_cases h0:i=0
  ·rw [if_pos h0,if_pos h0]
  ·rw [if_neg h0,if_neg h0,List.getD_eq_getElem?_getD,List.getD_eq_getElem?_getD,List.getElem?_append_left (by omega)]
 have hat:∀ (i:Nat) x,(W.troops++ [(⟨W.next,d.who,d.what,c,Wd.lifeOf d.what,0⟩:Trp)])[i]? =some x→(i<W.troops.length∧W.troops[i]? =some x)∨(i=W.troops.length∧x=⟨W.next,d.who,d.what,c,Wd.lifeOf d.what,0⟩):=λ i x hx=>by
  by_cases hi:i<W.troops.length
  ·rw [List.getElem?_append_left hi] at hx;exact .inl ⟨hi,hx⟩
  ·rw [List.getElem?_append_right (by omega)] at hx
   have h0:i - W.troops.length=0:=by
    have:=(List.getElem?_eq_some_iff.1 hx).1
    simp at this;omega
   rw [h0] at hx
   exact .inr ⟨by omega,by simpa using hx.symm⟩
 have hlast:W.lastId W.troops.length<W.next∧0≤W.lastId W.troops.length:=by
  by_cases h0:W.troops.length=0
  ·rw [h0];exact ⟨by show (0:Int)<_;omega,Int.le_refl _⟩
  ·obtain ⟨t,ht⟩:=get_of (l:=W.troops) (i:=W.troops.length - 1) (by omega)
   have h4:=h.ids _ t ht
   have e:W.lastId W.troops.length=t.id:=by
    unfold Wd.lastId
    rw [if_neg h0,List.getD_eq_getElem?_getD,ht];rfl
   rw [e];omega
 refine ⟨h.field,h.nb,by simp;omega,by simp;exact h.sl,h.bases,λ i x hx=> ?_,h.ml,h.mines,λ i x hx=> ?_,λ i x hx=> ?_,λ i x hx=> ?_,by simp only;omega,h.now⟩
 ·simp only at hx
  by_cases hi:d.who.toNat=i
  ·subst hi
   rw [List.getElem?_set_self hlt] at hx
   obtain rfl:=Option.some.inj hx
   omega
  ·rw [List.getElem?_set_ne hi] at hx
   exact h.stocks i x hx
 ·rcases hat i x hx with ⟨_,hx⟩ | ⟨_,rfl⟩
  ·exact h.troops i x hx
  ·exact ⟨hk,⟨hw0,hw1⟩,hop.1,by simp only;rcases hk with h | h<;>rw [h]<;>decide,by simp only;rcases hk with h | h<;>rw [h]<;>decide⟩
 ·rcases hat i x hx with ⟨hi,hx⟩ | ⟨rfl,rfl⟩
  ·rw [hla i (by omega)]
   have:=h.ids i x hx
   simp only;omega
  ·rw [hla _ (Nat.le_refl _)]
   simp only;omega
 ·rcases hat i x hx with ⟨hi,hx⟩ | ⟨rfl,rfl⟩
  ·rw [hsp i (by omega)];exact h.spots i x hx
  ·rw [hsp _ (Nat.le_refl _)]
   simp only
   cases hc:(W.spots W.troops.length).contains c with
   | false=>rfl
   | true =>
    rw [List.contains_iff_mem] at hc
    unfold Wd.spots at hc
    obtain ⟨t,ht,he⟩:=List.mem_map.1 hc
    exact absurd he (hany t (List.mem_of_mem_take ht))
theorem Good.deed {W V:Wd} {d:Ded} (h:Good W) (hd:W.deed d=some V):Good V:=by
 unfold Wd.deed at hd
 split at hd
 ·exact h.mine hd
 ·split at hd
  ·exact h.drop hd
  ·split at hd
   ·exact h.hire hd
   ·cases hd
theorem Good.deeds {W:Wd} (h:Good W):∀ l:List Ded,Good (W.deeds l).1:=by
 intro l
 induction l generalizing W with
 | nil=>exact h
 | cons d l ih =>
  unfold Wd.deeds
  cases hd:W.deed d with
  | none=>exact ih h
  | some V=>exact ih (h.deed hd)
end
section
open Go.RowKit
structure Shop (w:World) (Z S:Nat) (a:Wd.At) (W:Wd):Prop where
 blk:Blk w S (Wd.cells a W) 176 (0,0)
 own:WOwn w Z a W
 far:S∉WOwn.foot a
 low:Z≤S
theorem Shop.later {w w':World} {Z S:Nat} {a:Wd.At} {W:Wd} (h:Shop w Z S a W) (hb:Below w.heap.size w w'):Shop w' Z S a W:=⟨h.blk.later hb,h.own.later hb,h.far,h.low⟩
theorem beside_any (a b:Cel) (w:World) (h1:0≤a.x) (h2:a.x≤40) (h3:0≤a.y) (h4:a.y≤40):
  Calls Tryz.prog 169 #[.agg #[.int .i64 a.x, .int .i64 a.y], .agg #[.int .i64 b.x, .int .i64 b.y]] w λ e w'=>e= .returned (.bool (beside a b))∧Below w.heap.size w w':=by
 have hb0:=below_alloc0 w (.cells #[.int .i64 a.x, .int .i64 a.y] 49)
 have hb1:=below_alloc0 (w.alloc (.cells #[.int .i64 a.x, .int .i64 a.y] 49)) (.cells #[.int .i64 b.x, .int .i64 b.y] 49)
 have hb:=hb0.trans (hb1.mono hb0.size)
 unfold beside
 clear hb0 hb1
 rcases Int.lt_or_le b.x (a.x - 1) with c1 | c1
 ·rw [inB_not (.inl c1)]
  have d1:decide (a.x - 1≤b.x)=false:=by simp;omega
  go_enter Tryz.func169,Tryz.ntmps169
  go_wp2
  go_ret
  exact ⟨rfl,hb⟩
 ·have d1:decide (a.x - 1≤b.x)=true:=by simp;omega
  rcases Int.lt_or_le (a.x+1) b.x with c2 | c2
  ·rw [inB_not (n:=b.x) (.inr c2)]
   have d2:decide (b.x≤a.x+1)=false:=by simp;omega
   go_enter Tryz.func169,Tryz.ntmps169
   go_wp2
   go_ret
   exact ⟨ret_bool (by simp<;>omega),hb⟩
  ·have d2:decide (b.x≤a.x+1)=true:=by simp;omega
   rw [inB_mk (n:=b.x) c1 c2]
   rcases Int.lt_or_le b.y (a.y - 1) with c3 | c3
   ·rw [inB_not (.inl c3)]
    have d3:decide (a.y - 1≤b.y)=false:=by simp;omega
    go_enter Tryz.func169,Tryz.ntmps169
    go_wp2
    go_ret
    exact ⟨ret_bool (by simp<;>omega),hb⟩
   ·have d3:decide (a.y - 1≤b.y)=true:=by simp;omega
    rcases Int.lt_or_le (a.y+1) b.y with c4 | c4
    ·rw [inB_not (n:=b.y) (.inr c4)]
     have d4:decide (b.y≤a.y+1)=false:=by simp;omega
     go_enter Tryz.func169,Tryz.ntmps169
     go_wp2
     go_ret
     exact ⟨ret_bool (by simp<;>omega),hb⟩
    ·have d4:decide (b.y≤a.y+1)=true:=by simp;omega
     rw [inB_mk (n:=b.y) c3 c4]
     go_enter Tryz.func169,Tryz.ntmps169
     go_wp2
     go_ret
     exact ⟨ret_bool (by simp<;>omega),hb⟩
theorem troop1 (t:Trp) (id:Int) (g:Nat) (w:World) (hg:w.cell? ⟨g,0,none⟩=some (.int .i64 id)):
  Calls Tryz.prog 201 #[.agg #[.int .i64 t.id, .int .i64 t.owner, .int .i64 t.kind, .int .i64 t.spot.x, .int .i64 t.spot.y, .int .i64 t.life, .int .i64 t.load], .pointer (some ⟨g,0,none⟩)] w λ e w'=>e= .returned (.bool (isId id t))∧Below w.heap.size w w':=by
 have hb:=below_alloc0 w (.cells #[.int .i64 t.id, .int .i64 t.owner, .int .i64 t.kind, .int .i64 t.spot.x, .int .i64 t.spot.y, .int .i64 t.life, .int .i64 t.load] 66)
 have hlt:=World.block_lt_of_cell? w _ hg
 simp only at hlt
 go_enter Tryz.func201,Tryz.ntmps201
 go_wp2_with fail
 go_ret
 exact ⟨rfl,hb⟩
theorem idx_tid (id:Int) (g:Nat) (A:Option Addr) (c:Nat) (l:List Trp) (w:World) (hl:Trp.rep.SHas 56 w A c l) (hg:w.cell? ⟨g,0,none⟩=some (.int .i64 id)):
  Calls Tryz.prog 200 #[.slice A l.length c, .func (.func 201) #[] #[.pointer (some ⟨g,0,none⟩)]] w λ e w'=>e= .returned (.int .i64 (idxI (isId id) l))∧Below w.heap.size w w':=by
 obtain ⟨n,hn⟩:∃ n,l.length=n:=⟨_,rfl⟩
 have hle:n≤9223372036854775807:=by have:=hl.1;have:=hl.2.1;omega
 rw [hn]
 have HL:=Lib.hid hl
 have HN:=Lib.hid hn
 clear hl hn
 go_enter Tryz.func200,Tryz.ntmps200
 go_wp2_with fail
 go_loopw [5,8] (λ _ iv wr=>∃ k:Nat,k≤n∧iv= .int .i64 (k:Int)∧Hid (∀ j (hj:j<k) (hj2:j<l.length),(isId id) l[j]=false)∧Below w.heap.size w wr) (λ _ iv _=>n - (intOf iv).toNat)
 case atStart=>exact ⟨0,Nat.zero_le _,rfl,(λ j hj=>by omega),Below.refl _ _⟩
 case round =>
  obtain ⟨k,hk,rfl,HK,hb⟩:=hrel
  by_cases hlt:k<n
  ·have hkl:k<l.length:=by rw [HN.out];exact hlt
   obtain ⟨b,o,rfl,hcell⟩:=Trp.at_ (HL.out.keep hb) (by omega)
   obtain ⟨x,hxe⟩:∃ x,l[k]'hkl=x:=⟨_,rfl⟩
   obtain ⟨q0,q1,q2,q3,q4,q5,q6⟩:=hcell k x (by rw [List.getElem?_eq_getElem hkl,hxe])
   have HXE:=Lib.hid hxe
   have hg':wr.cell? ⟨g,0,none⟩=some (.int .i64 id):=cell_later hb hg
   have hc:=troop1 x id g wr hg'
   clear hcell hxe
   cases hbad:(isId id) x with
   | true =>
    have hres:idxI (isId id) l=(k:Int):=idxI_some hkl (by rw [HXE.out];exact hbad) λ j hj=>HK.out j hj (by omega)
    rw [hbad] at hc
    have HRES:=Lib.hid hres
    clear hres hbad
    go_wp2_with (go_at_call 201;refine hc.mono ?_;rintro e w' ⟨rfl,hb2⟩)
    go_ret
    exact ⟨by rw [HRES.out];rfl,hb.trans (hb2.mono hb.size)⟩
   | false =>
    rw [hbad] at hc
    have HK2:Hid (∀ j (hj:j<k+1) (hj2:j<l.length),(isId id) l[j]=false):=by
     intro j hj hj2
     by_cases h:j<k
     ·exact HK.out j h hj2
     ·obtain rfl:j=k:=by omega
      rw [HXE.out];exact hbad
    clear hbad
    go_wp2_with (go_at_call 201;refine hc.mono ?_;rintro e w' ⟨rfl,hb2⟩)
    go_roundw
    case rel=>exact ⟨k+1,by omega,by go_num,HK2,hb.trans (hb2.mono hb.size)⟩
    case measure=>simp [intOf];omega
  ·have hres:idxI (isId id) l= -1:=idxI_none λ j hj=>HK.out j (by have:=HN.out;omega) hj
   have HRES:=Lib.hid hres
   clear hres
   go_wp2_with fail
   go_ret
   exact ⟨by rw [HRES.out];rfl,hb⟩
def trAt (a:Wd.At) (k:Nat):Option Addr:=a.T.map λ x=>⟨x.block,k * 7,none⟩
def trOf (a:Wd.At) (W:Wd) (id:Int):Option Addr:=match W.troops.findIdx? (isId id) with | none=>none | some k=>trAt a k
theorem shopTroop (id:Int) (w:World) (Z S:Nat) (a:Wd.At) (W:Wd) (h:Shop w Z S a W):
  Calls Tryz.prog 168 #[.pointer (some ⟨S,0,none⟩), .int .i64 id] w λ e w'=>e= .returned (.pointer (trOf a W id))∧Below w.heap.size w w':=by
 obtain ⟨aP,aB,aS,aM,aT,kP,kB,kS,kM,kT⟩:=a
 have hb0:=below_alloc0 w (.cells #[.int .i64 id] 3)
 have hI:=Blk.new w [.int .i64 id] 3 (0,0)
 obtain ⟨w0,HW0⟩:∃ w0,Hid (w.alloc (.cells #[.int .i64 id] 3)=w0):=⟨_,Lib.hid rfl⟩
 rw [HW0.out] at hb0
 have hI:Blk w0 w.heap.size [.int .i64 id] 3 (0,0):=by rw [← HW0.out];exact hI
 have h0:=h.later hb0
 obtain ⟨nt,HNT⟩:∃ n,Hid (W.troops.length=n):=⟨_,Lib.hid rfl⟩
 have HIX:=Lib.hid (idx_tid id w.heap.size aT kT W.troops w0 h0.own.T.has (hI.cell 0))
 have hSlt:=h.blk.lt
 obtain ⟨c0,c1,c2,c3,c4,c5,c6,c7,c8⟩:=Wd.wblk h0.blk
 have HB:=Lib.hid h0.blk
 have hT:Trp.rep.SOwn 66 56 w0 Z (Rep.blkOf aT) aT kT W.troops:=h0.own.T
 obtain ⟨b0,b1,b2,b3,b4,b5,b6,b7,b8⟩:=Wd.wblk h.blk
 rw [HNT.out] at HIX c6 b6
 unfold trOf
 cases hf:W.troops.findIdx? (isId id) with
 | none =>
  have hi:idxI (isId id) W.troops= -1:=by unfold idxI;rw [hf]
  rw [hi] at HIX
  clear hf hi h h0 hT hI
  go_enter Tryz.func168,Tryz.ntmps168
  go_wp2_with fail
  rw [HW0.out]
  refine HIX.out.mono ?_;rintro e w2 ⟨rfl,hb2⟩
  go_wp2_with fail
  go_ret
  exact ⟨rfl,hb0.trans (hb2.mono hb0.size)⟩
 | some k =>
  have hi:idxI (isId id) W.troops=(k:Int):=by unfold idxI;rw [hf]
  rw [hi] at HIX
  obtain ⟨t,ht,_⟩:=findId hf
  have hk:k<nt:=by rw [← HNT.out];exact (List.getElem?_eq_some_iff.1 ht).1
  obtain ⟨g,rfl⟩:=hT.block (by rw [HNT.out];omega)
  have hki:(k:Int)<(nt:Int):=by omega
  have hk0:(0:Int)≤(k:Int):=by omega
  have hkm:nt≤9223372036854775807:=by have:=hT.has.len_le;rw [HNT.out] at this;exact this
  clear hf hi h h0 hT hI ht
  go_enter Tryz.func168,Tryz.ntmps168
  go_wp2_with fail
  rw [HW0.out]
  refine HIX.out.mono ?_;rintro e w2 ⟨rfl,hb2⟩
  have d6:=cell_later hb2 c6
  clear c0 c1 c2 c3 c4 c5 c6 c7 c8
  go_wp2_with fail
  go_ret
  exact ⟨by simp [trAt],hb0.trans (hb2.mono hb0.size)⟩
end
section
open Go.RowKit
def DeedPost (W:Wd) (V:Option Wd) (w:World) (Z S:Nat) (e:Ending) (w':World):Prop :=
 ∃ a',e= .returned (.bool V.isSome)∧Shop w' Z S a' (V.getD W)∧Below Z w w'
def MinePost (W:Wd) (d:Ded) (w:World) (Z S:Nat) (a:Wd.At) (e:Ending) (w':World):Prop :=
 ∃ V,e= .returned (.bool (W.mine d).isSome)∧(W.mine d).getD W=V∧Shop w' Z S a V∧Below Z w w'
theorem mine_eq {W:Wd} {d:Ded} {k:Nat} {t:Trp} (hf:W.troops.findIdx? (isId d.who)=some k) (ht:W.troops[k]? =some t):
  W.mine d=if t.kind == 1 && decide (t.load<5) && beside t.spot d.spot && W.field.isIn d.spot && W.mines.getD (W.place d.spot) 0 != 0 then
   some {W with mines:=W.mines.set (W.place d.spot) (W.mines.getD (W.place d.spot) 0 - 1),troops:=W.troops.set k (Wd.addLoad t 1)} else none:=by
 have hg:W.troops.getD k default=t:=by rw [List.getD_eq_getElem?_getD,ht];rfl
 unfold Wd.mine
 rw [hf]
 simp only [hg]
end
section
open Go.RowKit
def ShopPost (W:Wd) (V:Option Wd) (w:World) (Z S:Nat) (a:Wd.At) (e:Ending) (w':World):Prop :=
 ∃ a',e= .returned (.bool V.isSome)∧Shop w' Z S a' (V.getD W)∧(∀ q∈WOwn.foot a',q∈WOwn.foot a∨w.heap.size≤q)∧Mod (S::WOwn.foot a) w w'
theorem WOwn.setM {w w1:World} {Z:Nat} {a:Wd.At} {W:Wd} {l:List Int} (h:WOwn w Z a W) (m:Mod (Rep.blkOf a.M) w w1) (hM:repI.SOwn 3 8 w1 Z (Rep.blkOf a.M) a.M a.m l):WOwn w1 Z a {W with mines:=l}:=by
 obtain ⟨d1,d2,d3⟩:=h.disj
 exact ⟨h.P.mod m λ x hx hs=>(d1 x hs).1 hx,h.B.mod m λ x hx hs=>(d1 x hs).2.1 hx,h.S.mod m λ x hx hs=>(d1 x hs).2.2.1 hx,hM,h.T.mod m λ x hx hs=>(d1 x hs).2.2.2 hx,h.apart,h.nums⟩
theorem WOwn.setT {w w1:World} {Z:Nat} {a:Wd.At} {W:Wd} {l:List Trp} (h:WOwn w Z a W) (m:Mod (Rep.blkOf a.T) w w1) (hT:Trp.rep.SOwn 66 56 w1 Z (Rep.blkOf a.T) a.T a.t l):WOwn w1 Z a {W with troops:=l}:=by
 obtain ⟨d1,d2,d3⟩:=h.disj
 exact ⟨h.P.mod m λ x hx hs=>(d2 x hs).1 hx,h.B.mod m λ x hx hs=>(d2 x hs).2.1 hx,h.S.mod m λ x hx hs=>(d2 x hs).2.2.1 hx,h.M.mod m λ x hx hs=>(d2 x hs).2.2.2 hx,hT,h.apart,h.nums⟩
theorem trOf_some {w:World} {Z:Nat} {a:Wd.At} {W:Wd} {id:Int} {k:Nat} (h:WOwn w Z a W) (hf:W.troops.findIdx? (isId id)=some k):trOf a W id=some ⟨bA a.T,oA a.T+k * 7,none⟩:=by
 obtain ⟨t,ht,_⟩:=findId hf
 have hT:Trp.rep.SOwn 66 56 w Z (Rep.blkOf a.T) a.T a.t W.troops:=h.T
 obtain ⟨g,hg⟩:=hT.block (by have:=(List.getElem?_eq_some_iff.1 ht).1;omega)
 unfold trOf trAt
 rw [hf,hg]
 simp [bA,oA]
theorem trOf_none {a:Wd.At} {W:Wd} {id:Int} (hf:W.troops.findIdx? (isId id)=none):trOf a W id=none:=by unfold trOf;rw [hf]
theorem mine_none {W:Wd} {d:Ded} (hf:W.troops.findIdx? (isId d.who)=none):W.mine d=none:=by unfold Wd.mine;rw [hf]
theorem mine_no {W:Wd} {d:Ded} {k:Nat} {t:Trp} (hf:W.troops.findIdx? (isId d.who)=some k) (ht:W.troops[k]? =some t) (h:((t.kind != 1 || decide (5≤t.load)) || !beside t.spot d.spot)=true):W.mine d=none:=by
 rw [mine_eq hf ht,if_neg]
 intro hc
 simp only [Bool.and_eq_true,decide_eq_true_eq,beq_iff_eq] at hc
 simp only [hc.1.1.2,hc.1.1.1.1,Bool.or_eq_true,bne_self_eq_false,decide_eq_true_eq,Bool.not_true,Bool.false_eq_true,or_false,false_or] at h
 omega
theorem mine_out {W:Wd} {d:Ded} {k:Nat} {t:Trp} (hf:W.troops.findIdx? (isId d.who)=some k) (ht:W.troops[k]? =some t) (hF:W.field.chk=0) (h:¬ W.field.atE d.spot=0):W.mine d=none:=by
 rw [mine_eq hf ht,if_neg]
 intro hc
 simp only [Bool.and_eq_true] at hc
 exact h (Fld.at_in hF hc.1.2).1
theorem mine_zero {W:Wd} {d:Ded} {k:Nat} {t:Trp} {m:Int} (hf:W.troops.findIdx? (isId d.who)=some k) (ht:W.troops[k]? =some t) (hm:W.mines.getD (W.place d.spot) 0=m) (h:m=0):W.mine d=none:=by
 rw [mine_eq hf ht,hm,h,if_neg (by simp)]
theorem mine_done {W:Wd} {d:Ded} {k:Nat} {t:Trp} {m:Int} (hf:W.troops.findIdx? (isId d.who)=some k) (ht:W.troops[k]? =some t) (hk:t.kind=1) (hl:t.load<5) (hb:beside t.spot d.spot=true) (hin:W.field.isIn d.spot=true) (hm:W.mines.getD (W.place d.spot) 0=m) (h:¬ m=0):
  W.mine d=some {W with mines:=W.mines.set (W.place d.spot) (m - 1),troops:=W.troops.set k (Wd.addLoad t 1)}:=by
 rw [mine_eq hf ht,hm,if_pos]
 simp [hk,hl,hb,hin,h]
theorem mine2_none (d:Ded) (w:World) (Z S:Nat) (a:Wd.At) (W:Wd) (h:Shop w Z S a W) (hG:Good W) (hf:W.troops.findIdx? (isId d.who)=none):
  Calls Tryz.prog 138 #[.pointer (some ⟨S,0,none⟩), .agg #[.int .i64 d.kind, .int .i64 d.who, .int .i64 d.spot.x, .int .i64 d.spot.y, .int .i64 d.what]] w (ShopPost W (W.mine d) w Z S a):=by
 have hsl:=hG.sl
 have hml:=hG.ml
 have hlow:=h.low
 have hZ:Z≤w.heap.size:=by have:=h.low;have:=h.blk.lt;omega
 have hfar:=h.far
 have q0:=h.blk.lt
 have BS:=h.blk
 have HO:=h.own
 have dS:∀ q∈WOwn.foot a,q=S→False:=λ q hq hb=>hfar (hb ▸ hq)
 have u_1:=λ q hq=>(HO.lt q hq).2
 have htr:=trOf_none (a:=a) hf
 refine calls_W (n:=88) Tryz.func138 rfl rfl rfl ?_
 refine sg<|bx rfl rfl rfl rfl λ w_2 b_3 x_4 l_5 B_6=> ?_
 have:=x_4.size
 have z_2:=(Mod.rf (S::WOwn.foot a) w).trans (Mod.of_ext x_4)
 have q_8:=B_6.lt
 refine va rfl<|nK<|sg<|vm rfl<|vL (fa eF106 rfl)<|vL (ld rfl (B_6.one eF1 rfl))<| ?_
 have BS:=BS.later x_4
 have HO:=HO.later x_4
 refine ca eF107 rfl rfl (((htr ▸ shopTroop d.who _ Z S a W ⟨BS,HO,hfar,hlow⟩)).mono ?_)
 rintro e w_9 ⟨rfl,x_10⟩
 refine ⟨_,rfl, ?_⟩
 have:=x_10.size
 have z_9:=z_2.trans (Mod.of_ext x_10)
 refine va rfl<|nK<|sq<|sq<| ?_
 refine rd [(6,0),(13,0),(20,0),(22,0),(23,0)] [0,1,2,3,4,5,6,7,8,9,10,11,12,13,14,15,16,17,18,19,20,21,22,23,24,25] (by kernel_rfl) (by kernel_rfl) ?_
 refine fw1 rfl (λ _=>mv rfl)<|fw1 rfl (λ _=>bpN Tryz.underlying227 rfl rfl)<|fw1 rfl (λ _=>mv rfl)<|fW (v:=undef) rfl rfl rfl rfl rfl rfl (λ hc=>nomatch hc) rfl<|fW (v:=undef) rfl rfl rfl rfl rfl rfl (λ hc=>nomatch hc) rfl<|fW (v:=undef) rfl rfl rfl rfl rfl rfl (λ hc=>nomatch hc) rfl<|fQ (v:=undef) rfl rfl rfl rfl rfl rfl (λ hc=>nomatch hc) rfl<|fW (v:=undef) rfl rfl rfl rfl rfl rfl (λ hc=>nomatch hc) rfl<|fw1 rfl (λ _=>pkT rfl rfl)<|fw1 rfl (λ _=>mv rfl)<|fW (v:=undef) rfl rfl rfl rfl rfl rfl (λ hc=>nomatch hc) rfl<|fW (v:=undef) rfl rfl rfl rfl rfl rfl (λ hc=>nomatch hc) rfl<|fW (v:=undef) rfl rfl rfl rfl rfl rfl (λ hc=>nomatch hc) rfl<|fQ (v:=undef) rfl rfl rfl rfl rfl rfl (λ hc=>nomatch hc) rfl<|fW (v:=undef) rfl rfl rfl rfl rfl rfl (λ hc=>nomatch hc) rfl<|fw1 rfl (λ _=>pkT rfl rfl)<|fw1 rfl (λ _=>mv rfl)<|fW (v:=undef) rfl rfl rfl rfl rfl rfl (λ hc=>nomatch hc) rfl<|fW (v:=undef) rfl rfl rfl rfl rfl rfl (λ hc=>nomatch hc) rfl<|fW (v:=undef) rfl rfl rfl rfl rfl rfl (λ hc=>nomatch hc) rfl<|fQ (v:=undef) rfl rfl rfl rfl rfl rfl (λ hc=>nomatch hc) rfl<|fW (v:=undef) rfl rfl rfl rfl rfl rfl (λ hc=>nomatch hc) rfl<|fQ (v:=undef) rfl rfl rfl rfl rfl rfl (λ hc=>nomatch hc) rfl<|fC (v:=undef) (args:= []) rfl rfl rfl rfl rfl rfl eF108 (λ hc=>nomatch hc) (λ hc=>nomatch hc) rfl<| ?_
 refine fW (v:=undef) rfl rfl rfl rfl rfl rfl (λ hc=>nomatch hc) rfl<|fw1 rfl (λ _=>pkT rfl rfl)<|fn λ w_12 x_13=> ?_
 have:=x_13.size
 have z_12:=z_9.trans (Mod.of_ext x_13)
 refine nT<|cT rfl<|sg<|va rfl<|nK<|rt<|tT<|tR (.tmp rfl .nil)<| ?_
 have HO:=HO.later (eT x_10 x_13)
 have BS:=BS.later (eT x_10 x_13)
 exact ⟨a,by rw [mine_none hf];rfl,by rw [mine_none hf];exact ⟨BS,HO,hfar,hlow⟩,λ q hq=> .inl hq,z_12⟩
theorem mine2 (d:Ded) (w:World) (Z S:Nat) (a:Wd.At) (W:Wd) (h:Shop w Z S a W) (hG:Good W) (k:Nat) (t:Trp) (hf:W.troops.findIdx? (isId d.who)=some k) (ht:W.troops[k]? =some t):
  Calls Tryz.prog 138 #[.pointer (some ⟨S,0,none⟩), .agg #[.int .i64 d.kind, .int .i64 d.who, .int .i64 d.spot.x, .int .i64 d.spot.y, .int .i64 d.what]] w (ShopPost W (W.mine d) w Z S a):=by
 have hsl:=hG.sl
 have hml:=hG.ml
 have hlow:=h.low
 have hZ:Z≤w.heap.size:=by have:=h.low;have:=h.blk.lt;omega
 have hfar:=h.far
 have q0:=h.blk.lt
 have BS:=h.blk
 have HO:=h.own
 have dS:∀ q∈WOwn.foot a,q=S→False:=λ q hq hb=>hfar (hb ▸ hq)
 have u_1:=λ q hq=>(HO.lt q hq).2
 have htr:=trOf_some HO hf
 have hT:=hG.troops k t ht
 obtain ⟨i1,i2,i3,i4,i5,i6⟩:=Fld.idx hG.field (Fld.ground_in hT.ground)
 obtain ⟨y1,y2,y3,y4,_,_⟩:=Fld.good hG.field
 have hb1:0≤t.spot.x:=by omega
 have hb2:t.spot.x≤40:=by omega
 have hb3:0≤t.spot.y:=by omega
 have hb4:t.spot.y≤40:=by omega
 have hld:=hT.load
 refine calls_W (n:=88) Tryz.func138 rfl rfl rfl ?_
 refine sg<|bx rfl rfl rfl rfl λ w_2 b_3 x_4 l_5 B_6=> ?_
 have:=x_4.size
 have z_2:=(Mod.rf (S::WOwn.foot a) w).trans (Mod.of_ext x_4)
 have q_8:=B_6.lt
 refine va rfl<|nK<|sg<|vm rfl<|vL (fa eF106 rfl)<|vL (ld rfl (B_6.one eF1 rfl))<| ?_
 have BS:=BS.later x_4
 have HO:=HO.later x_4
 refine ca eF107 rfl rfl (((htr ▸ shopTroop d.who _ Z S a W ⟨BS,HO,hfar,hlow⟩)).mono ?_)
 rintro e w_9 ⟨rfl,x_10⟩
 refine ⟨_,rfl, ?_⟩
 have:=x_10.size
 have z_9:=z_2.trans (Mod.of_ext x_10)
 refine va rfl<|nK<|sq<|sq<| ?_
 refine rd [(6,0),(13,0),(20,0),(22,0),(23,0)] [0,1,2,3,4,5,6,7,8,9,10,11,12,13,14,15,16,17,18,19,20,21,22,23,24,25] (by kernel_rfl) (by kernel_rfl) ?_
 refine fw1 rfl (λ _=>mv rfl)<|fw1 rfl (λ _=>bpN Tryz.underlying227 rfl rfl)<|fw1 rfl (λ _=>mv rfl)<|fW rfl rfl rfl rfl rfl rfl (λ hc _=>mv rfl) rfl<|fW rfl rfl rfl rfl rfl rfl (λ hc _=>nc rfl) rfl<|fW rfl rfl rfl rfl rfl rfl (λ hc _=>fa eF52 rfl) rfl<| ?_
 have HO:=HO.later x_10
 refine fQ rfl rfl rfl rfl rfl rfl (λ hc _ x=>ld rfl (Rep.SHas.fld hcT (by rw [← (HO.later x).T.has.adr (zl k (by have:=(List.getElem?_eq_some_iff.1 ht).1;exact this))];exact (HO.later x).T.has) 2 ht rfl eF1)) rfl<|fW rfl rfl rfl rfl rfl rfl (λ hc _=>bne rfl rfl) rfl<|fw1 rfl (λ _=>pkF rfl rfl)<|fw1 rfl (λ _=>mv rfl)<|fW rfl rfl rfl rfl rfl rfl (λ hc _=>mv rfl) rfl<|fW rfl rfl rfl rfl rfl rfl (λ hc _=>nc (gt hc rfl)) rfl<|fW rfl rfl rfl rfl rfl rfl (λ hc _=>fa eF109 (gt hc rfl)) rfl<|fQ rfl rfl rfl rfl rfl rfl (λ hc _ x=>ld (gt hc rfl) (Rep.SHas.fld hcT (by rw [← (HO.later x).T.has.adr (zl k (by have:=(List.getElem?_eq_some_iff.1 ht).1;exact this))];exact (HO.later x).T.has) 6 ht rfl eF1)) rfl<|fW rfl rfl rfl rfl rfl rfl (λ hc _=>bge (gt hc rfl) rfl) rfl<|fw1 rfl (λ _=>pO rfl rfl rfl rfl)<|fw1 rfl (λ _=>mv rfl)<|fW rfl rfl rfl rfl rfl rfl (λ hc _=>mv rfl) rfl<|fW rfl rfl rfl rfl rfl rfl (λ hc _=>nc (gt hc rfl)) rfl<|fW rfl rfl rfl rfl rfl rfl (λ hc _=>fa eF56 (gt hc rfl)) rfl<|fQ rfl rfl rfl rfl rfl rfl (λ hc _ x=>ld (gt hc rfl) (Rep.SHas.part hcT (by rw [← (HO.later x).T.has.adr (zl k (by have:=(List.getElem?_eq_some_iff.1 ht).1;exact this))];exact (HO.later x).T.has) 3 (ds:= [.int .i64 t.spot.x, .int .i64 t.spot.y]) ht rfl eF3 eF4)) rfl<|fW rfl rfl rfl rfl rfl rfl (λ hc _=>fa eF110 rfl) rfl<| ?_
 have B_6:=B_6.later x_10
 refine fQ rfl rfl rfl rfl rfl rfl (λ hc _ x=>ld (gt hc rfl) ((B_6.later x).par [.int .i64 d.spot.x, .int .i64 d.spot.y] eF3 eF4 rfl)) rfl<|fC rfl rfl rfl rfl rfl rfl eF108 (λ hc=>ec (gt hc rfl) (ec (gt hc rfl) rfl)) (λ hc _ x=>beside_any t.spot d.spot _ hb1 hb2 hb3 hb4) rfl<|fW rfl rfl rfl rfl rfl rfl (λ hc _=>nt (gt hc rfl)) rfl<|fw1 rfl (λ _=>pO rfl rfl rfl rfl)<|fn λ w_12 x_13=> ?_
 have:=x_13.size
 have z_12:=z_9.trans (Mod.of_ext x_13)
 refine nT<| ?_
 refine cb rfl (λ h_15=> ?_) (λ h_15=> ?_)
 ·refine sg<|va rfl<|nK<|rt<|tT<|tR (.tmp rfl .nil)<| ?_
  have HO:=HO.later x_13
  have BS:=BS.later (eT x_10 x_13)
  exact ⟨a,by rw [mine_no hf ht h_15];rfl,by rw [mine_no hf ht h_15];exact ⟨BS,HO,hfar,hlow⟩,λ q hq=> .inl hq,z_12⟩
 ·simp only [Bool.or_eq_false_iff,bne_eq_false_iff_eq,decide_eq_false_iff_not,Bool.not_eq_false',Int.not_le] at h_15
  obtain ⟨⟨hk,hl⟩,hbe⟩:=h_15
  refine sK<|sq<|sq<| ?_
  refine rd [(4,0),(6,0),(7,0)] [0,1,2,3,4,5,6,7,8,9,10,11,12] (by kernel_rfl) (by kernel_rfl) ?_
  refine fw1 rfl (λ _=>mv rfl)<|fw1 rfl (λ _=>nc rfl)<|fw1 rfl (λ _=>fa eF111 rfl)<|fw1 rfl (λ _=>fa eF59 rfl)<| ?_
  have BS:=BS.later (eT x_10 x_13)
  refine fq1 rfl (λ _ x=>ld rfl ((BS.later x).par [.int .i64 W.field.wide, .int .i64 W.field.high, .slice a.P W.field.places.length a.p] eF23 eF24 rfl))<|fw1 rfl (λ _=>fa eF110 rfl)<| ?_
  have B_6:=B_6.later x_13
  refine fq1 rfl (λ _ x=>ld rfl ((B_6.later x).par [.int .i64 d.spot.x, .int .i64 d.spot.y] eF3 eF4 rfl))<| ?_
  have HO:=HO.later x_13
  refine fc rfl rfl eF25 rfl (λ _ x=>fldAt2 W.field d.spot a.P a.p _ ((HO.later x).P).has) rfl<|fw1 rfl (λ _=>mv rfl)<|fw1 rfl (λ _=>ex rfl rfl)<|fw1 rfl (λ _=>ex rfl rfl)<|fw1 rfl (λ _=>as_ rfl)<|fw1 rfl (λ _=>as_ rfl)<|fn λ w_16 x_17=> ?_
  have:=x_17.size
  have z_16:=z_12.trans (Mod.of_ext x_17)
  refine nT<|sg<|vm rfl<|vL (bne rfl rfl)<|nK<| ?_
  refine cne rfl (λ h_19=> ?_) (λ h_19=> ?_)
  ·refine sg<|va rfl<|nK<|rt<|tT<|tR (.tmp rfl .nil)<| ?_
   have HO:=HO.later x_17
   have BS:=BS.later x_17
   exact ⟨a,by rw [mine_out hf ht hG.field h_19];rfl,by rw [mine_out hf ht hG.field h_19];exact ⟨BS,HO,hfar,hlow⟩,λ q hq=> .inl hq,z_16⟩
  ·have hin:=atE_zero hG.field h_19
   obtain ⟨x1,x2,x3,x4,x5,x6⟩:=Fld.idx hG.field hin
   have hpl:=Fld.len_le hG.field
   obtain ⟨y1,y2,y3,y4,_,_⟩:=Fld.good hG.field
   have z1:0≤d.spot.y * W.field.wide:=Int.mul_nonneg x5 (by omega)
   have z2:d.spot.y * W.field.wide≤1600:=by omega
   have hpm:W.place d.spot<W.mines.length:=by unfold Wd.place;omega
   obtain ⟨m,hm⟩:=get_of hpm
   have hmr:=hG.mines _ m hm
   have hmg:W.mines.getD (W.place d.spot) 0=m:=by rw [List.getD_eq_getElem?_getD,hm];rfl
   refine sK<|sq<| ?_
   refine rd [(4,0),(7,0),(13,0),(17,0)] [0,1,2,3,4,5,6,7,8,9,10,11,12,13,14,15,16,17,18,19,20] (by kernel_rfl) (by kernel_rfl) ?_
   refine fw1 rfl (λ _=>mv rfl)<|fw1 rfl (λ _=>nc rfl)<|fw1 rfl (λ _=>fa eF111 rfl)<|fw1 rfl (λ _=>fa eF88 rfl)<| ?_
   have BS:=BS.later x_17
   refine fq1 rfl (λ _ x=>ld rfl ((BS.later x).one eF36 rfl))<|fw1 rfl (λ _=>fa eF110 rfl)<|fw1 rfl (λ _=>fa eF2 rfl)<| ?_
   have B_6:=B_6.later x_17
   refine fq1 rfl (λ _ x=>ld rfl ((B_6.later x).one eF1 rfl))<|fw1 rfl (λ _=>mv rfl)<|fw1 rfl (λ _=>nc rfl)<|fw1 rfl (λ _=>fa eF111 rfl)<|fw1 rfl (λ _=>fa eF59 rfl)<|fw1 rfl (λ _=>fa eF22 rfl)<|fq1 rfl (λ _ x=>ld rfl ((BS.later x).one eF1 rfl))<|fw1 rfl (λ _=>bmu rfl rfl (inI (by omega)))<|fw1 rfl (λ _=>fa eF110 rfl)<|fw1 rfl (λ _=>fa eF0 rfl)<|fq1 rfl (λ _ x=>ld rfl ((B_6.later x).one eF1 rfl))<|fw1 rfl (λ _=>bad rfl rfl (inI (by omega)))<| ?_
   have HO:=HO.later x_17
   refine fw1 rfl (λ _=>iA (((d.spot.y * W.field.wide)+d.spot.x).toNat) Tryz.underlying22 eF7 rfl rfl (HO.M.has.adr (zl (((d.spot.y * W.field.wide)+d.spot.x).toNat) (show (d.spot.y * W.field.wide+d.spot.x).toNat<W.mines.length by omega))) (by omega) (show (d.spot.y * W.field.wide+d.spot.x).toNat<W.mines.length by omega))<|fw1 rfl (λ _=>as_ rfl)<|fn λ w_20 x_21=> ?_
   have:=x_21.size
   have z_20:=z_16.trans (Mod.of_ext x_21)
   refine nT<|sq<|sg<|vm rfl<|vL (nc rfl)<| ?_
   have HO:=HO.later x_21
   refine vL (ld rfl (Rep.SHas.one' hcI (by rw [← HO.M.has.adr (zl (((d.spot.y * W.field.wide)+d.spot.x).toNat) (show (d.spot.y * W.field.wide+d.spot.x).toNat<W.mines.length by omega))];exact HO.M.has) hm rfl eF1))<|vL (beq rfl rfl)<|nK<| ?_
   refine ceq rfl (λ h_23=> ?_) (λ h_23=> ?_)
   ·refine sg<|va rfl<|nK<|rt<|tT<|tR (.tmp rfl .nil)<| ?_
    have BS:=BS.later x_21
    exact ⟨a,by rw [mine_zero hf ht hmg h_23];rfl,by rw [mine_zero hf ht hmg h_23];exact ⟨BS,HO,hfar,hlow⟩,λ q hq=> .inl hq,z_20⟩
   ·refine sK<|sg<|vm rfl<|vL (nc rfl)<|vL (ld rfl (Rep.SHas.one' hcI (by rw [← HO.M.has.adr (zl (((d.spot.y * W.field.wide)+d.spot.x).toNat) (show (d.spot.y * W.field.wide+d.spot.x).toNat<W.mines.length by omega))];exact HO.M.has) hm rfl eF1))<|vL (bsu rfl rfl (inI (by omega)))<|vL (nc rfl)<|so (q':=m - 1) (j:=0) (i:=((d.spot.y * W.field.wide)+d.spot.x).toNat) HO.M Rep.flat_bare hm rfl rfl rfl rfl (λ _ cs h=>by have ok_:=(show _∧_ from h).2;obtain rfl:=hcI h;exact ⟨rfl,okI_iff.2 (by omega)⟩) rfl rfl eF7 λ w_24 m_25 O_26=> ?_
    have BS:=BS.later x_21
    have B_6:=B_6.later x_21
    have:=m_25.size
    have z_24:=z_20.md m_25 (λ q hq=> .inl (List.mem_cons_of_mem _ (foot_M hq)))
    have HO_28:=HO.setM m_25 O_26
    have u_29:=λ q hq=>(HO_28.lt q hq).2
    have d_30:∀ q∈Rep.blkOf a.M,q=S→False:=λ q hq hb=>by (exact dS q (foot_M hq) hb)
    have BS:=BS.mod m_25 (λ hq=>d_30 _ hq rfl)
    refine nK<|sg<|vm rfl<|vL (nc rfl)<|vL (fa eF109 rfl)<|vL (ld rfl (Rep.SHas.fld hcT (by rw [← HO_28.T.has.adr (zl k (by have:=(List.getElem?_eq_some_iff.1 ht).1;exact this))];exact HO_28.T.has) 6 ht rfl eF1))<|vL (bad rfl rfl (inI (by omega)))<|vL (nc rfl)<|vL (fa eF109 rfl)<|so (q':=Wd.addLoad t 1) (j:=6) (i:=k) HO_28.T Rep.flat_bare ht rfl rfl rfl rfl (λ _ cs h=>by have ok_:=(show _∧_ from h).2;obtain rfl:=hcT h;exact ⟨rfl,by obtain ⟨o1,o2,o3,o4,o5,o6,o7⟩:=ok_;exact ⟨o1,o2,o3,o4,o5,o6,okI_iff.2 (by show _≤t.load+1∧t.load+1≤_;omega)⟩⟩) rfl rfl eF7 λ w_31 m_32 O_33=> ?_
    have d_34:∀ q∈Rep.blkOf a.M,q=b_3→False:=λ q hq hb=>by (have:=u_1 q (foot_M hq);omega)
    have B_6:=B_6.mod m_25 (λ hq=>d_34 _ hq rfl)
    have:=m_32.size
    have z_31:=z_24.md m_32 (λ q hq=> .inl (List.mem_cons_of_mem _ (foot_T hq)))
    have HO_36:=HO_28.setT m_32 O_33
    have u_37:=λ q hq=>(HO_36.lt q hq).2
    have d_38:∀ q∈Rep.blkOf a.T,q=S→False:=λ q hq hb=>by (exact dS q (foot_T hq) hb)
    have BS:=BS.mod m_32 (λ hq=>d_38 _ hq rfl)
    refine nK<|sg<|va rfl<|nK<|rt<|tR (.tmp rfl .nil)<| ?_
    rw [mine_done hf ht hk hl hbe hin hmg (by assumption)]
    exact ⟨a,rfl,⟨by simpa [Wd.cells] using BS,HO_36,hfar,hlow⟩,λ q hq=> .inl hq,z_31⟩
end
section
open Go.RowKit
def DropPost (W:Wd) (d:Ded) (w:World) (Z S:Nat) (a:Wd.At) (e:Ending) (w':World):Prop :=
 ∃ V,e= .returned (.bool (W.drop d).isSome)∧(W.drop d).getD W=V∧Shop w' Z S a V∧Below Z w w'
theorem drop_eq {W:Wd} {d:Ded} {k:Nat} {t:Trp} {b:Cel} {s:Int} (hf:W.troops.findIdx? (isId d.who)=some k) (ht:W.troops[k]? =some t) (hb:W.bases[t.owner.toNat]? =some b) (hs:W.stocks[t.owner.toNat]? =some s):
  W.drop d=if t.load != 0 && beside b t.spot && decide (0<min t.load (1000000 - s)) then
   some {W with stocks:=W.stocks.set t.owner.toNat (s+min t.load (1000000 - s)),troops:=W.troops.set k (Wd.addLoad t (-(min t.load (1000000 - s))))} else none:=by
 have hg:W.troops.getD k default=t:=by rw [List.getD_eq_getElem?_getD,ht];rfl
 have hg2:W.bases.getD t.owner.toNat default=b:=by rw [List.getD_eq_getElem?_getD,hb];rfl
 have hg3:W.stocks.getD t.owner.toNat 0=s:=by rw [List.getD_eq_getElem?_getD,hs];rfl
 unfold Wd.drop
 rw [hf]
 simp only [hg,hg2,hg3]
theorem set_same {α:Type} {l:List α} {i:Nat} {x:α} (h:l[i]? =some x):l.set i x=l:=by
 apply List.ext_getElem?
 intro j
 by_cases e:i=j
 ·subst e
  rw [List.getElem?_set_self (List.getElem?_eq_some_iff.1 h).1,h]
 ·rw [List.getElem?_set_ne e]
end
end Go.Proofs.YtlikikpgmmkjbaaGreat
