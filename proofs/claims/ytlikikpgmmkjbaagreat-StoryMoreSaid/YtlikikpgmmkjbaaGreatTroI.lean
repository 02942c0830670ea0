import Derived.Test.YtlikikpgmmkjbaaGreatGra
import Derived.Test.YtlikikpgmmkjbaaGreatBlw
import Derived.Test.YtlikikpgmmkjbaaGreatHitG
import Derived.Test.YtlikikpgmmkjbaaGreatEqI
import Derived.Test.YtlikikpgmmkjbaaGreatCelK
set_option linter.unusedVariables false
set_option linter.unusedSimpArgs false
set_option maxRecDepth 100000
set_option maxHeartbeats 4000000
namespace Go.Proofs.YtlikikpgmmkjbaaGreat
section
open Go.RowKit
theorem HitS_el_S_api_Troop:ElT Tryz.prog Trp.rep 26 66 56:=ElT.mk_ (z:=Trp.zero) (k:=7) Tryz.underlying26 Trp.info rfl rfl (by decide) Trp.zero_raw
theorem HitS_el_S_int:ElT Tryz.prog repI 22 3 8:=ElT.mk_ (z:= .int .i64 0) (k:=1) Tryz.underlying22 info_int rfl rfl (by decide) (λ j u h=>raw0I j u h)
def hurt (T:List Trp) (h:List Int) (i:Nat):Trp:= {T.getD i default with life:=(T.getD i default).life - h.getD i 0}
def leftL (T:List Trp) (h:List Int) (k:Nat):List Trp:=((List.range k).map (hurt T h)).filter λ t=>decide (0<t.life)
def goneL (T:List Trp) (h:List Int) (k:Nat):List Int:=(((List.range k).map (hurt T h)).filter λ t=> !decide (0<t.life)).map Trp.id
theorem left_succ_yes {T:List Trp} {h:List Int} {k:Nat} (hp:0<(T.getD k default).life - h.getD k 0):leftL T h (k+1)=leftL T h k++ [hurt T h k]:=by
 unfold leftL
 rw [List.range_succ,List.map_append,List.filter_append,List.map_cons,List.map_nil,List.filter_cons,if_pos (show decide (0<(hurt T h k).life)=true from decide_eq_true hp)]
 rfl
theorem left_succ_no {T:List Trp} {h:List Int} {k:Nat} (hp:¬ 0<(T.getD k default).life - h.getD k 0):leftL T h (k+1)=leftL T h k:=by
 unfold leftL
 rw [List.range_succ,List.map_append,List.filter_append,List.map_cons,List.map_nil,List.filter_cons,if_neg (show ¬ decide (0<(hurt T h k).life)=true from λ e=>hp (of_decide_eq_true e))]
 simp
theorem gone_succ_yes {T:List Trp} {h:List Int} {k:Nat} (hp:0<(T.getD k default).life - h.getD k 0):goneL T h (k+1)=goneL T h k:=by
 unfold goneL
 rw [List.range_succ,List.map_append,List.filter_append,List.map_cons,List.map_nil,List.filter_cons,if_neg (show ¬ (!decide (0<(hurt T h k).life))=true from by rw [decide_eq_true (show 0<(hurt T h k).life from hp)];decide)]
 simp
theorem gone_succ_no {T:List Trp} {h:List Int} {k:Nat} (hp:¬ 0<(T.getD k default).life - h.getD k 0):goneL T h (k+1)=goneL T h k++ [(T.getD k default).id]:=by
 unfold goneL
 rw [List.range_succ,List.map_append,List.filter_append,List.map_cons,List.map_nil,List.filter_cons,if_pos (show (!decide (0<(hurt T h k).life))=true from by rw [decide_eq_false (show ¬ 0<(hurt T h k).life from hp)];rfl),List.map_append]
 rfl
theorem left_len (T:List Trp) (h:List Int) (k:Nat):(leftL T h k).length≤k:=by unfold leftL;exact Nat.le_trans (List.length_filter_le _ _) (by simp)
theorem gone_len (T:List Trp) (h:List Int) (k:Nat):(goneL T h k).length≤k:=by unfold goneL;rw [List.length_map];exact Nat.le_trans (List.length_filter_le _ _) (by simp)
theorem blowE_ok {W:Wd} {l:List Blw} (h:blowE W l=0):W.chk=0∧l.length≤200:=by
 unfold blowE at h
 split at h
 ·contradiction
 ·rename_i hc
  split at h
  ·exact nomatch h
  ·exact ⟨by simpa using hc,by omega⟩
theorem harm_of {W:Wd} {l:List Blw} (h:blowE W l=0):(harmW W l).length=W.troops.length∧∀ k,0≤(harmW W l).getD k 0∧(harmW W l).getD k 0≤800:=by
 obtain ⟨h1,h2,h3⟩:=blows_bd W l
 have h4:=(blowE_ok h).2
 have e:harmW W l=(blows W l).2:=by unfold harmW;rw [h];rfl
 rw [e]
 exact ⟨h2,λ k=>by have:=h3 k;omega⟩
theorem trp_ok {w:World} {A:Option Addr} {c:Nat} {T:List Trp} (h:Trp.rep.SHas 56 w A c T) (k:Nat):(T.getD k default).ok:=by
 rw [List.getD_eq_getElem?_getD]
 cases ht:T[k]? with
 | none=>exact ⟨by decide,by decide,by decide,by decide,by decide,by decide,by decide⟩
 | some t=>exact Rep.SHas.all_ (Q:=Trp.ok) (λ h=>And.right (show _∧_ from h)) h t (List.mem_of_getElem? ht)
theorem Good.lifeD {W:Wd} (hG:Good W) {k:Nat} (hk:k<W.troops.length):1≤(W.troops.getD k default).life∧(W.troops.getD k default).life≤20:=by
 obtain ⟨t,ht⟩:=get_of hk
 have e:W.troops.getD k default=t:=by rw [List.getD_eq_getElem?_getD,ht];rfl
 rw [e]
 have h1:=hG.troops k t ht
 have h2:Wd.lifeOf t.kind≤20:=by unfold Wd.lifeOf;split<;>(try split)<;>omega
 have:=h1.life
 omega
def struckW (W:Wd) (l:List Blw):Wd:=if blowE W l≠0 then Wd.zero else {W with troops:=leftL W.troops (harmW W l) W.troops.length}
def struckG (W:Wd) (l:List Blw):List Int:=if blowE W l≠0 then [] else goneL W.troops (harmW W l) W.troops.length
def StruckPost (W:Wd) (l:List Blw) (w:World) (e:Ending) (w':World):Prop :=
 ∃ a' A c,e= .returned (.tuple #[.agg (Wd.cells a' (struckW W l)).toArray, .slice A (struckG W l).length c, .int .i64 (blowE W l)])∧WOwn w' w.heap.size a' (struckW W l)∧repI.SOwn 3 8 w' w.heap.size (Rep.blkOf A) A c (struckG W l)∧(∀ q∈Rep.blkOf A,q∉WOwn.foot a')∧Ext w w'
theorem struck_no {W:Wd} {l:List Blw} (h:¬ blowE W l=0):struckW W l=Wd.zero∧struckG W l= []:=by unfold struckW struckG;rw [if_pos h,if_pos h];exact ⟨rfl,rfl⟩
theorem struck_ok {W:Wd} {l:List Blw} {k:Nat} (h:blowE W l=0) (hk:k=W.troops.length):struckW W l= {W with troops:=leftL W.troops (harmW W l) k}∧struckG W l=goneL W.troops (harmW W l) k:=by
 subst hk;unfold struckW struckG;rw [if_neg (by simpa using h),if_neg (by simpa using h)];exact ⟨rfl,rfl⟩
theorem hown_any (a:Wd.At) (W:Wd) (w:World) (hW:Wd.Has w a W):
  Calls Tryz.prog 96 #[.agg ((Wd.cells a W).toArray)] w (λ e w'=>∃ a':Wd.At,e= .returned (.agg (Wd.cells a' W).toArray)∧WOwn w' w.heap.size a' W∧Ext w w'):=by
 refine calls_W (n:=26) Tryz.func96 rfl rfl rfl ?_
 refine sg<|bx rfl rfl rfl rfl λ w_1 b_2 x_3 l_4 B_5=> ?_
 have:=x_3.size
 have z_1:=eT (Ext.rf w) x_3
 have q_7:=B_5.lt
 refine al rfl eF80 rfl rfl λ w_8 b_9 x_10 l_11 B_12=> ?_
 have:=x_10.size
 have z_8:=eT z_1 x_10
 have q_14:=B_12.lt
 refine nK<|sg<|vL (fa eF59 rfl)<|vL (fa eF45 rfl)<| ?_
 have B_5:=B_5.later x_10
 refine vL (ld rfl (B_5.one eF36 rfl))<|ca eF81 rfl rfl ((clone_I _ _ W.field.places _ (hW.P.keep z_8)).mono ?_)
 rintro e w_18 ⟨A_15,c_15,rfl,OC_15,hn_15,x_19⟩
 refine ⟨_,rfl, ?_⟩
 have:=x_19.size
 have z_18:=eT z_8 x_19
 have u_16:=λ q hq=>(OC_15.lt q hq).2
 have lo_17:=λ q hq=>(OC_15.lt q hq).1
 refine vL (fa eF59 rfl)<|vL (fa eF45 rfl)<| ?_
 have B_5:=B_5.later x_19
 refine st (new:= [.int .i64 W.field.wide, .int .i64 W.field.high, .slice A_15 ((W.field.places).length) c_15, .slice a.B W.bases.length a.b, .slice a.S W.stocks.length a.s, .slice a.M W.mines.length a.m, .slice a.T W.troops.length a.t, .int .i64 W.next, .int .i64 W.now]) rfl rfl B_5 rfl eF82 rfl rfl rfl λ w_21 m_22 B_5=> ?_
 have:=m_22.size
 have z_21:=Ext.mod z_18 m_22 (ge1 (by omega))
 have:=m_22.size
 refine nK<|sq<| ?_
 refine rd [(1,0),(2,2),(4,0),(5,2),(7,3),(9,3)] [0,1,3,4,2,6,5,7,8,9] (by kernel_rfl) (by kernel_rfl) ?_
 refine fw1 rfl (λ _=>fa eF83 rfl)<|fq1 rfl (λ _ x=>ld rfl ((B_5.later x).one eF84 rfl))<|fw1 rfl (λ _=>fa eF85 rfl)<|fq1 rfl (λ _ x=>ld rfl ((B_5.later x).one eF36 rfl))<|fx rfl rfl rfl λ w_25 x_26 Q hK=>ca eF86 rfl rfl ((clone_C _ _ W.bases _ (hW.B.keep (eT z_21 x_26))).mono ?_)
 rintro e w_30 ⟨A_27,c_27,rfl,OC_27,hn_27,x_31⟩
 refine ⟨_,rfl,hK _ _ ⟨eT x_26 x_31, ?_⟩⟩
 have:=x_26.size
 have z_25:=eT z_21 x_26
 have:=x_31.size
 have z_30:=eT z_25 x_31
 have u_28:=λ q hq=>(OC_27.lt q hq).2
 have lo_29:=λ q hq=>(OC_27.lt q hq).1
 refine fw1 rfl (λ _=>fa eF83 rfl)<|fx rfl rfl rfl λ w_34 x_35 Q hK=>ca eF81 rfl rfl ((clone_I _ _ W.stocks _ (hW.S.keep (eT z_30 x_35))).mono ?_)
 rintro e w_39 ⟨A_36,c_36,rfl,OC_36,hn_36,x_40⟩
 refine ⟨_,rfl,hK _ _ ⟨eT x_35 x_40, ?_⟩⟩
 have:=x_35.size
 have z_34:=eT z_30 x_35
 have:=x_40.size
 have z_39:=eT z_34 x_40
 have u_37:=λ q hq=>(OC_36.lt q hq).2
 have lo_38:=λ q hq=>(OC_36.lt q hq).1
 have B_5:=B_5.later (eT x_26 (eT x_31 (eT x_35 x_40)))
 refine fb rfl rfl rfl λ w_43 x_44 Q hK=>st (new:= [.int .i64 W.field.wide, .int .i64 W.field.high, .slice A_15 ((W.field.places).length) c_15, .slice A_27 ((W.bases).length) c_27, .slice a.S W.stocks.length a.s, .slice a.M W.mines.length a.m, .slice a.T W.troops.length a.t, .int .i64 W.next, .int .i64 W.now]) rfl rfl (B_5.later x_44) rfl eF87 rfl rfl rfl λ w_45 m_46 B_5=>hK _ _ ?_
 have:=x_44.size
 have z_43:=eT z_39 x_44
 have:=m_46.size
 have z_45:=Ext.mod z_43 m_46 (ge1 (by omega))
 have:=m_46.size
 refine fw1 rfl (λ _=>fa eF85 rfl)<|fb rfl rfl rfl λ w_50 x_51 Q hK=>st (new:= [.int .i64 W.field.wide, .int .i64 W.field.high, .slice A_15 ((W.field.places).length) c_15, .slice A_27 ((W.bases).length) c_27, .slice A_36 ((W.stocks).length) c_36, .slice a.M W.mines.length a.m, .slice a.T W.troops.length a.t, .int .i64 W.next, .int .i64 W.now]) rfl rfl (B_5.later x_51) rfl eF82 rfl rfl rfl λ w_52 m_53 B_5=>hK _ _ ?_
 have:=x_51.size
 have z_50:=eT z_45 x_51
 have:=m_53.size
 have z_52:=Ext.mod z_50 m_53 (ge1 (by omega))
 have:=m_53.size
 refine fn λ w_57 x_58=> ?_
 have:=x_58.size
 have z_57:=eT z_52 x_58
 refine nT<|sq<| ?_
 refine rd [(1,0),(2,2),(4,0),(5,2),(7,3),(9,3)] [0,1,3,4,2,6,5,7,8,9] (by kernel_rfl) (by kernel_rfl) ?_
 refine fw1 rfl (λ _=>fa eF88 rfl)<| ?_
 have B_5:=B_5.later x_58
 refine fq1 rfl (λ _ x=>ld rfl ((B_5.later x).one eF36 rfl))<|fw1 rfl (λ _=>fa eF64 rfl)<|fq1 rfl (λ _ x=>ld rfl ((B_5.later x).one eF65 rfl))<|fx rfl rfl rfl λ w_60 x_61 Q hK=>ca eF81 rfl rfl ((clone_I _ _ W.mines _ (hW.M.keep (eT z_57 x_61))).mono ?_)
 rintro e w_65 ⟨A_62,c_62,rfl,OC_62,hn_62,x_66⟩
 refine ⟨_,rfl,hK _ _ ⟨eT x_61 x_66, ?_⟩⟩
 have:=x_61.size
 have z_60:=eT z_57 x_61
 have:=x_66.size
 have z_65:=eT z_60 x_66
 have u_63:=λ q hq=>(OC_62.lt q hq).2
 have lo_64:=λ q hq=>(OC_62.lt q hq).1
 refine fw1 rfl (λ _=>fa eF88 rfl)<|fx rfl rfl rfl λ w_69 x_70 Q hK=>ca eF89 rfl rfl ((clone_T _ _ W.troops _ (hW.T.keep (eT z_65 x_70))).mono ?_)
 rintro e w_74 ⟨A_71,c_71,rfl,OC_71,hn_71,x_75⟩
 refine ⟨_,rfl,hK _ _ ⟨eT x_70 x_75, ?_⟩⟩
 have:=x_70.size
 have z_69:=eT z_65 x_70
 have:=x_75.size
 have z_74:=eT z_69 x_75
 have u_72:=λ q hq=>(OC_71.lt q hq).2
 have lo_73:=λ q hq=>(OC_71.lt q hq).1
 have B_5:=B_5.later (eT x_61 (eT x_66 (eT x_70 x_75)))
 refine fb rfl rfl rfl λ w_78 x_79 Q hK=>st (new:= [.int .i64 W.field.wide, .int .i64 W.field.high, .slice A_15 ((W.field.places).length) c_15, .slice A_27 ((W.bases).length) c_27, .slice A_36 ((W.stocks).length) c_36, .slice A_62 ((W.mines).length) c_62, .slice a.T W.troops.length a.t, .int .i64 W.next, .int .i64 W.now]) rfl rfl (B_5.later x_79) rfl eF82 rfl rfl rfl λ w_80 m_81 B_5=>hK _ _ ?_
 have:=x_79.size
 have z_78:=eT z_74 x_79
 have:=m_81.size
 have z_80:=Ext.mod z_78 m_81 (ge1 (by omega))
 have:=m_81.size
 refine fw1 rfl (λ _=>fa eF64 rfl)<|fb rfl rfl rfl λ w_85 x_86 Q hK=>st (new:= [.int .i64 W.field.wide, .int .i64 W.field.high, .slice A_15 ((W.field.places).length) c_15, .slice A_27 ((W.bases).length) c_27, .slice A_36 ((W.stocks).length) c_36, .slice A_62 ((W.mines).length) c_62, .slice A_71 ((W.troops).length) c_71, .int .i64 W.next, .int .i64 W.now]) rfl rfl (B_5.later x_86) rfl eF90 rfl rfl rfl λ w_87 m_88 B_5=>hK _ _ ?_
 have:=x_86.size
 have z_85:=eT z_80 x_86
 have:=m_88.size
 have z_87:=Ext.mod z_85 m_88 (ge1 (by omega))
 have:=m_88.size
 refine fn λ w_92 x_93=> ?_
 have:=x_93.size
 have z_92:=eT z_87 x_93
 refine nT<|sg<| ?_
 have B_5:=B_5.later x_93
 refine vL (ld rfl (B_5.all eF61 eF62))<| ?_
 have B_12:=B_12.later x_19
 have B_12:=B_12.mod m_22 (nm1 (by omega))
 have B_12:=B_12.later (eT x_26 (eT x_31 (eT x_35 (eT x_40 x_44))))
 have B_12:=B_12.mod m_46 (nm1 (by omega))
 have B_12:=B_12.later x_51
 have B_12:=B_12.mod m_53 (nm1 (by omega))
 have B_12:=B_12.later (eT x_58 (eT x_61 (eT x_66 (eT x_70 (eT x_75 x_79)))))
 have B_12:=B_12.mod m_81 (nm1 (by omega))
 have B_12:=B_12.later x_86
 have B_12:=B_12.mod m_88 (nm1 (by omega))
 have B_12:=B_12.later x_93
 refine st (new:= [.int .i64 W.field.wide, .int .i64 W.field.high, .slice A_15 ((W.field.places).length) c_15, .slice A_27 ((W.bases).length) c_27, .slice A_36 ((W.stocks).length) c_36, .slice A_62 ((W.mines).length) c_62, .slice A_71 ((W.troops).length) c_71, .int .i64 W.next, .int .i64 W.now]) rfl rfl B_12 rfl eF62 rfl rfl rfl λ w_95 m_96 B_12=> ?_
 have:=m_96.size
 have z_95:=Ext.mod z_92 m_96 (ge1 (by omega))
 have:=m_96.size
 refine nK<|rt<|tR (.cell rfl (B_12.all eF61 eF62) .nil)<| ?_
 have OC_15:=OC_15.mod m_22 (fk2 lo_17 (by omega))
 have OC_15:=OC_15.later (eT x_26 (eT x_31 (eT x_35 (eT x_40 x_44))))
 have OC_15:=OC_15.mod m_46 (fk2 lo_17 (by omega))
 have OC_15:=OC_15.later x_51
 have OC_15:=OC_15.mod m_53 (fk2 lo_17 (by omega))
 have OC_15:=OC_15.later (eT x_58 (eT x_61 (eT x_66 (eT x_70 (eT x_75 x_79)))))
 have OC_15:=OC_15.mod m_81 (fk2 lo_17 (by omega))
 have OC_15:=OC_15.later x_86
 have OC_15:=OC_15.mod m_88 (fk2 lo_17 (by omega))
 have OC_15:=OC_15.later x_93
 have OC_15:=OC_15.mod m_96 (fk2 lo_17 (by omega))
 have OC_27:=OC_27.later (eT x_35 (eT x_40 x_44))
 have OC_27:=OC_27.mod m_46 (fk2 lo_29 (by omega))
 have OC_27:=OC_27.later x_51
 have OC_27:=OC_27.mod m_53 (fk2 lo_29 (by omega))
 have OC_27:=OC_27.later (eT x_58 (eT x_61 (eT x_66 (eT x_70 (eT x_75 x_79)))))
 have OC_27:=OC_27.mod m_81 (fk2 lo_29 (by omega))
 have OC_27:=OC_27.later x_86
 have OC_27:=OC_27.mod m_88 (fk2 lo_29 (by omega))
 have OC_27:=OC_27.later x_93
 have OC_27:=OC_27.mod m_96 (fk2 lo_29 (by omega))
 have OC_36:=OC_36.later x_44
 have OC_36:=OC_36.mod m_46 (fk2 lo_38 (by omega))
 have OC_36:=OC_36.later x_51
 have OC_36:=OC_36.mod m_53 (fk2 lo_38 (by omega))
 have OC_36:=OC_36.later (eT x_58 (eT x_61 (eT x_66 (eT x_70 (eT x_75 x_79)))))
 have OC_36:=OC_36.mod m_81 (fk2 lo_38 (by omega))
 have OC_36:=OC_36.later x_86
 have OC_36:=OC_36.mod m_88 (fk2 lo_38 (by omega))
 have OC_36:=OC_36.later x_93
 have OC_36:=OC_36.mod m_96 (fk2 lo_38 (by omega))
 have OC_62:=OC_62.later (eT x_70 (eT x_75 x_79))
 have OC_62:=OC_62.mod m_81 (fk2 lo_64 (by omega))
 have OC_62:=OC_62.later x_86
 have OC_62:=OC_62.mod m_88 (fk2 lo_64 (by omega))
 have OC_62:=OC_62.later x_93
 have OC_62:=OC_62.mod m_96 (fk2 lo_64 (by omega))
 have OC_71:=OC_71.later x_79
 have OC_71:=OC_71.mod m_81 (fk2 lo_73 (by omega))
 have OC_71:=OC_71.later x_86
 have OC_71:=OC_71.mod m_88 (fk2 lo_73 (by omega))
 have OC_71:=OC_71.later x_93
 have OC_71:=OC_71.mod m_96 (fk2 lo_73 (by omega))
 have hR:=WOwn.of5 (Z:=w.heap.size) (OC_15.down (by omega)) (OC_27.down (by omega)) (OC_36.down (by omega)) (OC_62.down (by omega)) (OC_71.down (by omega)) (λ q h1 h2=>by exfalso;(have:=lo_29 q h1;(have:=u_16 q h2;omega))) (λ q h1 h2=>by exfalso;(have:=lo_38 q h1;(have:=u_16 q h2;omega))) (λ q h1 h2=>by exfalso;(have:=lo_38 q h1;(have:=u_28 q h2;omega))) (λ q h1 h2=>by exfalso;(have:=lo_64 q h1;(have:=u_16 q h2;omega))) (λ q h1 h2=>by exfalso;(have:=lo_64 q h1;(have:=u_28 q h2;omega))) (λ q h1 h2=>by exfalso;(have:=lo_64 q h1;(have:=u_37 q h2;omega))) (λ q h1 h2=>by exfalso;(have:=lo_73 q h1;(have:=u_16 q h2;omega))) (λ q h1 h2=>by exfalso;(have:=lo_73 q h1;(have:=u_28 q h2;omega))) (λ q h1 h2=>by exfalso;(have:=lo_73 q h1;(have:=u_37 q h2;omega))) (λ q h1 h2=>by exfalso;(have:=lo_73 q h1;(have:=u_63 q h2;omega))) hW.nums
 exact ⟨⟨A_15,A_27,A_36,A_62,A_71,c_15,c_27,c_36,c_62,c_71⟩,rfl,hR,z_95⟩
theorem struck_any (l:List Blw) (A:Option Addr) (c:Nat) (a:Wd.At) (W:Wd) (w:World) (hW:Wd.Has w a W) (hl:Blw.rep.SHas 16 w A c l):
  Calls Tryz.prog 61 #[.agg ((Wd.cells a W).toArray), .slice A l.length c] w (StruckPost W l w):=by
 refine calls_W (n:=62) Tryz.func61 rfl rfl rfl ?_
 refine sg<|bx rfl rfl rfl rfl λ w_1 b_2 x_3 l_4 B_5=> ?_
 have:=x_3.size
 have z_1:=eT (Ext.rf w) x_3
 have q_7:=B_5.lt
 refine al rfl eF80 rfl rfl λ w_8 b_9 x_10 l_11 B_12=> ?_
 have:=x_10.size
 have z_8:=eT z_1 x_10
 have q_14:=B_12.lt
 refine va rfl<|va rfl<|nK<|sg<| ?_
 have B_5:=B_5.later x_10
 refine vL (ld rfl (B_5.all eF61 eF62))<|vm rfl<|ca eF91 rfl rfl ((blows_any a W l _ _ _ (hW.keep z_8) (hl.keep z_8)).mono ?_)
 rintro e w_18 ⟨A_15,c_15,rfl,OH_15,x_19⟩
 refine ⟨_,rfl, ?_⟩
 have:=x_19.size
 have z_18:=eT z_8 x_19
 have u_16:=λ q hq=>(OH_15.lt q hq).2
 have lo_17:=λ q hq=>(OH_15.lt q hq).1
 refine vm rfl<|vL (ex rfl rfl)<|vL (ex rfl rfl)<|va rfl<|va rfl<|nK<|sq<|sg<|vm rfl<|vL (bne rfl rfl)<|nK<| ?_
 refine cne rfl (λ h_21=> ?_) (λ h_21=> ?_)
 ·refine sg<|vL (v:= .agg #[.int .i64 0, .int .i64 0, .slice none 0 0, .slice none 0 0, .slice none 0 0, .slice none 0 0, .slice none 0 0, .int .i64 0, .int .i64 0]) (bd rfl (by kernel_rfl))<|vm rfl<| ?_
  have B_12:=B_12.later x_19
  refine st (new:= [.int .i64 0, .int .i64 0, .slice none 0 0, .slice none 0 0, .slice none 0 0, .slice none 0 0, .slice none 0 0, .int .i64 0, .int .i64 0]) rfl rfl B_12 rfl eF62 rfl rfl rfl λ w_22 m_23 B_12=> ?_
  have:=m_23.size
  have z_22:=Ext.mod z_18 m_23 (ge1 (by omega))
  have:=m_23.size
  refine va rfl<|va rfl<|nK<|rt<|tT<|tR (.cell rfl (B_12.all eF61 eF62) (.tmp rfl (.tmp rfl .nil)))<| ?_
  obtain ⟨e1,e2⟩:=struck_no h_21
  exact ⟨⟨none,none,none,none,none,0,0,0,0,0⟩,none,0,by rw [e1,e2];rfl,by rw [e1];exact WOwn.zero _ _,by rw [e2];exact Rep.SOwn.nil _,λ q hq=>by simp [Rep.blkOf] at hq,z_22⟩
 ·obtain ⟨hc,h200⟩:=blowE_ok h_21
  have hG:=Good.of_chk hc
  have hnt:=hG.nt
  obtain ⟨b1,b2⟩:=harm_of h_21
  have hok:=trp_ok hW.T
  have hlf:=λ k (hk:k<W.troops.length)=>hG.lifeD hk
  refine sK<|sg<| ?_
  have B_5:=B_5.later x_19
  refine vL (ld rfl (B_5.all eF61 eF62))<|ca eF92 rfl rfl ((hown_any a W _ (hW.keep z_18)).mono ?_)
  rintro e w_28 ⟨a1,rfl,HO,x_29⟩
  refine ⟨_,rfl, ?_⟩
  have:=x_29.size
  have z_28:=eT z_18 x_29
  have u_26:=λ q hq=>(HO.lt q hq).2
  have lo_27:=λ q hq=>(HO.lt q hq).1
  have B_5:=B_5.later x_29
  refine st rfl rfl B_5 rfl eF62 rfl rfl rfl λ w_31 m_32 B_5=> ?_
  have:=m_32.size
  have z_31:=Ext.mod z_28 m_32 (ge1 (by omega))
  have:=m_32.size
  refine nK<|sg<|va rfl<|nK<|sg<|vL (fa eF64 rfl)<|vL (ld rfl (B_5.one eF65 rfl))<|vL (ln Tryz.underlying26 rfl)<|mZ (R:=Trp.rep) (by_:=56) (B:=w.heap.size) (c:=W.troops.length) (zv:=Trp.zero) Rep.flat_plain Tryz.underlying26 Trp.info rfl (by decide) Trp.zero_raw rfl rfl rfl (by omega) (by omega) (by omega) λ w_35 b_36 x_37 l_38 O_39=> ?_
  have:=x_37.size
  have z_35:=eT z_31 x_37
  have u_41:=λ q hq=>(O_39.lt q hq).2
  have lo_42:∀ q∈Rep.blkOf (some ⟨b_36,0,none⟩),b_36≤q:=λ q hq=>Nat.le_of_eq (List.mem_singleton.1 hq).symm
  refine va rfl<|nK<|sq<|sg<|vL (fa eF64 rfl)<| ?_
  have B_5:=B_5.later x_37
  refine vL (ld rfl (B_5.one eF65 rfl))<|vL (ln Tryz.underlying26 rfl)<|vm rfl<|nK<|bk<| ?_
  have OH_15:=OH_15.later x_29
  have OH_15:=OH_15.mod m_32 (fk2 lo_17 (by omega))
  have OH_15:=OH_15.later x_37
  have HO:=HO.mod m_32 (fk2 lo_27 (by omega))
  have HO:=HO.later x_37
  have B_12:=B_12.later (eT x_19 x_29)
  have B_12:=B_12.mod m_32 (nm1 (by omega))
  have B_12:=B_12.later x_37
  refine lp (λ mI EI wI=>∃ k:Nat,∃ Al:Option Addr,∃ cl:Nat,∃ Ag:Option Addr,∃ cg:Nat,EI= [(2, .pointer (some ⟨b_2,0,none⟩)),(4, .pointer (some ⟨b_9,0,none⟩)),(5, .slice none 0 0),(6, .int .i64 0),(7, .slice A_15 ((harmW W l).length) c_15),(9, .slice Ag ((goneL W.troops (harmW W l) k).length) cg),(10, .slice Al ((leftL W.troops (harmW W l) k).length) cl),(30, .slice a1.T W.troops.length a1.t),(31, .int .i64 (W.troops.length:Int)),(32, .int .i64 (k:Int))]∧mI=W.troops.length - k∧Ext w wI∧Blk wI b_2 (Wd.cells a1 W) 28 (0,0)∧Blk wI b_9 [.int .i64 0, .int .i64 0, .slice none 0 0, .slice none 0 0, .slice none 0 0, .slice none 0 0, .slice none 0 0, .int .i64 0, .int .i64 0] 28 (0,0)∧repI.SOwn 3 8 wI w_8.heap.size (Rep.blkOf A_15) A_15 c_15 (harmW W l)∧WOwn wI w_18.heap.size a1 W∧Trp.rep.SOwn 66 56 wI w.heap.size (Rep.blkOf Al) Al cl (leftL W.troops (harmW W l) k)∧repI.SOwn 3 8 wI w.heap.size (Rep.blkOf Ag) Ag cg (goneL W.troops (harmW W l) k)∧(k≤W.troops.length)∧(∀ q∈Rep.blkOf Al,q=b_2→False)∧(∀ q∈Rep.blkOf Al,q=b_9→False)∧(∀ q∈Rep.blkOf Al,q∈WOwn.foot a1→False)∧(∀ q∈Rep.blkOf Al,q∈Rep.blkOf A_15→False)∧(∀ q∈Rep.blkOf Ag,q=b_2→False)∧(∀ q∈Rep.blkOf Ag,q=b_9→False)∧(∀ q∈Rep.blkOf Ag,q∈WOwn.foot a1→False)∧(∀ q∈Rep.blkOf Ag,q∈Rep.blkOf A_15→False)∧(∀ q∈Rep.blkOf Ag,q∈Rep.blkOf Al→False)) _ _ ⟨0,some ⟨b_36,0,none⟩,W.troops.length,none,0,rfl,rfl,z_35,B_5,B_12,OH_15,HO,O_39,(Rep.SOwn.nil _),by omega,(λ q hq hb=>by (have:=lo_42 q hq;omega)),(λ q hq hb=>by (have:=lo_42 q hq;omega)),(λ q hq hb=>by (have:=lo_42 q hq;(have:=u_26 q hb;omega))),(λ q hq hb=>by (have:=lo_42 q hq;(have:=u_16 q hb;omega))),(λ q hq hb=>by (simp [Rep.blkOf] at hq)),(λ q hq hb=>by (simp [Rep.blkOf] at hq)),(λ q hq hb=>by (simp [Rep.blkOf] at hq)),(λ q hq hb=>by (simp [Rep.blkOf] at hq)),(λ q hq hb=>by (simp [Rep.blkOf] at hq))⟩ (.cons rfl (.cons rfl (.cons rfl (.cons rfl (.cons rfl (.cons rfl (.cons rfl (.cons rfl (.cons rfl (.cons (loI rfl (by first | omega | rfl | (simp<;>omega))) .nil)))))))))) ?_
  rintro m_53 E_54 w_52 ⟨k,Al,cl,Ag,cg,rfl,rfl,z_52,B_5,B_12,OH_15,HO,OL,OG,hk,d_43,d_44,d_45,d_46,d_47,d_48,d_49,d_50,d_51⟩
  have:=z_52.size
  have q_56:=B_5.lt
  have q_57:=B_12.lt
  have u_58:=λ q hq=>(OH_15.lt q hq).2
  have u_59:=λ q hq=>(HO.lt q hq).2
  have u_60:=λ q hq=>(OL.lt q hq).2
  have u_61:=λ q hq=>(OG.lt q hq).2
  have n1:=left_len W.troops (harmW W l) k
  have n2:=gone_len W.troops (harmW W l) k
  refine sg<|vL (blt rfl rfl)<|nK<|sq<| ?_
  refine clt rfl (λ h_62=> ?_) (λ h_62=> ?_)
  ·obtain ⟨v1,v2⟩:=b2 k
   have hlk:=hlf k (by omega)
   refine sK<|sq<|bk<|sg<|vm rfl<|vL (iA k Tryz.underlying26 eF66 rfl rfl (HO.T.has.adr (zl k (by omega))) rfl (by omega))<|vL (ld rfl (Rep.SHas.elt hcT (HO.T.has.adh (zl k (by omega))) (get_d (l:=W.troops) (u:=default) (by omega)) eF67 eF66))<|al rfl eF68 rfl rfl λ w_63 b_64 x_65 l_66 B_67=> ?_
   have:=x_65.size
   have z_63:=eT z_52 x_65
   have q_69:=B_67.lt
   refine va rfl<|st (new:= [.int .i64 ((W.troops.getD k default).id), .int .i64 ((W.troops.getD k default).owner), .int .i64 ((W.troops.getD k default).kind), .int .i64 ((W.troops.getD k default).spot.x), .int .i64 ((W.troops.getD k default).spot.y), .int .i64 ((W.troops.getD k default).life), .int .i64 ((W.troops.getD k default).load)]) rfl rfl B_67 rfl eF66 rfl rfl rfl λ w_70 m_71 B_67=> ?_
   have:=m_71.size
   have z_70:=Ext.mod z_63 m_71 (ge1 (by omega))
   have:=m_71.size
   refine nK<|sq<| ?_
   refine rd [(1,0),(5,0),(8,3)] [0,1,2,3,4,5,6,7,8] (by kernel_rfl) (by kernel_rfl) ?_
   refine fw1 rfl (λ _=>fa eF93 rfl)<|fq1 rfl (λ _ x=>ld rfl ((B_67.later x).one eF1 rfl))<|fw1 rfl (λ _=>mv rfl)<|fw1 rfl (λ _=>mv rfl)<| ?_
   have OH_15:=OH_15.later x_65
   have OH_15:=OH_15.mod m_71 (λ q hq h=>by have hb:=List.mem_singleton.1 h;exfalso;(have:=u_58 q hq;have:=u_16 q hq;omega))
   refine fw1 rfl (λ _=>iA k Tryz.underlying22 eF7 rfl rfl (OH_15.has.adr (zl k (by omega))) rfl (by omega))<|fq1 rfl (λ _ x=>ld rfl (Rep.SHas.one' hcI ((OH_15.later x).has.adh (zl k (by omega))) (get_d (l:=harmW W l) (u:=0) (by omega)) rfl eF1))<|fw1 rfl (λ _=>bsu rfl rfl (inI (by omega)))<|fw1 rfl (λ _=>fa eF93 rfl)<|fb rfl rfl rfl λ w_74 x_75 Q hK=>st (new:= [.int .i64 ((W.troops.getD k default).id), .int .i64 ((W.troops.getD k default).owner), .int .i64 ((W.troops.getD k default).kind), .int .i64 ((W.troops.getD k default).spot.x), .int .i64 ((W.troops.getD k default).spot.y), .int .i64 (((W.troops.getD k default).life) - ((harmW W l).getD k 0)), .int .i64 ((W.troops.getD k default).load)]) rfl rfl (B_67.later x_75) rfl eF7 rfl rfl rfl λ w_76 m_77 B_67=>hK _ _ ?_
   have:=x_75.size
   have z_74:=eT z_70 x_75
   have:=m_77.size
   have z_76:=Ext.mod z_74 m_77 (ge1 (by omega))
   have:=m_77.size
   refine fn λ w_81 x_82=> ?_
   have:=x_82.size
   have z_81:=eT z_76 x_82
   refine nT<|sg<|vL (fa eF93 rfl)<| ?_
   have B_67:=B_67.later x_82
   refine vL (ld rfl (B_67.one eF1 rfl))<|vL (bgt rfl rfl)<|nK<| ?_
   refine clt rfl (λ h_84=> ?_) (λ h_84=> ?_)
   ·refine rg<|vm rfl<|vL (ld rfl (B_67.all eF67 eF66))<|bs (e:= 66) (cs:= [.int .i64 ((W.troops.getD k default).id), .int .i64 ((W.troops.getD k default).owner), .int .i64 ((W.troops.getD k default).kind), .int .i64 ((W.troops.getD k default).spot.x), .int .i64 ((W.troops.getD k default).spot.y), .int .i64 (((W.troops.getD k default).life) - ((harmW W l).getD k 0)), .int .i64 ((W.troops.getD k default).load)]) rfl (λ _=>by kernel_rfl) rfl λ w_85 b_86 x_87 l_88 B_89=> ?_
    have:=x_87.size
    have z_85:=eT z_81 x_87
    have q_91:=B_89.lt
    have OL:=OL.later x_65
    have OL:=OL.mod m_71 (fk1 u_60 (by omega))
    have OL:=OL.later x_75
    have OL:=OL.mod m_77 (fk1 u_60 (by omega))
    have OL:=OL.later (eT x_82 x_87)
    refine ap HitS_el_S_api_Troop Rep.flat_bare OL (Blk.has1 (R:=Trp.rep) (by_:=56) (q:=(⟨(W.troops.getD k default).id,(W.troops.getD k default).owner,(W.troops.getD k default).kind,⟨(W.troops.getD k default).spot.x,(W.troops.getD k default).spot.y⟩,((W.troops.getD k default).life) - ((harmW W l).getD k 0),(W.troops.getD k default).load⟩:Trp)) B_89 ⟨rfl,by obtain ⟨o1,o2,o3,o4,o5,o6,o7⟩:=hok k;exact ⟨o1,o2,o3,o4,o5,okI_iff.2 (by (try dsimp only);omega),o7⟩⟩ (by decide)) rfl rfl (by simp only [List.length_cons,List.length_nil];omega) (by simp only [List.length_cons,List.length_nil];omega) z_85.size rfl λ w_92 A_93 c_94 m_95 O_96 g_97 n_98=> ?_
    have:=m_95.size
    have z_92:=Ext.mod z_85 m_95 (λ q hq=>(OL.lt q hq).1)
    have u_100:=λ q hq=>(O_96.lt q hq).2
    have:=m_95.size
    refine va rfl<|nl<|nB<|nT<|rg<|vL (bad rfl rfl (inI (by omega)))<|vm rfl<|nl<| ?_
    have e1:leftL W.troops (harmW W l) (k+1)=leftL W.troops (harmW W l) k++ [(⟨(W.troops.getD k default).id,(W.troops.getD k default).owner,(W.troops.getD k default).kind,⟨(W.troops.getD k default).spot.x,(W.troops.getD k default).spot.y⟩,((W.troops.getD k default).life) - ((harmW W l).getD k 0),(W.troops.getD k default).load⟩:Trp)]:=by rw [left_succ_yes h_84];try rfl
    have e2:goneL W.troops (harmW W l) (k+1)=goneL W.troops (harmW W l) k:=by rw [gone_succ_yes h_84];try rfl
    have B_5:=B_5.later x_65
    have B_5:=B_5.mod m_71 (nm1 (by omega))
    have B_5:=B_5.later x_75
    have B_5:=B_5.mod m_77 (nm1 (by omega))
    have B_5:=B_5.later (eT x_82 x_87)
    have B_5:=B_5.mod m_95 (λ hq=>d_43 _ hq rfl)
    have B_12:=B_12.later x_65
    have B_12:=B_12.mod m_71 (nm1 (by omega))
    have B_12:=B_12.later x_75
    have B_12:=B_12.mod m_77 (nm1 (by omega))
    have B_12:=B_12.later (eT x_82 x_87)
    have B_12:=B_12.mod m_95 (λ hq=>d_44 _ hq rfl)
    have OH_15:=OH_15.later x_75
    have OH_15:=OH_15.mod m_77 (λ q hq h=>by have hb:=List.mem_singleton.1 h;exfalso;(have:=u_58 q hq;have:=u_16 q hq;omega))
    have OH_15:=OH_15.later (eT x_82 x_87)
    have OH_15:=OH_15.mod m_95 (λ q hq h=>by exfalso;(exact d_46 q h hq))
    have HO:=HO.later x_65
    have HO:=HO.mod m_71 (λ q hq h=>by have hb:=List.mem_singleton.1 h;exfalso;(have:=u_59 q hq;have:=u_26 q hq;omega))
    have HO:=HO.later x_75
    have HO:=HO.mod m_77 (λ q hq h=>by have hb:=List.mem_singleton.1 h;exfalso;(have:=u_59 q hq;have:=u_26 q hq;omega))
    have HO:=HO.later (eT x_82 x_87)
    have HO:=HO.mod m_95 (λ q hq h=>by exfalso;(exact d_45 q h hq))
    have OG:=OG.later x_65
    have OG:=OG.mod m_71 (fk1 u_61 (by omega))
    have OG:=OG.later x_75
    have OG:=OG.mod m_77 (fk1 u_61 (by omega))
    have OG:=OG.later (eT x_82 x_87)
    have OG:=OG.mod m_95 (λ q hq h=>by exfalso;(exact d_51 q hq h))
    exact nI _ _ ⟨k+1,A_93,c_94,Ag,cg,rfl,rfl,z_92,B_5,B_12,OH_15,HO,(by rw [e1];exact O_96),(by rw [e2];exact OG),by omega,(λ q hq hb=>by (exact Or.elim (g_97 q hq) (λ k_102=>by (exact d_43 q k_102 hb)) (λ k_102=>by omega))),(λ q hq hb=>by (exact Or.elim (g_97 q hq) (λ k_103=>by (exact d_44 q k_103 hb)) (λ k_103=>by omega))),(λ q hq hb=>by (exact Or.elim (g_97 q hq) (λ k_104=>by (exact d_45 q k_104 hb)) (λ k_104=>by (have:=u_59 q hb;have:=u_26 q hb;omega)))),(λ q hq hb=>by (exact Or.elim (g_97 q hq) (λ k_105=>by (exact d_46 q k_105 hb)) (λ k_105=>by (have:=u_58 q hb;have:=u_16 q hb;omega)))),(λ q hq hb=>by (exact d_47 q hq hb)),(λ q hq hb=>by (exact d_48 q hq hb)),(λ q hq hb=>by (exact d_49 q hq hb)),(λ q hq hb=>by (exact d_50 q hq hb)),(λ q hq hb=>by (exact Or.elim (g_97 q hb) (λ k_106=>by (exact d_51 q hq k_106)) (λ k_106=>by (have:=u_61 q hq;omega))))⟩ (by omega) (.cons rfl (.cons rfl (.cons rfl (.cons rfl (.cons rfl (.cons (by rw [e2];rfl) (.cons (by rw [e1];rfl) (.cons rfl (.cons rfl (.cons (loI rfl (by first | omega | rfl | (simp<;>omega))) .nil))))))))))
   ·refine rg<|vm rfl<|vL (fa eF69 rfl)<|vL (ld rfl (B_67.one eF1 rfl))<|bs (e:= 3) (cs:= [.int .i64 ((W.troops.getD k default).id)]) rfl (λ _=>by kernel_rfl) rfl λ w_107 b_108 x_109 l_110 B_111=> ?_
    have:=x_109.size
    have z_107:=eT z_81 x_109
    have q_113:=B_111.lt
    have OG:=OG.later x_65
    have OG:=OG.mod m_71 (fk1 u_61 (by omega))
    have OG:=OG.later x_75
    have OG:=OG.mod m_77 (fk1 u_61 (by omega))
    have OG:=OG.later (eT x_82 x_109)
    refine ap HitS_el_S_int Rep.flat_bare OG (Blk.has1 (R:=repI) (by_:=8) (q:=(W.troops.getD k default).id) B_111 ⟨rfl,(hok k).1⟩ (by decide)) rfl rfl (by simp only [List.length_cons,List.length_nil];omega) (by simp only [List.length_cons,List.length_nil];omega) z_107.size rfl λ w_114 A_115 c_116 m_117 O_118 g_119 n_120=> ?_
    have:=m_117.size
    have z_114:=Ext.mod z_107 m_117 (λ q hq=>(OG.lt q hq).1)
    have u_122:=λ q hq=>(O_118.lt q hq).2
    have:=m_117.size
    refine va rfl<|nl<|nB<|nT<|rg<|vL (bad rfl rfl (inI (by omega)))<|vm rfl<|nl<| ?_
    have e1:leftL W.troops (harmW W l) (k+1)=leftL W.troops (harmW W l) k:=by rw [left_succ_no h_84];try rfl
    have e2:goneL W.troops (harmW W l) (k+1)=goneL W.troops (harmW W l) k++ [(W.troops.getD k default).id]:=by rw [gone_succ_no h_84];try rfl
    have B_5:=B_5.later x_65
    have B_5:=B_5.mod m_71 (nm1 (by omega))
    have B_5:=B_5.later x_75
    have B_5:=B_5.mod m_77 (nm1 (by omega))
    have B_5:=B_5.later (eT x_82 x_109)
    have B_5:=B_5.mod m_117 (λ hq=>d_47 _ hq rfl)
    have B_12:=B_12.later x_65
    have B_12:=B_12.mod m_71 (nm1 (by omega))
    have B_12:=B_12.later x_75
    have B_12:=B_12.mod m_77 (nm1 (by omega))
    have B_12:=B_12.later (eT x_82 x_109)
    have B_12:=B_12.mod m_117 (λ hq=>d_48 _ hq rfl)
    have OH_15:=OH_15.later x_75
    have OH_15:=OH_15.mod m_77 (λ q hq h=>by have hb:=List.mem_singleton.1 h;exfalso;(have:=u_58 q hq;have:=u_16 q hq;omega))
    have OH_15:=OH_15.later (eT x_82 x_109)
    have OH_15:=OH_15.mod m_117 (λ q hq h=>by exfalso;(exact d_50 q h hq))
    have HO:=HO.later x_65
    have HO:=HO.mod m_71 (λ q hq h=>by have hb:=List.mem_singleton.1 h;exfalso;(have:=u_59 q hq;have:=u_26 q hq;omega))
    have HO:=HO.later x_75
    have HO:=HO.mod m_77 (λ q hq h=>by have hb:=List.mem_singleton.1 h;exfalso;(have:=u_59 q hq;have:=u_26 q hq;omega))
    have HO:=HO.later (eT x_82 x_109)
    have HO:=HO.mod m_117 (λ q hq h=>by exfalso;(exact d_49 q h hq))
    have OL:=OL.later x_65
    have OL:=OL.mod m_71 (fk1 u_60 (by omega))
    have OL:=OL.later x_75
    have OL:=OL.mod m_77 (fk1 u_60 (by omega))
    have OL:=OL.later (eT x_82 x_109)
    have OL:=OL.mod m_117 (λ q hq h=>by exfalso;(exact d_51 q h hq))
    exact nI _ _ ⟨k+1,Al,cl,A_115,c_116,rfl,rfl,z_114,B_5,B_12,OH_15,HO,(by rw [e1];exact OL),(by rw [e2];exact O_118),by omega,(λ q hq hb=>by (exact d_43 q hq hb)),(λ q hq hb=>by (exact d_44 q hq hb)),(λ q hq hb=>by (exact d_45 q hq hb)),(λ q hq hb=>by (exact d_46 q hq hb)),(λ q hq hb=>by (exact Or.elim (g_119 q hq) (λ k_124=>by (exact d_47 q k_124 hb)) (λ k_124=>by omega))),(λ q hq hb=>by (exact Or.elim (g_119 q hq) (λ k_125=>by (exact d_48 q k_125 hb)) (λ k_125=>by omega))),(λ q hq hb=>by (exact Or.elim (g_119 q hq) (λ k_126=>by (exact d_49 q k_126 hb)) (λ k_126=>by (have:=u_59 q hb;have:=u_26 q hb;omega)))),(λ q hq hb=>by (exact Or.elim (g_119 q hq) (λ k_127=>by (exact d_50 q k_127 hb)) (λ k_127=>by (have:=u_58 q hb;have:=u_16 q hb;omega)))),(λ q hq hb=>by (exact Or.elim (g_119 q hq) (λ k_128=>by (exact d_51 q k_128 hb)) (λ k_128=>by (have:=u_60 q hb;omega))))⟩ (by omega) (.cons rfl (.cons rfl (.cons rfl (.cons rfl (.cons rfl (.cons (by rw [e2];rfl) (.cons (by rw [e1];rfl) (.cons rfl (.cons rfl (.cons (loI rfl (by first | omega | rfl | (simp<;>omega))) .nil))))))))))
  ·refine xt<|xT<|xK<|xB<|nT<|sg<|vm rfl<|vL (fa eF64 rfl)<|st (new:= [.int .i64 W.field.wide, .int .i64 W.field.high, .slice a1.P W.field.places.length a1.p, .slice a1.B W.bases.length a1.b, .slice a1.S W.stocks.length a1.s, .slice a1.M W.mines.length a1.m, .slice Al ((leftL W.troops (harmW W l) k).length) cl, .int .i64 W.next, .int .i64 W.now]) rfl rfl B_5 rfl eF90 rfl rfl rfl λ w_129 m_130 B_5=> ?_
   have:=m_130.size
   have z_129:=Ext.mod z_52 m_130 (ge1 (by omega))
   have:=m_130.size
   refine nK<|sg<|vL (ld rfl (B_5.all eF61 eF62))<|vm rfl<| ?_
   have B_12:=B_12.mod m_130 (nm1 (by omega))
   refine st (new:= [.int .i64 W.field.wide, .int .i64 W.field.high, .slice a1.P W.field.places.length a1.p, .slice a1.B W.bases.length a1.b, .slice a1.S W.stocks.length a1.s, .slice a1.M W.mines.length a1.m, .slice Al ((leftL W.troops (harmW W l) k).length) cl, .int .i64 W.next, .int .i64 W.now]) rfl rfl B_12 rfl eF62 rfl rfl rfl λ w_133 m_134 B_12=> ?_
   have:=m_134.size
   have z_133:=Ext.mod z_129 m_134 (ge1 (by omega))
   have:=m_134.size
   refine va rfl<|va rfl<|nK<|rt<|tR (.cell rfl (B_12.all eF61 eF62) (.tmp rfl (.tmp rfl .nil)))<| ?_
   have HO:=HO.mod m_130 (fk2 lo_27 (by omega))
   have HO:=HO.mod m_134 (fk2 lo_27 (by omega))
   have OL:=OL.mod m_130 (λ q hq h=>by have hb:=List.mem_singleton.1 h;exfalso;(exact d_43 q hq hb))
   have OL:=OL.mod m_134 (λ q hq h=>by have hb:=List.mem_singleton.1 h;exfalso;(exact d_44 q hq hb))
   have OG:=OG.mod m_130 (λ q hq h=>by have hb:=List.mem_singleton.1 h;exfalso;(exact d_47 q hq hb))
   have OG:=OG.mod m_134 (λ q hq h=>by have hb:=List.mem_singleton.1 h;exfalso;(exact d_48 q hq hb))
   obtain ⟨e1,e2⟩:=struck_ok h_21 (k:=k) (by omega)
   have hT:=WOwn.newT (HO.down (by omega)) OL (λ q h1 h2=>by exfalso;(exact d_45 q h1 h2))
   refine ⟨{a1 with T:=Al,t:=cl},Ag,cg,by rw [h_21,e1,e2];rfl,by rw [e1];exact hT,by rw [e2];exact OG,λ q hq=> ?_,z_133⟩
   intro hf
   rcases foot_newT hf with h1 | h1
   ·exfalso;(exact d_49 q hq h1)
   ·exfalso;(exact d_51 q hq h1)
end
section
open Go.RowKit
theorem Mrc_el_S_int:ElT Tryz.prog repI 22 3 8:=ElT.mk_ (z:= .int .i64 0) (k:=1) Tryz.underlying22 info_int rfl rfl (by decide) (λ j u h=>raw0I j u h)
theorem Rep.SHas.keepM {α:Type} {R:Rep α} {by_ c:Nat} {w w':World} {A:Option Addr} {l:List α} {F:List Nat} (h:R.SHas by_ w A c l) (hp:R.Plain) (m:Mod F w w') (d:0<l.length→∀ q∈Rep.blkOf A,q∉F):R.SHas by_ w' A c l:=by
 obtain ⟨h1,h2,h3,h4,ess,h5,h6,h7⟩:=h
 refine ⟨h1,h2,h3,h4,ess,h5.imp (λ es a _ h=>R.ohas (R.okeep (hp (B:=0) h) (by simp))),h6,λ h0=> ?_⟩
 obtain ⟨b,o,rfl,hc⟩:=h7 h0
 refine ⟨b,o,rfl,λ j u hu=> ?_⟩
 have h8:=hc j u hu
 have hb:b<w.heap.size:=by
  apply Classical.byContradiction
  intro hn
  have:w.heap[b]? =none:=Array.getElem?_eq_none (by omega)
  simp [World.cell?,this] at h8
 have hk:=m.block b hb (d h0 b (by simp [Rep.blkOf]))
 simp only [World.cell?] at h8 ⊢
 rw [hk];exact h8
theorem cel_okd {w:World} {A:Option Addr} {c:Nat} {T:List Cel} (h:Cel.rep.SHas 16 w A c T) (k:Nat):(T.getD k default).ok:=by
 rw [List.getD_eq_getElem?_getD]
 cases ht:T[k]? with
 | none=>exact ⟨by decide,by decide⟩
 | some t=>exact h.all_ (λ hh=>(show _∧_ from hh).2) t (List.mem_of_getElem? ht)
theorem spot_ok {t:Trp} (h:t.ok):t.spot.ok:=by
 obtain ⟨h1,h2,h3,h4,h5,h6,h7⟩:=h
 exact ⟨h4,h5⟩
theorem to_ok {t:Trp} {c:Cel} (h:t.ok) (hc:c.ok):(t.to_ c).ok:=by
 obtain ⟨h1,h2,h3,h4,h5,h6,h7⟩:=h
 exact ⟨h1,h2,h3,hc.1,hc.2,h6,h7⟩
theorem goK_lt {l:List Gox} {id:Int} (h:¬ goK l id<0):0≤goK l id∧(goK l id).toNat<l.length:=by
 rcases goK_cases l id with ⟨h1,_⟩ | ⟨k,h1,h2,_⟩<;>omega
theorem step1_n1 {f:Fld} {l:List Gox} {T:List Trp} {k:Nat} (h:goK l (T.getD k default).id<0):step1 f l T k=none:=by unfold step1;rw [if_pos h]
theorem step1_n2 {f:Fld} {l:List Gox} {T:List Trp} {k:Nat} (h0:0≤goK l (T.getD k default).id)
  (h:(findE f (T.getD k default).spot (l.getD (goK l (T.getD k default).id).toNat default).to_≠0∨((findP f (T.getD k default).spot (l.getD (goK l (T.getD k default).id).toNat default).to_).length:Int)<2)∨0<occ T ((findP f (T.getD k default).spot (l.getD (goK l (T.getD k default).id).toNat default).to_).getD 1 default)):step1 f l T k=none:=by
 unfold step1
 rw [if_neg (by omega)]
 split
 ·rfl
 ·split
  ·rfl
  ·rw [if_pos]
   rcases h with (h | h) | h
   ·contradiction
   ·omega
   ·exact h
theorem step1_some {f:Fld} {l:List Gox} {T:List Trp} {k:Nat} (h0:0≤goK l (T.getD k default).id)
  (h:(findE f (T.getD k default).spot (l.getD (goK l (T.getD k default).id).toNat default).to_=0∧2≤((findP f (T.getD k default).spot (l.getD (goK l (T.getD k default).id).toNat default).to_).length:Int))∧occ T ((findP f (T.getD k default).spot (l.getD (goK l (T.getD k default).id).toNat default).to_).getD 1 default)≤0):
  step1 f l T k=some ((findP f (T.getD k default).spot (l.getD (goK l (T.getD k default).id).toNat default).to_).getD 1 default):=by
 obtain ⟨⟨h1,h2⟩,h3⟩:=h
 unfold step1
 rw [if_neg (by omega),if_neg (by simpa using h1),if_neg (by omega),if_neg (by omega)]
theorem Rep.SHas.ltb {α:Type} {R:Rep α} {by_ c:Nat} {w:World} {A:Option Addr} {l:List α} (h:R.SHas by_ w A c l) (hs:0<R.size) (h0:0<l.length):∀ q∈Rep.blkOf A,q<w.heap.size:=by
 obtain ⟨h1,h2,h3,h4,ess,h5,h6,h7⟩:=h
 obtain ⟨b,o,rfl,hc⟩:=h7 h0
 intro q hq
 obtain rfl:q=b:=by simpa [Rep.blkOf] using hq
 have hl:0<ess.flatten.length:=by rw [h6];exact Nat.mul_pos h0 hs
 have h8:=hc 0 _ (List.getElem?_eq_getElem hl)
 apply Classical.byContradiction
 intro hn
 have:w.heap[q]? =none:=Array.getElem?_eq_none (by omega)
 simp [World.cell?,this] at h8
theorem idxF_G (fC:FuncId) (cs:List Value) (p:Gox→Bool) (A:Option Addr) (c:Nat) (l:List Gox) (w:World) (hl:Gox.rep.SHas 24 w A c l) (hE:Enters Tryz.prog fC) (hC:∀ x∈l,∀ w',Ext w w'→Calls Tryz.prog fC (([.agg #[.int .i64 x.id, .int .i64 x.to_.x, .int .i64 x.to_.y]]:List Value)++cs).toArray w' λ e w''=>e= .returned (.bool (p x))∧Ext w' w''):
  Calls Tryz.prog 135 #[.slice A l.length c, .func (.func fC) #[] cs.toArray] w (λ e w'=>e= .returned (.int .i64 (idxI p l))∧Ext w w'):=by
 have hll:=hl.len_le
 refine calls_W (n:=19) Tryz.func135 rfl rfl rfl ?_
 refine sg<|va rfl<|nK<|sq<|sg<|vm rfl<|vL (ln Tryz.underlying124 rfl)<|vm rfl<|nK<|bk<| ?_
 refine lp (λ mI EI wI=>∃ k:Nat,EI= [(0, .slice A l.length c),(1, .func (.func fC) #[] cs.toArray),(7, .int .i64 (l.length:Int)),(8, .int .i64 (k:Int))]∧mI=l.length - k∧Ext w wI∧(k≤l.length)∧(∀ i,i<k→p (l.getD i default)=false)) _ _ ⟨0,rfl,rfl,(Ext.rf w),by omega,λ i hi=>by omega⟩ (.cons rfl (.cons rfl (.cons rfl (.cons (loI rfl (by first | omega | rfl | (simp<;>omega))) .nil)))) ?_
 rintro m_2 E_3 w_1 ⟨k,rfl,rfl,z_1,hk,hg⟩
 have:=z_1.size
 refine sg<|vL (blt rfl rfl)<|nK<|sq<| ?_
 refine clt rfl (λ h_5=> ?_) (λ h_5=> ?_)
 ·refine sK<|sq<|bk<|sg<|vm rfl<|va rfl<|nK<|sg<|vm rfl<|vm rfl<|vm rfl<|vL (iA k Tryz.underlying124 eF94 rfl rfl ((hl.keep z_1).adr (zl k (by omega))) rfl (by omega))<|vL (ld rfl (Rep.SHas.elt hcGo ((hl.keep z_1).adh (zl k (by omega))) (get_d (l:=l) (u:=default) (by omega)) eF95 eF94))<|cv hE rfl rfl rfl ((hC (l.getD k default) (mem_dd (by omega)) _ z_1).mono ?_)
  rintro e w_6 ⟨rfl,x_7⟩
  refine ⟨_,rfl, ?_⟩
  have:=x_7.size
  have z_6:=eT z_1 x_7
  refine nK<| ?_
  refine cb rfl (λ h_9=> ?_) (λ h_9=> ?_)
  ·refine sg<|vm rfl<|va rfl<|nK<|rt<|tB<|tT<|tK<|tB<|tT<|tR (.tmp rfl .nil)<| ?_
   exact ⟨by have e:=idx_some_dd (p:=p) (l:=l) (d:=default) (k:=k) (by omega) h_9 hg;rw [e];rfl,z_6⟩
  ·refine sk<|nB<|nT<|rg<|vL (bad rfl rfl (inI (by omega)))<|vm rfl<|nl<| ?_
   exact nI _ _ ⟨k+1,rfl,rfl,z_6,by omega,lt_succ_all hg h_9⟩ (by omega) (.cons rfl (.cons rfl (.cons rfl (.cons (loI rfl (by first | omega | rfl | (simp<;>omega))) .nil))))
 ·refine xt<|xT<|xK<|xB<|nT<|sg<|va rfl<|nK<|rt<|tR (.tmp rfl .nil)<| ?_
  exact ⟨by have e:=idx_none_dd (p:=p) (l:=l) (d:=default) (λ i hi=>hg i (by omega));rw [e];rfl,z_1⟩
theorem mgo_any (x:Gox) (b k:Nat) (A:Option Addr) (c:Nat) (T:List Trp) (w:World) (HB:Blk w b [.pointer (some ⟨bA A,oA A+k * 7,none⟩)] 227 (0,0)) (hT:Trp.rep.SHas 56 w A c T) (hk:k<T.length):
  Calls Tryz.prog 136 #[.agg #[.int .i64 x.id, .int .i64 x.to_.x, .int .i64 x.to_.y], .pointer (some ⟨b,0,none⟩)] w (λ e w'=>e= .returned (.bool (x.id == (T.getD k default).id))∧Ext w w'):=by
 have qB:=HB.lt
 refine calls_W (n:=11) Tryz.func136 rfl rfl rfl ?_
 refine sg<|bx rfl rfl rfl rfl λ w_1 b_2 x_3 l_4 B_5=> ?_
 have:=x_3.size
 have z_1:=eT (Ext.rf w) x_3
 have q_7:=B_5.lt
 refine va rfl<|nK<|sq<| ?_
 refine rd [(1,0),(2,0),(5,0)] [0,1,2,3,4,5,6,7] (by kernel_rfl) (by kernel_rfl) ?_
 refine fw1 rfl (λ _=>fa eF96 rfl)<|fq1 rfl (λ _ x=>ld rfl ((B_5.later x).one eF1 rfl))<| ?_
 have HB:=HB.later x_3
 refine fq1 rfl (λ _ x=>ld rfl ((HB.later x).one eF97 rfl))<|fw1 rfl (λ _=>nc rfl)<|fw1 rfl (λ _=>fa eF69 rfl)<|fq1 rfl (λ _ x=>ld rfl (Rep.SHas.fld hcT ((hT.keep (eT z_1 x)).adh (zl k (by omega))) 0 (get_d (l:=T) (u:=default) (by omega)) rfl eF1))<|fw1 rfl (λ _=>beq rfl rfl)<|fw1 rfl (λ _=>as_ rfl)<|fn λ w_8 x_9=> ?_
 have:=x_9.size
 have z_8:=eT z_1 x_9
 refine nT<|rt<|tR (.tmp rfl .nil)<| ?_
 exact ⟨rfl,z_8⟩
theorem mgoI (b k:Nat) (l:List Gox) (A:Option Addr) (c:Nat) (TA:Option Addr) (tc:Nat) (T:List Trp) (w:World) (hl:Gox.rep.SHas 24 w A c l) (HB:Blk w b [.pointer (some ⟨bA TA,oA TA+k * 7,none⟩)] 227 (0,0)) (hT:Trp.rep.SHas 56 w TA tc T) (hk:k<T.length):
  Calls Tryz.prog 135 #[.slice A l.length c, .func (.func 136) #[] #[.pointer (some ⟨b,0,none⟩)]] w (λ e w'=>e= .returned (.int .i64 (goK l (T.getD k default).id))∧Ext w w'):=
 idxF_G 136 [.pointer (some ⟨b,0,none⟩)] (λ g=>g.id == (T.getD k default).id) A c l w hl eF98 (λ x hx w' h=>mgo_any x b k TA tc T w' (HB.later h) (hT.keep h) hk)
theorem stepped_any (w0:World) (a:Wd.At) (W:Wd) (A:Option Addr) (c:Nat) (l:List Gox) (w:World) (hP:repI.SHas 8 w a.P a.p W.field.places) (hT:Trp.rep.SOwn 66 56 w w0.heap.size (Rep.blkOf a.T) a.T a.t W.troops) (hdP:∀ q∈Rep.blkOf a.P,q∉Rep.blkOf a.T) (hl:Gox.rep.SHas 24 w A c l) (hdl:0<l.length→∀ q∈Rep.blkOf A,q∉Rep.blkOf a.T) (hnt:W.troops.length≤100000):
  Calls Tryz.prog 98 #[.agg ((Wd.cells a W).toArray), .slice A l.length c] w (λ e w'=>∃ A' c',e= .returned (.slice A' (W.stepped l).2.length c')∧repI.SOwn 3 8 w' w.heap.size (Rep.blkOf A') A' c' (W.stepped l).2∧Trp.rep.SOwn 66 56 w' w0.heap.size (Rep.blkOf a.T) a.T a.t (W.stepped l).1.troops∧Mod (Rep.blkOf a.T) w w'):=by
 have uT:=λ q hq=>(hT.lt q hq).2
 have gT:∀ q∈Rep.blkOf a.T,w0.heap.size≤q:=λ q hq=>(hT.lt q hq).1
 have hok0:=trp_ok hT.has
 refine calls_W (n:=110) Tryz.func98 rfl rfl rfl ?_
 refine sg<|bx rfl rfl rfl rfl λ w_1 b_2 x_3 l_4 B_5=> ?_
 have:=x_3.size
 have z_1:=(Mod.rf (Rep.blkOf a.T) w).trans (Mod.of_ext x_3)
 have q_7:=B_5.lt
 refine va rfl<|nK<|sg<|mm rfl λ w_8 r_9 x_10 l_11 M_12=> ?_
 have:=x_10.size
 have z_8:=z_1.trans (Mod.of_ext x_10)
 have q_14:=M_12.lt
 have C_15:=MapC.of_nil M_12
 refine va rfl<|nK<|sq<|sg<|vL (fa eF64 rfl)<| ?_
 have B_5:=B_5.later x_10
 refine vL (ld rfl (B_5.one eF65 rfl))<|vL (ln Tryz.underlying26 rfl)<|vm rfl<|nK<|bk<| ?_
 have hT:=hT.later (eT x_3 x_10)
 refine lp (λ mI EI wI=>∃ k:Nat,EI= [(1, .slice A l.length c),(2, .pointer (some ⟨b_2,0,none⟩)),(4, .slice none 0 0),(5, .map (some r_9)),(17, .slice a.T W.troops.length a.t),(18, .int .i64 (W.troops.length:Int)),(19, .int .i64 (k:Int))]∧mI=W.troops.length - k∧Mod (Rep.blkOf a.T) w wI∧Trp.rep.SOwn 66 56 wI w0.heap.size (Rep.blkOf a.T) a.T a.t (W.troops)∧Blk wI b_2 (Wd.cells a W) 28 (0,0)∧MapC wI r_9 (occ (W.troops.take k))∧(k≤W.troops.length)) _ _ ⟨0,rfl,rfl,z_8,hT,B_5,C_15,by omega⟩ (.cons rfl (.cons rfl (.cons rfl (.cons rfl (.cons rfl (.cons rfl (.cons (loI rfl (by first | omega | rfl | (simp<;>omega))) .nil))))))) ?_
 rintro m_17 E_18 w_16 ⟨k,rfl,rfl,z_16,hT,B_5,M1,hk⟩
 have:=z_16.size
 have u_20:=λ q hq=>(hT.lt q hq).2
 have q_21:=B_5.lt
 have q_22:=M1.lt
 refine sg<|vL (blt rfl rfl)<|nK<|sq<| ?_
 refine clt rfl (λ h_23=> ?_) (λ h_23=> ?_)
 ·refine sK<|sq<|bk<|sg<|vL (iA k Tryz.underlying26 eF66 rfl rfl (hT.has.adr (zl k (by omega))) rfl (by omega))<|vL (ld rfl (Rep.SHas.elt hcT (hT.has.adh (zl k (by omega))) (get_d (l:=W.troops) (u:=default) (by omega)) eF67 eF66))<|al rfl eF68 rfl rfl λ w_24 b_25 x_26 l_27 B_28=> ?_
  have:=x_26.size
  have z_24:=z_16.trans (Mod.of_ext x_26)
  have q_30:=B_28.lt
  refine st (new:= [.int .i64 ((W.troops.getD k default).id), .int .i64 ((W.troops.getD k default).owner), .int .i64 ((W.troops.getD k default).kind), .int .i64 ((W.troops.getD k default).spot.x), .int .i64 ((W.troops.getD k default).spot.y), .int .i64 ((W.troops.getD k default).life), .int .i64 ((W.troops.getD k default).load)]) rfl rfl B_28 rfl eF66 rfl rfl rfl λ w_31 m_32 B_28=> ?_
  have:=m_32.size
  have z_31:=z_24.md m_32 (λ q hq=> .inr (by have:=List.mem_singleton.1 hq;omega))
  have:=m_32.size
  refine nK<| ?_
  have M1:=M1.later x_26
  have M1:=M1.mod m_32 (nm1 (by omega))
  refine rdM r_9 (occ (W.troops.take k)) [(2,0),(3,0),(5,2),(7,3)] [0,1,2,3,4,5,6,7] (by kernel_rfl) (by kernel_rfl) ?_
  refine fwM rfl rfl (λ _=>mv rfl) rfl<|fwM rfl rfl (λ _=>fa eF56 rfl) rfl<|fqM rfl rfl (λ _ x=>ld rfl ((B_28.mod x.1 (nm1 (by omega))).par [.int .i64 ((W.troops.getD k default).spot.x), .int .i64 ((W.troops.getD k default).spot.y)] eF3 eF4 rfl)) rfl<|fqM rfl rfl (λ _ x=>lkC (p:=(W.troops.getD k default).spot) (x.2 M1) (spot_ok (hok0 k)) rfl rfl) rfl<|fwM rfl rfl (λ _=>bad rfl rfl (inI ((by have h1:=occ_le (W.troops.take k) ((W.troops.getD k default).spot);(try rw [List.length_take] at h1);omega)))) rfl<|fxM rfl rfl rfl λ w_35 x_36 Q hK=>meC (p:=(W.troops.getD k default).spot) (M1.later x_36) (spot_ok (hok0 k)) rfl rfl rfl λ w_37 st_38 m_39 En_40=>hK _ _ ⟨(RM.of_ext x_36).trans ⟨m_39,λ _=>En_40.map⟩, ?_⟩
  have:=x_36.size
  have z_35:=z_31.trans (Mod.of_ext x_36)
  have:=m_39.size
  have z_37:=z_35.md m_39 (λ q hq=> .inr (by have:=List.mem_singleton.1 hq;omega))
  have C_43:=En_40.map
  have q_44:=C_43.lt
  refine fwM rfl rfl (λ _=>ex rfl rfl) rfl<|fbM rfl rfl rfl λ w_45 x_46 Q hK=>esC (En_40.later x_46) rfl rfl rfl λ w_47 m_48 C_49=>hK _ _ ?_
  have:=x_46.size
  have z_45:=z_37.trans (Mod.of_ext x_46)
  have:=m_48.size
  have z_47:=z_45.md m_48 (λ q hq=> .inr (by have:=List.mem_singleton.1 hq;omega))
  have q_52:=C_49.lt
  refine fnM λ w_53 x_54=> ?_
  have:=x_54.size
  have z_53:=z_47.trans (Mod.of_ext x_54)
  refine nB<|nT<|rg<|vL (bad rfl rfl (inI (by omega)))<|vm rfl<|nl<| ?_
  have hT:=hT.later x_26
  have hT:=hT.mod m_32 (λ q hq h=>by have hb:=List.mem_singleton.1 h;exfalso;(have:=u_20 q hq;have:=uT q hq;omega))
  have hT:=hT.later x_36
  have hT:=hT.mod m_39 (λ q hq h=>by have hb:=List.mem_singleton.1 h;exfalso;(have:=u_20 q hq;have:=uT q hq;omega))
  have hT:=hT.later x_46
  have hT:=hT.mod m_48 (λ q hq h=>by have hb:=List.mem_singleton.1 h;exfalso;(have:=u_20 q hq;have:=uT q hq;omega))
  have hT:=hT.later x_54
  have B_5:=B_5.later x_26
  have B_5:=B_5.mod m_32 (nm1 (by omega))
  have B_5:=B_5.later x_36
  have B_5:=B_5.mod m_39 (nm1 (by omega))
  have B_5:=B_5.later x_46
  have B_5:=B_5.mod m_48 (nm1 (by omega))
  have B_5:=B_5.later x_54
  have C_49:=C_49.later x_54
  exact nI _ _ ⟨k+1,rfl,rfl,z_53,hT,B_5,(by rw [occ_succ (by omega)];exact C_49),by omega⟩ (by omega) (.cons rfl (.cons rfl (.cons rfl (.cons rfl (.cons rfl (.cons rfl (.cons (loI rfl (by first | omega | rfl | (simp<;>omega))) .nil)))))))
 ·refine xt<|xT<|xK<|xB<|nT<|sg<|va rfl<|nK<|sq<|sg<|vL (fa eF64 rfl)<|vL (ld rfl (B_5.one eF65 rfl))<|vL (ln Tryz.underlying26 rfl)<|vm rfl<|nK<|bk<| ?_
  have ek:k=W.troops.length:=by omega
  subst ek
  have MT:MapC w_16 r_9 (occ W.troops):=by have h:=M1;rw [List.take_length] at h;exact h
  refine lp (λ mI EI wI=>∃ k:Nat,∃ T:List Trp,∃ M:List Int,∃ Am:Option Addr,∃ cm:Nat,EI= [(1, .slice A l.length c),(2, .pointer (some ⟨b_2,0,none⟩)),(4, .slice none 0 0),(5, .map (some r_9)),(8, .slice Am M.length cm),(33, .int .i64 (W.troops.length:Int)),(34, .int .i64 (k:Int))]∧mI=W.troops.length - k∧Mod (Rep.blkOf a.T) w wI∧Blk wI b_2 (Wd.cells a W) 28 (0,0)∧MapC wI r_9 (occ T)∧Trp.rep.SOwn 66 56 wI w0.heap.size (Rep.blkOf a.T) a.T a.t (T)∧repI.SOwn 3 8 wI w.heap.size (Rep.blkOf Am) Am cm (M)∧(k≤W.troops.length)∧(stS W.field l W.troops k=(T,M))∧(T.length=W.troops.length)∧(M.length≤k)∧(∀ q∈Rep.blkOf a.T,q=b_2→False)∧(∀ q∈Rep.blkOf a.T,q=r_9→False)∧(∀ q∈Rep.blkOf Am,q=b_2→False)∧(∀ q∈Rep.blkOf Am,q=r_9→False)∧(∀ q∈Rep.blkOf Am,q∈Rep.blkOf a.T→False)) _ _ ⟨0,W.troops, [],none,0,rfl,rfl,z_16,B_5,MT,hT,(Rep.SOwn.nil _),by omega,rfl,rfl,by simp,(λ q hq hb=>by (have:=u_20 q hq;have:=uT q hq;omega)),(λ q hq hb=>by (have:=u_20 q hq;have:=uT q hq;omega)),(λ q hq hb=>by (simp [Rep.blkOf] at hq)),(λ q hq hb=>by (simp [Rep.blkOf] at hq)),(λ q hq hb=>by (simp [Rep.blkOf] at hq))⟩ (.cons rfl (.cons rfl (.cons rfl (.cons rfl (.cons rfl (.cons rfl (.cons (loI rfl (by first | omega | rfl | (simp<;>omega))) .nil))))))) ?_
  rintro m_62 E_63 w_61 ⟨k,T,M,Am,cm,rfl,rfl,z_61,B_5,M2,O1,OM,hk,hS,hTL,hML,d_56,d_57,d_58,d_59,d_60⟩
  have:=z_61.size
  have q_65:=B_5.lt
  have q_66:=M2.lt
  have u_67:=λ q hq=>(O1.lt q hq).2
  have u_68:=λ q hq=>(OM.lt q hq).2
  have hokT:=trp_ok O1.has
  refine sg<|vL (blt rfl rfl)<|nK<|sq<| ?_
  refine clt rfl (λ h_69=> ?_) (λ h_69=> ?_)
  ·refine sK<|sq<|bk<|sg<|vm rfl<|va rfl<|nK<|sg<|vL (fa eF64 rfl)<|vL (ld rfl (B_5.one eF65 rfl))<|vm rfl<|vL (iA k Tryz.underlying26 eF66 rfl rfl (O1.has.adr (zl k (by omega))) rfl (by omega))<|al rfl eF99 rfl rfl λ w_70 b_71 x_72 l_73 B_74=> ?_
   have:=x_72.size
   have z_70:=z_61.trans (Mod.of_ext x_72)
   have q_76:=B_74.lt
   refine st (new:= [.pointer (some ⟨bA a.T,oA a.T+k * 7,none⟩)]) rfl rfl B_74 rfl eF100 rfl rfl rfl λ w_77 m_78 B_74=> ?_
   have:=m_78.size
   have z_77:=z_70.md m_78 (λ q hq=> .inr (by have:=List.mem_singleton.1 hq;omega))
   have:=m_78.size
   refine nK<|sg<|vm rfl<|vL (mf rfl rfl)<| ?_
   have O1:=O1.later x_72
   have O1:=O1.mod m_78 (fk1 u_67 (by omega))
   refine ca eF101 rfl rfl ((mgoI b_71 k l A c a.T a.t T _ (hl.keepM (Rep.flat_bare).1 z_77 hdl) B_74 O1.has (by omega)).mono ?_)
   rintro e w_81 ⟨rfl,x_82⟩
   refine ⟨_,rfl, ?_⟩
   have:=x_82.size
   have z_81:=z_77.trans (Mod.of_ext x_82)
   refine va rfl<|nK<|sq<|sg<|vm rfl<|vL (blt rfl rfl)<|nK<| ?_
   refine clt rfl (λ h_84=> ?_) (λ h_84=> ?_)
   ·refine xt<|xT<|xB<|nT<|rg<|vL (bad rfl rfl (inI (by omega)))<|vm rfl<|nl<| ?_
    have B_5:=B_5.later x_72
    have B_5:=B_5.mod m_78 (nm1 (by omega))
    have B_5:=B_5.later x_82
    have M2:=M2.later x_72
    have M2:=M2.mod m_78 (nm1 (by omega))
    have M2:=M2.later x_82
    have O1:=O1.later x_82
    have OM:=OM.later x_72
    have OM:=OM.mod m_78 (fk1 u_68 (by omega))
    have OM:=OM.later x_82
    exact nI _ _ ⟨k+1,T,M,Am,cm,rfl,rfl,z_81,B_5,M2,O1,OM,by omega,stS_none hS (step1_n1 h_84),hTL,by omega,(λ q hq hb=>by (exact d_56 q hq hb)),(λ q hq hb=>by (exact d_57 q hq hb)),(λ q hq hb=>by (exact d_58 q hq hb)),(λ q hq hb=>by (exact d_59 q hq hb)),(λ q hq hb=>by (exact d_60 q hq hb))⟩ (by omega) (.cons rfl (.cons rfl (.cons rfl (.cons rfl (.cons rfl (.cons rfl (.cons (loI rfl (by first | omega | rfl | (simp<;>omega))) .nil)))))))
   ·obtain ⟨hg1,hg2⟩:=goK_lt h_84
    refine sK<|sq<| ?_
    refine rd [(1,0),(2,0),(5,0),(10,0),(11,2)] [0,1,2,3,4,5,6,7,8,9,10,11,12,13,14,15,16,17,18] (by kernel_rfl) (by kernel_rfl) ?_
    refine fw1 rfl (λ _=>fa eF59 rfl)<| ?_
    have B_5:=B_5.later x_72
    have B_5:=B_5.mod m_78 (nm1 (by omega))
    have B_5:=B_5.later x_82
    refine fq1 rfl (λ _ x=>ld rfl ((B_5.later x).par [.int .i64 W.field.wide, .int .i64 W.field.high, .slice a.P W.field.places.length a.p] eF23 eF24 rfl))<| ?_
    have B_74:=B_74.later x_82
    refine fq1 rfl (λ _ x=>ld rfl ((B_74.later x).one eF97 rfl))<|fw1 rfl (λ _=>nc rfl)<|fw1 rfl (λ _=>fa eF56 rfl)<| ?_
    have O1:=O1.later x_82
    refine fq1 rfl (λ _ x=>ld rfl (Rep.SHas.part hcT ((O1.later x).has.adh (zl k (by omega))) 3 (ds:= [.int .i64 ((T.getD k default).spot.x), .int .i64 ((T.getD k default).spot.y)]) (get_d (l:=T) (u:=default) (by omega)) rfl eF3 eF4))<|fw1 rfl (λ _=>mv rfl)<|fw1 rfl (λ _=>mv rfl)<|fw1 rfl (λ _=>iA ((goK l (T.getD k default).id).toNat) Tryz.underlying124 eF94 rfl rfl ((hl.keepM (Rep.flat_bare).1 z_81 hdl).adr (zl ((goK l (T.getD k default).id).toNat) (by omega))) (by omega) (by omega))<|fw1 rfl (λ _=>fa eF102 rfl)<|fq1 rfl (λ _ x=>ld rfl (Rep.SHas.part hcGo ((hl.keepM (Rep.flat_bare).1 (z_81.trans (Mod.of_ext x)) hdl).adh (zl ((goK l (T.getD k default).id).toNat) (by omega))) 1 (ds:= [.int .i64 ((l.getD ((goK l (T.getD k default).id).toNat) default).to_.x), .int .i64 ((l.getD ((goK l (T.getD k default).id).toNat) default).to_.y)]) (get_d (l:=l) (u:=default) (by omega)) rfl eF3 eF4))<|fx rfl rfl rfl λ w_85 x_86 Q hK=>ca eF103 rfl rfl ((pfind_any W.field ((T.getD k default).spot) ((l.getD ((goK l (T.getD k default).id).toNat) default).to_) _ _ _ (hP.keepM (Rep.flat_bare).1 (z_81.trans (Mod.of_ext x_86)) (λ _=>hdP))).mono ?_)
    rintro e w_90 ⟨Y87,y87,rfl,OY87,x_91⟩
    refine ⟨_,rfl,hK _ _ ⟨eT x_86 x_91, ?_⟩⟩
    have:=x_86.size
    have z_85:=z_81.trans (Mod.of_ext x_86)
    have:=x_91.size
    have z_90:=z_85.trans (Mod.of_ext x_91)
    have u_88:=λ q hq=>(OY87.lt q hq).2
    have lo_89:=λ q hq=>(OY87.lt q hq).1
    have hwy:=OY87.has
    refine fw1 rfl (λ _=>mv rfl)<|fw1 rfl (λ _=>ex rfl rfl)<|fw1 rfl (λ _=>ex rfl rfl)<|fw1 rfl (λ _=>ex rfl rfl)<|fw1 rfl (λ _=>as_ rfl)<|fw1 rfl (λ _=>as_ rfl)<|fw1 rfl (λ _=>as_ rfl)<|fn λ w_94 x_95=> ?_
    have:=x_95.size
    have z_94:=z_90.trans (Mod.of_ext x_95)
    refine nT<|sq<|sg<|vm rfl<|vL (bne rfl rfl)<|vm rfl<|vQ rfl rfl rfl rfl (λ hc=>mv rfl) rfl<|vQ rfl rfl rfl rfl (λ hc=>ln Tryz.underlying25 (gt hc rfl)) rfl<|vQ rfl rfl rfl rfl (λ hc=>blt (gt hc rfl) rfl) rfl<|vL (pO rfl rfl rfl rfl)<|vm rfl<|vQ rfl rfl rfl rfl (λ hc=>mv rfl) rfl<|vQ rfl rfl rfl rfl (λ hc=>mv rfl) rfl<| ?_
    have OY87:=OY87.later x_95
    refine vQ rfl rfl rfl rfl (λ hc=>iA 1 Tryz.underlying25 eF4 (gt hc rfl) rfl (OY87.has.adr (zl 1 (by (try simp only [bS] at hc);omega))) rfl (by (try simp only [bS] at hc);omega)) rfl<|vQ rfl rfl rfl rfl (λ hc=>ld (gt hc rfl) (Rep.SHas.elt hcC (OY87.has.adh (zl 1 (by (try simp only [bS] at hc);omega))) (get_d (l:=findP W.field ((T.getD k default).spot) ((l.getD ((goK l (T.getD k default).id).toNat) default).to_)) (u:=default) (by (try simp only [bS] at hc);omega)) eF3 eF4)) rfl<| ?_
    have M2:=M2.later x_72
    have M2:=M2.mod m_78 (nm1 (by omega))
    have M2:=M2.later (eT x_82 (eT x_86 (eT x_91 x_95)))
    refine vQ rfl rfl rfl rfl (λ hc=>lkC (p:=(findP W.field ((T.getD k default).spot) ((l.getD ((goK l (T.getD k default).id).toNat) default).to_)).getD 1 default) M2 (cel_okd hwy 1) (gt hc rfl) (gt hc rfl)) rfl<|vQ rfl rfl rfl rfl (λ hc=>bgt (gt hc rfl) rfl) rfl<|vL (pO rfl rfl rfl rfl)<|nK<| ?_
    refine cb rfl (λ h_97=> ?_) (λ h_97=> ?_)
    ·simp only [bS] at h_97
     refine xt<|xT<|xB<|nT<|rg<|vL (bad rfl rfl (inI (by omega)))<|vm rfl<|nl<| ?_
     have B_5:=B_5.later (eT x_86 (eT x_91 x_95))
     have O1:=O1.later (eT x_86 (eT x_91 x_95))
     have OM:=OM.later x_72
     have OM:=OM.mod m_78 (fk1 u_68 (by omega))
     have OM:=OM.later (eT x_82 (eT x_86 (eT x_91 x_95)))
     exact nI _ _ ⟨k+1,T,M,Am,cm,rfl,rfl,z_94,B_5,M2,O1,OM,by omega,stS_none hS (step1_n2 (by omega) h_97),hTL,by omega,(λ q hq hb=>by (exact d_56 q hq hb)),(λ q hq hb=>by (exact d_57 q hq hb)),(λ q hq hb=>by (exact d_58 q hq hb)),(λ q hq hb=>by (exact d_59 q hq hb)),(λ q hq hb=>by (exact d_60 q hq hb))⟩ (by omega) (.cons rfl (.cons rfl (.cons rfl (.cons rfl (.cons rfl (.cons rfl (.cons (loI rfl (by first | omega | rfl | (simp<;>omega))) .nil)))))))
    ·simp only [bS] at h_97
     refine sK<|sq<| ?_
     refine rdM r_9 (occ T) [(1,0),(4,0),(5,0),(7,2),(9,3)] [0,1,2,3,4,5,6,7,8,9] (by kernel_rfl) (by kernel_rfl) ?_
     refine fwM rfl rfl (λ _=>mv rfl) rfl<| ?_
     have B_74:=B_74.later (eT x_86 (eT x_91 x_95))
     refine fqM rfl rfl (λ _ x=>ld rfl ((B_74.mod x.1 (nm1 (by omega))).one eF97 rfl)) rfl<|fwM rfl rfl (λ _=>nc rfl) rfl<|fwM rfl rfl (λ _=>fa eF56 rfl) rfl<| ?_
     have O1:=O1.later (eT x_86 (eT x_91 x_95))
     refine fqM rfl rfl (λ _ x=>ld rfl (Rep.SHas.part hcT ((O1.mod x.1 (λ q hq h=>by have hb:=List.mem_singleton.1 h;exfalso;(exact d_57 q hq hb))).has.adh (zl k (by omega))) 3 (ds:= [.int .i64 ((T.getD k default).spot.x), .int .i64 ((T.getD k default).spot.y)]) (get_d (l:=T) (u:=default) (by omega)) rfl eF3 eF4)) rfl<|fqM rfl rfl (λ _ x=>lkC (p:=(T.getD k default).spot) (x.2 M2) (spot_ok (hokT k)) rfl rfl) rfl<|fwM rfl rfl (λ _=>bsu rfl rfl (inI ((by have h1:=occ_le T ((T.getD k default).spot);(try rw [List.length_take] at h1);omega)))) rfl<|fxM rfl rfl rfl λ w_98 x_99 Q hK=>meC (p:=(T.getD k default).spot) (M2.later x_99) (spot_ok (hokT k)) rfl rfl rfl λ w_100 st_101 m_102 En_103=>hK _ _ ⟨(RM.of_ext x_99).trans ⟨m_102,λ _=>En_103.map⟩, ?_⟩
     have:=x_99.size
     have z_98:=z_94.trans (Mod.of_ext x_99)
     have:=m_102.size
     have z_100:=z_98.md m_102 (λ q hq=> .inr (by have:=List.mem_singleton.1 hq;omega))
     have C_106:=En_103.map
     have q_107:=C_106.lt
     refine fwM rfl rfl (λ _=>ex rfl rfl) rfl<|fbM rfl rfl rfl λ w_108 x_109 Q hK=>esC (En_103.later x_109) rfl rfl rfl λ w_110 m_111 C_112=>hK _ _ ?_
     have:=x_109.size
     have z_108:=z_100.trans (Mod.of_ext x_109)
     have:=m_111.size
     have z_110:=z_108.md m_111 (λ q hq=> .inr (by have:=List.mem_singleton.1 hq;omega))
     have q_115:=C_112.lt
     refine fnM λ w_116 x_117=> ?_
     have:=x_117.size
     have z_116:=z_110.trans (Mod.of_ext x_117)
     refine nT<|sq<| ?_
     refine rd [(0,0),(3,0),(6,3)] [0,1,2,3,4,5,6] (by kernel_rfl) (by kernel_rfl) ?_
     have B_74:=B_74.later x_99
     have B_74:=B_74.mod m_102 (nm1 (by omega))
     have B_74:=B_74.later x_109
     have B_74:=B_74.mod m_111 (nm1 (by omega))
     have B_74:=B_74.later x_117
     refine fq1 rfl (λ _ x=>ld rfl ((B_74.later x).one eF97 rfl))<|fw1 rfl (λ _=>mv rfl)<| ?_
     have OY87:=OY87.later x_99
     have OY87:=OY87.mod m_102 (fk2 lo_89 (by omega))
     have OY87:=OY87.later x_109
     have OY87:=OY87.mod m_111 (fk2 lo_89 (by omega))
     have OY87:=OY87.later x_117
     refine fw1 rfl (λ _=>iA 1 Tryz.underlying25 eF4 rfl rfl (OY87.has.adr (zl 1 (by omega))) rfl (by omega))<|fq1 rfl (λ _ x=>ld rfl (Rep.SHas.elt hcC ((OY87.later x).has.adh (zl 1 (by omega))) (get_d (l:=findP W.field ((T.getD k default).spot) ((l.getD ((goK l (T.getD k default).id).toNat) default).to_)) (u:=default) (by omega)) eF3 eF4))<|fw1 rfl (λ _=>nc rfl)<|fw1 rfl (λ _=>fa eF56 rfl)<| ?_
     have O1:=O1.later x_99
     have O1:=O1.mod m_102 (λ q hq h=>by have hb:=List.mem_singleton.1 h;exfalso;(exact d_57 q hq hb))
     have O1:=O1.later x_109
     have O1:=O1.mod m_111 (λ q hq h=>by have hb:=List.mem_singleton.1 h;exfalso;(exact d_57 q hq hb))
     have O1:=O1.later x_117
     refine fb rfl rfl rfl λ w_119 x_120 Q hK=>soP (q:=(T).getD k default) (q':=(⟨((T).getD k default).id,((T).getD k default).owner,((T).getD k default).kind,⟨((findP W.field ((T.getD k default).spot) ((l.getD ((goK l (T.getD k default).id).toNat) default).to_)).getD 1 default).x,((findP W.field ((T.getD k default).spot) ((l.getD ((goK l (T.getD k default).id).toNat) default).to_)).getD 1 default).y⟩,((T).getD k default).life,((T).getD k default).load⟩:Trp)) (i:=k) (j:=3) (old:= [.int .i64 (((T).getD k default).id), .int .i64 (((T).getD k default).owner), .int .i64 (((T).getD k default).kind), .int .i64 (((T).getD k default).spot.x), .int .i64 (((T).getD k default).spot.y), .int .i64 (((T).getD k default).life), .int .i64 (((T).getD k default).load)]) (part:= [.int .i64 (((findP W.field ((T.getD k default).spot) ((l.getD ((goK l (T.getD k default).id).toNat) default).to_)).getD 1 default).x), .int .i64 (((findP W.field ((T.getD k default).spot) ((l.getD ((goK l (T.getD k default).id).toNat) default).to_)).getD 1 default).y)]) (es:= [.int .i64 (((T).getD k default).id), .int .i64 (((T).getD k default).owner), .int .i64 (((T).getD k default).kind), .int .i64 (((findP W.field ((T.getD k default).spot) ((l.getD ((goK l (T.getD k default).id).toNat) default).to_)).getD 1 default).x), .int .i64 (((findP W.field ((T.getD k default).spot) ((l.getD ((goK l (T.getD k default).id).toNat) default).to_)).getD 1 default).y), .int .i64 (((T).getD k default).life), .int .i64 (((T).getD k default).load)]) (O1.later x_120) Rep.flat_bare (get_d (l:=T) (u:=default) (by omega)) hcT rfl rfl rfl rfl rfl rfl (λ _=>⟨rfl,(to_ok (hokT k) (cel_okd hwy 1))⟩) eF4 λ w_121 m_122 O_123=>hK _ _ ?_
     have:=x_120.size
     have z_119:=z_116.trans (Mod.of_ext x_120)
     have:=m_122.size
     have z_121:=z_119.md m_122 (λ q hq=> .inl hq)
     have:=m_122.size
     refine fn λ w_127 x_128=> ?_
     have:=x_128.size
     have z_127:=z_121.trans (Mod.of_ext x_128)
     refine nT<|sq<| ?_
     have C_112:=C_112.later (eT x_117 x_120)
     have C_112:=C_112.mod m_122 (λ hq=>d_57 _ hq rfl)
     have C_112:=C_112.later x_128
     refine rdM r_9 (upC (occ T) ((T.getD k default).spot) (((occ T) ((T.getD k default).spot)) - 1)) [(1,0),(4,0),(5,0),(7,2),(9,3)] [0,1,2,3,4,5,6,7,8,9] (by kernel_rfl) (by kernel_rfl) ?_
     refine fwM rfl rfl (λ _=>mv rfl) rfl<| ?_
     have B_74:=B_74.later x_120
     have d_130:∀ q∈Rep.blkOf a.T,q=b_71→False:=λ q hq hb=>by (have:=u_67 q hq;omega)
     have B_74:=B_74.mod m_122 (λ hq=>d_130 _ hq rfl)
     have B_74:=B_74.later x_128
     refine fqM rfl rfl (λ _ x=>ld rfl ((B_74.mod x.1 (nm1 (by omega))).one eF97 rfl)) rfl<|fwM rfl rfl (λ _=>nc rfl) rfl<|fwM rfl rfl (λ _=>fa eF56 rfl) rfl<| ?_
     have O_123:=O_123.later x_128
     refine fqM rfl rfl (λ _ x=>ld rfl (Rep.SHas.part hcT ((O_123.mod x.1 (λ q hq h=>by have hb:=List.mem_singleton.1 h;exfalso;(exact d_57 q hq hb))).has.adh (zl k (by rw [List.length_set];omega))) 3 (ds:= [.int .i64 (((T.getD k default).to_ ((findP W.field (T.getD k default).spot (l.getD (goK l (T.getD k default).id).toNat default).to_).getD 1 default)).spot.x), .int .i64 (((T.getD k default).to_ ((findP W.field (T.getD k default).spot (l.getD (goK l (T.getD k default).id).toNat default).to_).getD 1 default)).spot.y)]) (List.getElem?_set_self (by omega)) rfl eF3 eF4)) rfl<|fqM rfl rfl (λ _ x=>lkC (p:=((T.getD k default).to_ ((findP W.field (T.getD k default).spot (l.getD (goK l (T.getD k default).id).toNat default).to_).getD 1 default)).spot) (x.2 C_112) (cel_okd hwy 1) rfl rfl) rfl<|fwM rfl rfl (λ _=>bad rfl rfl (inI ((by have h0:=occ_le T ((T.getD k default).spot);have h1:=upC_le (x:=((T.getD k default).spot)) (v:=(((occ T) ((T.getD k default).spot)) - 1)) (occ_le T) (by omega) (by omega) (((T.getD k default).to_ ((findP W.field (T.getD k default).spot (l.getD (goK l (T.getD k default).id).toNat default).to_).getD 1 default)).spot);omega)))) rfl<|fxM rfl rfl rfl λ w_131 x_132 Q hK=>meC (p:=((T.getD k default).to_ ((findP W.field (T.getD k default).spot (l.getD (goK l (T.getD k default).id).toNat default).to_).getD 1 default)).spot) (C_112.later x_132) (cel_okd hwy 1) rfl rfl rfl λ w_133 st_134 m_135 En_136=>hK _ _ ⟨(RM.of_ext x_132).trans ⟨m_135,λ _=>En_136.map⟩, ?_⟩
     have:=x_132.size
     have z_131:=z_127.trans (Mod.of_ext x_132)
     have:=m_135.size
     have z_133:=z_131.md m_135 (λ q hq=> .inr (by have:=List.mem_singleton.1 hq;omega))
     have C_139:=En_136.map
     have q_140:=C_139.lt
     refine fwM rfl rfl (λ _=>ex rfl rfl) rfl<|fbM rfl rfl rfl λ w_141 x_142 Q hK=>esC (En_136.later x_142) rfl rfl rfl λ w_143 m_144 C_145=>hK _ _ ?_
     have:=x_142.size
     have z_141:=z_133.trans (Mod.of_ext x_142)
     have:=m_144.size
     have z_143:=z_141.md m_144 (λ q hq=> .inr (by have:=List.mem_singleton.1 hq;omega))
     have q_148:=C_145.lt
     refine fnM λ w_149 x_150=> ?_
     have:=x_150.size
     have z_149:=z_143.trans (Mod.of_ext x_150)
     refine nT<|rg<|vm rfl<| ?_
     have B_74:=B_74.later x_132
     have B_74:=B_74.mod m_135 (nm1 (by omega))
     have B_74:=B_74.later x_142
     have B_74:=B_74.mod m_144 (nm1 (by omega))
     have B_74:=B_74.later x_150
     refine vL (ld rfl (B_74.one eF97 rfl))<|vL (nc rfl)<|vL (fa eF69 rfl)<| ?_
     have O_123:=O_123.later x_132
     have O_123:=O_123.mod m_135 (λ q hq h=>by have hb:=List.mem_singleton.1 h;exfalso;(exact d_57 q hq hb))
     have O_123:=O_123.later x_142
     have O_123:=O_123.mod m_144 (λ q hq h=>by have hb:=List.mem_singleton.1 h;exfalso;(exact d_57 q hq hb))
     have O_123:=O_123.later x_150
     refine vL (ld rfl (Rep.SHas.fld hcT (O_123.has.adh (zl k (by rw [List.length_set];omega))) 0 (List.getElem?_set_self (by omega)) rfl eF1))<|bs (e:= 3) (cs:= [.int .i64 (((T.getD k default).to_ ((findP W.field (T.getD k default).spot (l.getD (goK l (T.getD k default).id).toNat default).to_).getD 1 default)).id)]) rfl (λ _=>by kernel_rfl) rfl λ w_152 b_153 x_154 l_155 B_156=> ?_
     have:=x_154.size
     have z_152:=z_149.trans (Mod.of_ext x_154)
     have q_158:=B_156.lt
     have OM:=OM.later x_72
     have OM:=OM.mod m_78 (fk1 u_68 (by omega))
     have OM:=OM.later (eT x_82 (eT x_86 (eT x_91 (eT x_95 x_99))))
     have OM:=OM.mod m_102 (λ q hq h=>by have hb:=List.mem_singleton.1 h;exfalso;(exact d_59 q hq hb))
     have OM:=OM.later x_109
     have OM:=OM.mod m_111 (λ q hq h=>by have hb:=List.mem_singleton.1 h;exfalso;(exact d_59 q hq hb))
     have OM:=OM.later (eT x_117 x_120)
     have OM:=OM.mod m_122 (λ q hq h=>by exfalso;(exact d_60 q hq h))
     have OM:=OM.later (eT x_128 x_132)
     have OM:=OM.mod m_135 (λ q hq h=>by have hb:=List.mem_singleton.1 h;exfalso;(exact d_59 q hq hb))
     have OM:=OM.later x_142
     have OM:=OM.mod m_144 (λ q hq h=>by have hb:=List.mem_singleton.1 h;exfalso;(exact d_59 q hq hb))
     have OM:=OM.later (eT x_150 x_154)
     refine ap Mrc_el_S_int Rep.flat_bare OM (Blk.has1 (R:=repI) (by_:=8) (q:=((T.getD k default).to_ ((findP W.field (T.getD k default).spot (l.getD (goK l (T.getD k default).id).toNat default).to_).getD 1 default)).id) B_156 ⟨rfl,okI_iff.2 (okI_iff.1 (hokT k).1)⟩ (by decide)) rfl rfl (by simp only [List.length_cons,List.length_nil];omega) (by simp only [List.length_cons,List.length_nil];omega) (by omega) rfl λ w_159 A_160 c_161 m_162 O_163 g_164 n_165=> ?_
     have:=m_162.size
     have z_159:=z_152.md m_162 (λ q hq=> .inr ((λ q hq=>Nat.le_trans (by omega) (OM.lt q hq).1) q hq))
     have u_167:=λ q hq=>(O_163.lt q hq).2
     have:=m_162.size
     refine va rfl<|nl<|nB<|nT<|rg<|vL (bad rfl rfl (inI (by omega)))<|vm rfl<|nl<| ?_
     have hS2:=stS_some hS (step1_some (by omega) h_97)
     have B_5:=B_5.later (eT x_86 (eT x_91 (eT x_95 x_99)))
     have B_5:=B_5.mod m_102 (nm1 (by omega))
     have B_5:=B_5.later x_109
     have B_5:=B_5.mod m_111 (nm1 (by omega))
     have B_5:=B_5.later (eT x_117 x_120)
     have B_5:=B_5.mod m_122 (λ hq=>d_56 _ hq rfl)
     have B_5:=B_5.later (eT x_128 x_132)
     have B_5:=B_5.mod m_135 (nm1 (by omega))
     have B_5:=B_5.later x_142
     have B_5:=B_5.mod m_144 (nm1 (by omega))
     have B_5:=B_5.later (eT x_150 x_154)
     have B_5:=B_5.mod m_162 (λ hq=>d_58 _ hq rfl)
     have C_145:=C_145.later (eT x_150 x_154)
     have C_145:=C_145.mod m_162 (λ hq=>d_59 _ hq rfl)
     have O_123:=O_123.later x_154
     have O_123:=O_123.mod m_162 (λ q hq h=>by exfalso;(exact d_60 q h hq))
     exact nI _ _ ⟨k+1,(T).set k ((⟨((T).getD k default).id,((T).getD k default).owner,((T).getD k default).kind,⟨((findP W.field ((T.getD k default).spot) ((l.getD ((goK l (T.getD k default).id).toNat) default).to_)).getD 1 default).x,((findP W.field ((T.getD k default).spot) ((l.getD ((goK l (T.getD k default).id).toNat) default).to_)).getD 1 default).y⟩,((T).getD k default).life,((T).getD k default).load⟩:Trp)),M++ [((T.getD k default).to_ ((findP W.field (T.getD k default).spot (l.getD (goK l (T.getD k default).id).toNat default).to_).getD 1 default)).id],A_160,c_161,rfl,rfl,z_159,B_5,(by rw [occ_set (by omega)];exact C_145),O_123,O_163,by omega,hS2,by rw [List.length_set];exact hTL,by rw [List.length_append,List.length_singleton];omega,(λ q hq hb=>by (exact d_56 q hq hb)),(λ q hq hb=>by (exact d_57 q hq hb)),(λ q hq hb=>by (exact Or.elim (g_164 q hq) (λ k_169=>by (exact d_58 q k_169 hb)) (λ k_169=>by omega))),(λ q hq hb=>by (exact Or.elim (g_164 q hq) (λ k_170=>by (exact d_59 q k_170 hb)) (λ k_170=>by omega))),(λ q hq hb=>by (exact Or.elim (g_164 q hq) (λ k_171=>by (exact d_60 q k_171 hb)) (λ k_171=>by (have:=u_67 q hb;omega))))⟩ (by omega) (.cons rfl (.cons rfl (.cons rfl (.cons rfl (.cons rfl (.cons rfl (.cons (loI rfl (by first | omega | rfl | (simp<;>omega))) .nil)))))))
  ·refine xt<|xT<|xK<|xB<|nT<|sg<|vm rfl<|va rfl<|nK<|rt<|tR (.tmp rfl .nil)<| ?_
   have ek:k=W.troops.length:=by omega
   subst ek
   have e1:(W.stepped l).2=M:=by show (stS _ _ _ _).2=M;rw [hS]
   have e2:(W.stepped l).1.troops=T:=by show (stS _ _ _ _).1=T;rw [hS]
   exact ⟨Am,cm,by rw [e1];rfl,by rw [e1];exact OM,by rw [e2];exact O1,z_61⟩
end
section
open Go.RowKit
def FindPost (W:Wd) (p:Trp→Bool) (w:World) (e:Ending) (w':World):Prop:=e= .returned (.tuple #[.int .i64 (whichI W p), .bool (whichB W p), .int .i64 W.chk])∧Below w.heap.size w w'
end
end Go.Proofs.YtlikikpgmmkjbaaGreat
