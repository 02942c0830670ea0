import Derived.Test.YtlikikpgmmkjbaaGreatGra
import Derived.Test.YtlikikpgmmkjbaaGreatSef
import Derived.Test.YtlikikpgmmkjbaaGreatSmo
set_option linter.unusedVariables false
set_option linter.unusedSimpArgs false
set_option maxRecDepth 100000
set_option maxHeartbeats 4000000
namespace Go.Proofs.YtlikikpgmmkjbaaGreat
section
open Go.RowKit
open Go.Proofs.YtlikikpgmmkjbaaGreat.Bv
theorem same_same (A Bq:Option Addr) (c d:Nat) (l m:List Odr) (w:World) (hl:Odr.rep.SHas 48 w A c l) (hm:Odr.rep.SHas 48 w Bq d m):
  Calls Tryz.prog 59 #[.slice A l.length c, .slice Bq m.length d] w (λ e w'=>e= .returned (.bool (decide (l=m)))∧Ext w w'):=by
 refine calls_W (n:=8) Tryz.func59 rfl rfl rfl ?_
 refine sg<|va rfl<|nK<|sg<|vm rfl<|vm rfl<|ca eF204 rfl rfl ((equal_O _ _ _ _ _ _ l m _ (hl.keep (Ext.rf w)) (hm.keep (Ext.rf w))).mono ?_)
 rintro e w_1 ⟨rfl,x_2⟩
 refine ⟨_,rfl, ?_⟩
 have:=x_2.size
 have z_1:=eT (Ext.rf w) x_2
 refine va rfl<|nK<|rt<|tR (.tmp rfl .nil)<| ?_
 exact ⟨rfl,z_1⟩
theorem sameStory_any (a:Wd.At) (W:Wd) (b:Wd.At) (X:Wd) (A Bq:Option Addr) (c d:Nat) (T Tm:List SV) (L Lm:List (List Odr)) (w:World) (hW:Wd.Has w a W) (hX:Wd.Has w b X) (hT:svRep.SHas 24 w A c T) (hL:Tells w T L) (hTm:svRep.SHas 24 w Bq d Tm) (hLm:Tells w Tm Lm):
  Calls Tryz.prog 24 #[.agg #[.int .i64 W.field.wide, .int .i64 W.field.high, .slice a.P W.field.places.length a.p, .slice a.B W.bases.length a.b, .slice a.S W.stocks.length a.s, .slice a.M W.mines.length a.m, .slice a.T W.troops.length a.t, .int .i64 W.next, .int .i64 W.now, .slice A T.length c], .agg #[.int .i64 X.field.wide, .int .i64 X.field.high, .slice b.P X.field.places.length b.p, .slice b.B X.bases.length b.b, .slice b.S X.stocks.length b.s, .slice b.M X.mines.length b.m, .slice b.T X.troops.length b.t, .int .i64 X.next, .int .i64 X.now, .slice Bq Tm.length d]] w (λ e w'=>e= .returned (.bool (decide (W=X) && decide (L=Lm)))∧Ext w w'):=by
 have hlT:=hT.len_le
 have hlTm:=hTm.len_le
 refine calls_W (n:=17) Tryz.func24 rfl rfl rfl ?_
 refine sg<|bx rfl rfl rfl rfl λ w_1 b_2 x_3 l_4 B_5=> ?_
 have:=x_3.size
 have z_1:=eT (Ext.rf w) x_3
 have q_7:=B_5.lt
 refine bx rfl rfl rfl rfl λ w_8 b_9 x_10 l_11 B_12=> ?_
 have:=x_10.size
 have z_8:=eT z_1 x_10
 have q_14:=B_12.lt
 refine va rfl<|nK<|sg<|vL (fa eF177 rfl)<| ?_
 have B_5:=B_5.later x_10
 refine vL (ld rfl (B_5.par [.int .i64 W.field.wide, .int .i64 W.field.high, .slice a.P W.field.places.length a.p, .slice a.B W.bases.length a.b, .slice a.S W.stocks.length a.s, .slice a.M W.mines.length a.m, .slice a.T W.troops.length a.t, .int .i64 W.next, .int .i64 W.now] eF61 eF62 rfl))<|vL (fa eF177 rfl)<|vL (ld rfl (B_12.par [.int .i64 X.field.wide, .int .i64 X.field.high, .slice b.P X.field.places.length b.p, .slice b.B X.bases.length b.b, .slice b.S X.stocks.length b.s, .slice b.M X.mines.length b.m, .slice b.T X.troops.length b.t, .int .i64 X.next, .int .i64 X.now] eF61 eF62 rfl))<|ca eF206 rfl rfl ((sameWorld_any _ a W b X (hW.keep z_8) (hX.keep z_8)).mono ?_)
 rintro e w_15 ⟨rfl,x_16⟩
 refine ⟨_,rfl, ?_⟩
 have:=x_16.size
 have z_15:=eT z_8 x_16
 refine vm rfl<|vQ rfl rfl rfl rfl (λ hc=>fa eF178 rfl) rfl<| ?_
 have B_5:=B_5.later x_16
 refine vQ rfl rfl rfl rfl (λ hc=>ld (gt hc rfl) (B_5.one eF179 rfl)) rfl<|vQ rfl rfl rfl rfl (λ hc=>fa eF178 rfl) rfl<| ?_
 have B_12:=B_12.later x_16
 refine vQ rfl rfl rfl rfl (λ hc=>ld (gt hc rfl) (B_12.one eF179 rfl)) rfl<|vC rfl rfl rfl rfl eF210 (λ hc=>ec (gt hc rfl) (ec (gt hc rfl) (ec rfl rfl))) (λ hc=>eqFV_any 59 [] _ _ _ _ T Tm L Lm _ (hT.keep z_15) (hL.keep z_15) (hTm.keep z_15) (hLm.keep z_15) eF209 (λ A B c d l m w' h h'=>same_same A B c d l m w' h h')) rfl λ w_18 x_19=> ?_
 have:=x_19.size
 have z_18:=eT z_15 x_19
 refine vL (pA rfl rfl rfl rfl)<|va rfl<|nK<|rt<|tR (.tmp rfl .nil)<| ?_
 exact ⟨rfl,z_18⟩
end
section
open Go.RowKit
open Go.Proofs.YtlikikpgmmkjbaaGreat.Bv
theorem MoreR.ok {W:Wd} {L:List (List Odr)} {l:List Odr} {e:Int} {V:Wd} {L':List (List Odr)} (h:MoreR W L l e V L') (h0:e=0):StOk W L∧L.length<200∧turnE (runW W L) l=0∧V=W∧L'=L++ [l]:=by
 rcases h with h | h
 ·exact h.2
 ·exact absurd h0 h.1
theorem MoreR.no {W:Wd} {L:List (List Odr)} {l:List Odr} {e:Int} {V:Wd} {L':List (List Odr)} (h:MoreR W L l e V L') (h0:e≠0):V=Wd.zero∧L'= []:=by
 rcases h with h | h
 ·exact absurd h.1 h0
 ·exact h.2.2
theorem more_ok {W X Y Z:Wd} {L:List (List Odr)} {l:List Odr} {n e2 e3 e4 e5:Int} {r r':BitVec 64} (h:StOk W L) (h1:L.length<200) (h2:turnE (runW W L) l=0) (hn:n=(L.length:Int)) (hX:X=runW W (L.take n.toNat))
  (hY:ARes W (L++ [l]) (n+1) e2 Y) (hZ:ARes W (L++ [l]) n e3 Z) (hr:RootR W L n e4 r) (hr':RootR W (L++ [l]) n e5 r'):turnE X l=0∧e2=0∧e3=0∧(e4=0∧e5=0)∧(turnW X l=Y∧Z=X)∧r=r':=by
 subst hn
 rw [Int.toNat_natCast,List.take_length] at hX
 have hl:(L++ [l]).length=L.length+1:=by simp
 have h3:StOk W (L++ [l]):=⟨by omega,h.2.1,by rw [runE_app,if_neg (by simpa using h.2.2),runE_one];exact h2⟩
 obtain ⟨a1,a2⟩:=hY.out h3 (by omega) (by omega)
 obtain ⟨b1,b2⟩:=hZ.out h3 (by omega) (by omega)
 obtain ⟨c1,c2⟩:=hr.out h (by omega) (by omega)
 obtain ⟨d1,d2⟩:=hr'.out h3 (by omega) (by omega)
 have e1:((L.length:Int)+1).toNat=(L++ [l]).length:=by omega
 rw [e1,List.take_length,runW_app] at a2
 have hk:(L++ [l]).take (L.length:Int).toNat=L:=by rw [Int.toNat_natCast,List.take_left'];rfl
 rw [hk] at b2 d2
 rw [Int.toNat_natCast,List.take_length] at c2
 exact ⟨by rw [hX];exact h2,a1,b1,⟨c1,d1⟩,⟨by rw [a2,hX];rfl,by rw [b2,hX]⟩,by rw [c2,d2]⟩
theorem storyMore_w (a:Wd.At) (W:Wd) (A:Option Addr) (c:Nat) (T:List SV) (L:List (List Odr)) (Al:Option Addr) (cl:Nat) (l:List Odr) (w:World) (hW:Wd.Has w a W) (hT:svRep.SHas 24 w A c T) (hL:Tells w T L) (hl:Odr.rep.SHas 48 w Al cl l):
  Calls Tryz.prog 6 #[.agg #[.int .i64 W.field.wide, .int .i64 W.field.high, .slice a.P W.field.places.length a.p, .slice a.B W.bases.length a.b, .slice a.S W.stocks.length a.s, .slice a.M W.mines.length a.m, .slice a.T W.troops.length a.t, .int .i64 W.next, .int .i64 W.now, .slice A T.length c], .slice Al l.length cl] w (λ e w'=>e= .returned (.bool true)∧Ext w w'):=by
 have hlT:=hT.len_le
 refine calls_W (n:=123) Tryz.func6 rfl rfl rfl ?_
 refine sg<|bx rfl rfl rfl rfl λ w_1 b_2 x_3 l_4 B_5=> ?_
 have:=x_3.size
 have z_1:=eT (Ext.rf w) x_3
 have q_7:=B_5.lt
 refine va rfl<|nK<|sg<|vL (ld rfl (B_5.all eF181 eF182))<|vm rfl<|ca eF211 rfl rfl ((more_any a W _ _ T L _ _ l _ (hW.keep z_1) (hT.keep z_1) (hL.keep z_1) (hl.keep z_1)).mono ?_)
 rintro e w_13 ⟨E8,a8,V8,A8,c8,T8,L8,rfl,hr8,HO8,OS8,HT8,x_14⟩
 refine ⟨_,rfl, ?_⟩
 have:=x_14.size
 have z_13:=eT z_1 x_14
 have u_9:=λ q hq=>(HO8.lt q hq).2
 have lo_10:=λ q hq=>(HO8.lt q hq).1
 have u_11:=λ q hq=>(OS8.lt q hq).2
 have lo_12:=λ q hq=>(OS8.lt q hq).1
 have uTl8:=λ q hq=>(HT8.lt q hq).2
 have lTl8:=λ q hq=>(HT8.lt q hq).1
 refine vm rfl<|vL (ex rfl rfl)<|vL (ex rfl rfl)<|al rfl eF199 rfl rfl λ w_16 b_17 x_18 l_19 B_20=> ?_
 have:=x_18.size
 have z_16:=eT z_13 x_18
 have q_22:=B_20.lt
 refine st (new:= [.int .i64 V8.field.wide, .int .i64 V8.field.high, .slice a8.P V8.field.places.length a8.p, .slice a8.B V8.bases.length a8.b, .slice a8.S V8.stocks.length a8.s, .slice a8.M V8.mines.length a8.m, .slice a8.T V8.troops.length a8.t, .int .i64 V8.next, .int .i64 V8.now, .slice A8 T8.length c8]) rfl rfl B_20 rfl eF182 rfl rfl rfl λ w_23 m_24 B_20=> ?_
 have:=m_24.size
 have z_23:=Ext.mod z_16 m_24 (ge1 (by omega))
 have:=m_24.size
 refine va rfl<|nK<|sg<| ?_
 have B_5:=B_5.later (eT x_14 x_18)
 have B_5:=B_5.mod m_24 (nm1 (by omega))
 refine vL (ld rfl (B_5.all eF181 eF182))<|vL (fa eF178 rfl)<|vL (ld rfl (B_5.one eF179 rfl))<|vL (ln Tryz.underlying29 rfl)<|ca eF200 rfl rfl ((at_any a W _ _ T L (T.length:Int) _ (hW.keep z_23) (hT.keep z_23) (hL.keep z_23)).mono ?_)
 rintro e w_30 ⟨E27,a27,V27,rfl,hr27,HO27,x_31⟩
 refine ⟨_,rfl, ?_⟩
 have:=x_31.size
 have z_30:=eT z_23 x_31
 have u_28:=λ q hq=>(HO27.lt q hq).2
 have lo_29:=λ q hq=>(HO27.lt q hq).1
 refine vm rfl<|vL (ex rfl rfl)<|vL (ex rfl rfl)<|al rfl eF80 rfl rfl λ w_33 b_34 x_35 l_36 B_37=> ?_
 have:=x_35.size
 have z_33:=eT z_30 x_35
 have q_39:=B_37.lt
 refine st rfl rfl B_37 rfl eF62 rfl rfl rfl λ w_40 m_41 B_37=> ?_
 have:=m_41.size
 have z_40:=Ext.mod z_33 m_41 (ge1 (by omega))
 have:=m_41.size
 refine va rfl<|nK<|sq<|sg<|ca eF205 rfl rfl ((storyLives_any _).mono ?_)
 rintro e w_44 ⟨rfl,x_45⟩
 refine ⟨_,rfl, ?_⟩
 have:=x_45.size
 have z_44:=eT z_40 x_45
 refine vL (nt rfl)<|vm rfl<|ug rfl rfl rfl<|vm rfl<|ug rfl rfl rfl<|vL (bne rfl rfl)<|vL (pkF rfl rfl)<|vm rfl<|vQ rfl rfl rfl rfl (λ hc=>mv rfl) rfl<|vQ rfl rfl rfl rfl (λ hc=>bne (gt hc rfl) rfl) rfl<|vL (pO rfl rfl rfl rfl)<|nK<| ?_
 refine cb rfl (λ h_47=> ?_) (λ h_47=> ?_)
 ·simp only [bS] at h_47
  have hlL:=hL.1
  have hE1:E8≠0:=λ h_=>by obtain ⟨o1,_⟩:=hr8.ok h_;have:=(hr27.out o1 (by omega) (by omega)).1;omega
  obtain ⟨f1,f2⟩:=hr8.no hE1
  refine sg<|ca eF205 rfl rfl ((storyLives_any _).mono ?_)
  rintro e w_48 ⟨rfl,x_49⟩
  refine ⟨_,rfl, ?_⟩
  have:=x_49.size
  have z_48:=eT z_44 x_49
  refine vm rfl<|ug rfl rfl rfl<| ?_
  have B_20:=B_20.later (eT x_31 x_35)
  have B_20:=B_20.mod m_41 (nm1 (by omega))
  have B_20:=B_20.later (eT x_45 x_49)
  refine vL (ld rfl (B_20.all eF181 eF182))<|ug rfl rfl rfl<|vL (v:= .agg #[.int .i64 0, .int .i64 0, .slice none 0 0, .slice none 0 0, .slice none 0 0, .slice none 0 0, .slice none 0 0, .int .i64 0, .int .i64 0, .slice none 0 0]) (bd rfl (by kernel_rfl))<|ug rfl rfl rfl<| ?_
  have OS8:=OS8.later x_18
  have OS8:=OS8.mod m_24 (fk1 u_11 (by omega))
  have OS8:=OS8.later (eT x_31 x_35)
  have OS8:=OS8.mod m_41 (fk1 u_11 (by omega))
  have OS8:=OS8.later (eT x_45 x_49)
  have HT8:=HT8.later x_18
  have HT8:=HT8.mod m_24 (fk1 uTl8 (by omega))
  have HT8:=HT8.later (eT x_31 x_35)
  have HT8:=HT8.mod m_41 (fk1 uTl8 (by omega))
  have HT8:=HT8.later (eT x_45 x_49)
  have HO8:=HO8.later x_18
  have HO8:=HO8.mod m_24 (fk1 u_9 (by omega))
  have HO8:=HO8.later (eT x_31 x_35)
  have HO8:=HO8.mod m_41 (fk1 u_9 (by omega))
  have HO8:=HO8.later (eT x_45 x_49)
  refine ca eF212 rfl rfl ((sameStory_any a8 V8 (⟨none,none,none,none,none,0,0,0,0,0⟩:Wd.At) Wd.zero _ _ _ _ T8 ([]:List SV) L8 ([]) _ HO8.has (WOwn.zero _ 0).has OS8.has (HT8.tells) (Rep.SHas.nil _) Tells.nil).mono ?_)
  rintro e w_51 ⟨rfl,x_52⟩
  refine ⟨_,rfl, ?_⟩
  have:=x_52.size
  have z_51:=eT z_48 x_52
  refine vL (pkT rfl rfl)<|va rfl<|nK<|rt<|tT<|tR (.tmp rfl .nil)<| ?_
  exact ⟨ret_true (by simp [f1,f2]),z_51⟩
 ·simp only [bS] at h_47
  have hlL:=hL.1
  have hE1:E8=0:=by omega
  have hE2:E27=0:=by omega
  obtain ⟨o1,o2,o3,o4,o5⟩:=hr8.ok hE1
  obtain ⟨_,p2,p3,p4⟩:=hr27.ok hE2
  refine sK<|sg<| ?_
  have B_37:=B_37.later x_45
  refine vL (ld rfl (B_37.all eF61 eF62))<|vm rfl<| ?_
  have HO27:=HO27.later x_35
  have HO27:=HO27.mod m_41 (fk1 u_28 (by omega))
  have HO27:=HO27.later x_45
  refine ca eF176 rfl rfl ((turn_any a27 V27 _ _ l _ HO27.has (hl.keep z_44)).mono ?_)
  rintro e w_63 ⟨a54,A540,c540,A541,c541,A542,c542,rfl,HO54,OR540,OR541,OR542,hd54,x_64⟩
  refine ⟨_,rfl, ?_⟩
  have:=x_64.size
  have z_63:=eT z_44 x_64
  have u_55:=λ q hq=>(HO54.lt q hq).2
  have lo_56:=λ q hq=>(HO54.lt q hq).1
  have u_57:=λ q hq=>(OR540.lt q hq).2
  have lo_58:=λ q hq=>(OR540.lt q hq).1
  have u_59:=λ q hq=>(OR541.lt q hq).2
  have lo_60:=λ q hq=>(OR541.lt q hq).1
  have u_61:=λ q hq=>(OR542.lt q hq).2
  have lo_62:=λ q hq=>(OR542.lt q hq).1
  have dd540:∀ q∈Rep.blkOf A540,q∈WOwn.foot a54→False:=λ q hq=>hd54 q (.inl hq)
  have dw540:∀ q∈WOwn.foot a54,q∈Rep.blkOf A540→False:=λ q h1 h2=>dd540 q h2 h1
  have dd541:∀ q∈Rep.blkOf A541,q∈WOwn.foot a54→False:=λ q hq=>hd54 q (.inr (.inl hq))
  have dw541:∀ q∈WOwn.foot a54,q∈Rep.blkOf A541→False:=λ q h1 h2=>dd541 q h2 h1
  have dd542:∀ q∈Rep.blkOf A542,q∈WOwn.foot a54→False:=λ q hq=>hd54 q (.inr (.inr hq))
  have dw542:∀ q∈WOwn.foot a54,q∈Rep.blkOf A542→False:=λ q h1 h2=>dd542 q h2 h1
  refine vm rfl<|vL (ex rfl rfl)<|vL (ex rfl rfl)<|vL (ex rfl rfl)<|al rfl eF80 rfl rfl λ w_66 b_67 x_68 l_69 B_70=> ?_
  have:=x_68.size
  have z_66:=eT z_63 x_68
  have q_72:=B_70.lt
  refine al rfl eF158 rfl rfl λ w_73 b_74 x_75 l_76 B_77=> ?_
  have:=x_75.size
  have z_73:=eT z_66 x_75
  have q_79:=B_77.lt
  have B_70:=B_70.later x_75
  refine st rfl rfl B_70 rfl eF62 rfl rfl rfl λ w_80 m_81 B_70=> ?_
  have:=m_81.size
  have z_80:=Ext.mod z_73 m_81 (ge1 (by omega))
  have:=m_81.size
  have B_77:=B_77.mod m_81 (nm1 (by omega))
  refine st (new:= [.slice A540 ((turnG V27 l).length) c540, .slice A541 ((turnM V27 l).length) c541, .slice A542 ((turnD V27 l).length) c542]) rfl rfl B_77 rfl eF160 rfl rfl rfl λ w_84 m_85 B_77=> ?_
  have:=m_85.size
  have z_84:=Ext.mod z_80 m_85 (ge1 (by omega))
  have:=m_85.size
  refine va rfl<|nK<|sg<| ?_
  have B_20:=B_20.later (eT x_31 x_35)
  have B_20:=B_20.mod m_41 (nm1 (by omega))
  have B_20:=B_20.later (eT x_45 (eT x_64 (eT x_68 x_75)))
  have B_20:=B_20.mod m_81 (nm1 (by omega))
  have B_20:=B_20.mod m_85 (nm1 (by omega))
  refine vL (ld rfl (B_20.all eF181 eF182))<|vL (fa eF178 rfl)<| ?_
  have B_5:=B_5.later (eT x_31 x_35)
  have B_5:=B_5.mod m_41 (nm1 (by omega))
  have B_5:=B_5.later (eT x_45 (eT x_64 (eT x_68 x_75)))
  have B_5:=B_5.mod m_81 (nm1 (by omega))
  have B_5:=B_5.mod m_85 (nm1 (by omega))
  refine vL (ld rfl (B_5.one eF179 rfl))<|vL (ln Tryz.underlying29 rfl)<|vL (bad rfl rfl (inI (by omega)))<| ?_
  have OS8:=OS8.later x_18
  have OS8:=OS8.mod m_24 (fk1 u_11 (by omega))
  have OS8:=OS8.later (eT x_31 x_35)
  have OS8:=OS8.mod m_41 (fk1 u_11 (by omega))
  have OS8:=OS8.later (eT x_45 (eT x_64 (eT x_68 x_75)))
  have OS8:=OS8.mod m_81 (fk1 u_11 (by omega))
  have OS8:=OS8.mod m_85 (fk1 u_11 (by omega))
  have HT8:=HT8.later x_18
  have HT8:=HT8.mod m_24 (fk1 uTl8 (by omega))
  have HT8:=HT8.later (eT x_31 x_35)
  have HT8:=HT8.mod m_41 (fk1 uTl8 (by omega))
  have HT8:=HT8.later (eT x_45 (eT x_64 (eT x_68 x_75)))
  have HT8:=HT8.mod m_81 (fk1 uTl8 (by omega))
  have HT8:=HT8.mod m_85 (fk1 uTl8 (by omega))
  have HO8:=HO8.later x_18
  have HO8:=HO8.mod m_24 (fk1 u_9 (by omega))
  have HO8:=HO8.later (eT x_31 x_35)
  have HO8:=HO8.mod m_41 (fk1 u_9 (by omega))
  have HO8:=HO8.later (eT x_45 (eT x_64 (eT x_68 x_75)))
  have HO8:=HO8.mod m_81 (fk1 u_9 (by omega))
  have HO8:=HO8.mod m_85 (fk1 u_9 (by omega))
  refine ca eF200 rfl rfl ((at_any a8 V8 _ _ T8 L8 ((T.length:Int)+1) _ HO8.has OS8.has (HT8.tells)).mono ?_)
  rintro e w_91 ⟨E88,a88,V88,rfl,hr88,HO88,x_92⟩
  refine ⟨_,rfl, ?_⟩
  have:=x_92.size
  have z_91:=eT z_84 x_92
  have u_89:=λ q hq=>(HO88.lt q hq).2
  have lo_90:=λ q hq=>(HO88.lt q hq).1
  refine vm rfl<|vL (ex rfl rfl)<|vL (ex rfl rfl)<|al rfl eF80 rfl rfl λ w_94 b_95 x_96 l_97 B_98=> ?_
  have:=x_96.size
  have z_94:=eT z_91 x_96
  have q_100:=B_98.lt
  refine st rfl rfl B_98 rfl eF62 rfl rfl rfl λ w_101 m_102 B_98=> ?_
  have:=m_102.size
  have z_101:=Ext.mod z_94 m_102 (ge1 (by omega))
  have:=m_102.size
  refine va rfl<|nK<|sg<| ?_
  have B_20:=B_20.later (eT x_92 x_96)
  have B_20:=B_20.mod m_102 (nm1 (by omega))
  refine vL (ld rfl (B_20.all eF181 eF182))<|vL (fa eF178 rfl)<| ?_
  have B_5:=B_5.later (eT x_92 x_96)
  have B_5:=B_5.mod m_102 (nm1 (by omega))
  refine vL (ld rfl (B_5.one eF179 rfl))<|vL (ln Tryz.underlying29 rfl)<| ?_
  have OS8:=OS8.later (eT x_92 x_96)
  have OS8:=OS8.mod m_102 (fk1 u_11 (by omega))
  have HT8:=HT8.later (eT x_92 x_96)
  have HT8:=HT8.mod m_102 (fk1 uTl8 (by omega))
  have HO8:=HO8.later (eT x_92 x_96)
  have HO8:=HO8.mod m_102 (fk1 u_9 (by omega))
  refine ca eF200 rfl rfl ((at_any a8 V8 _ _ T8 L8 (T.length:Int) _ HO8.has OS8.has (HT8.tells)).mono ?_)
  rintro e w_108 ⟨E105,a105,V105,rfl,hr105,HO105,x_109⟩
  refine ⟨_,rfl, ?_⟩
  have:=x_109.size
  have z_108:=eT z_101 x_109
  have u_106:=λ q hq=>(HO105.lt q hq).2
  have lo_107:=λ q hq=>(HO105.lt q hq).1
  refine vm rfl<|vL (ex rfl rfl)<|vL (ex rfl rfl)<|al rfl eF80 rfl rfl λ w_111 b_112 x_113 l_114 B_115=> ?_
  have:=x_113.size
  have z_111:=eT z_108 x_113
  have q_117:=B_115.lt
  refine st rfl rfl B_115 rfl eF62 rfl rfl rfl λ w_118 m_119 B_115=> ?_
  have:=m_119.size
  have z_118:=Ext.mod z_111 m_119 (ge1 (by omega))
  have:=m_119.size
  refine va rfl<|nK<|sg<| ?_
  have B_5:=B_5.later (eT x_109 x_113)
  have B_5:=B_5.mod m_119 (nm1 (by omega))
  refine vL (ld rfl (B_5.all eF181 eF182))<|vL (fa eF178 rfl)<|vL (ld rfl (B_5.one eF179 rfl))<|vL (ln Tryz.underlying29 rfl)<|ca eF202 rfl rfl ((root_any_ a W _ _ T L (T.length:Int) _ (hW.keep z_118) (hT.keep z_118) (hL.keep z_118)).mono ?_)
  rintro e w_123 ⟨E122,r122,rfl,hr122,x_124⟩
  refine ⟨_,rfl, ?_⟩
  have:=x_124.size
  have z_123:=eT z_118 x_124
  refine vm rfl<|vL (ex rfl rfl)<|vL (ex rfl rfl)<|va rfl<|va rfl<|nK<|sg<| ?_
  have B_20:=B_20.later (eT x_109 x_113)
  have B_20:=B_20.mod m_119 (nm1 (by omega))
  have B_20:=B_20.later x_124
  refine vL (ld rfl (B_20.all eF181 eF182))<|vL (fa eF178 rfl)<| ?_
  have B_5:=B_5.later x_124
  refine vL (ld rfl (B_5.one eF179 rfl))<|vL (ln Tryz.underlying29 rfl)<| ?_
  have OS8:=OS8.later (eT x_109 x_113)
  have OS8:=OS8.mod m_119 (fk1 u_11 (by omega))
  have OS8:=OS8.later x_124
  have HT8:=HT8.later (eT x_109 x_113)
  have HT8:=HT8.mod m_119 (fk1 uTl8 (by omega))
  have HT8:=HT8.later x_124
  have HO8:=HO8.later (eT x_109 x_113)
  have HO8:=HO8.mod m_119 (fk1 u_9 (by omega))
  have HO8:=HO8.later x_124
  refine ca eF202 rfl rfl ((root_any_ a8 V8 _ _ T8 L8 (T.length:Int) _ HO8.has OS8.has (HT8.tells)).mono ?_)
  rintro e w_127 ⟨E126,r126,rfl,hr126,x_128⟩
  refine ⟨_,rfl, ?_⟩
  have:=x_128.size
  have z_127:=eT z_123 x_128
  refine vm rfl<|vL (ex rfl rfl)<|vL (ex rfl rfl)<|va rfl<|va rfl<|nK<|sg<|vm rfl<|vL (beq rfl rfl)<|vm rfl<|vQ rfl rfl rfl rfl (λ hc=>mv rfl) rfl<|vQ rfl rfl rfl rfl (λ hc=>beq (gt hc rfl) rfl) rfl<|vL (pA rfl rfl rfl rfl)<|vm rfl<|vQ rfl rfl rfl rfl (λ hc=>mv rfl) rfl<|vQ rfl rfl rfl rfl (λ hc=>beq (gt hc rfl) rfl) rfl<|vL (pA rfl rfl rfl rfl)<|vm rfl<|vQ rfl rfl rfl rfl (λ hc=>mv rfl) rfl<|vQ rfl rfl rfl rfl (λ hc=>beq (gt hc rfl) rfl) rfl<|vL (pA rfl rfl rfl rfl)<|vm rfl<| ?_
  refine vQ rfl rfl rfl rfl (λ hc=>mv rfl) rfl<|vQ rfl rfl rfl rfl (λ hc=>beq (gt hc rfl) rfl) rfl<|vL (pA rfl rfl rfl rfl)<|vm rfl<| ?_
  have B_70:=B_70.mod m_85 (nm1 (by omega))
  have B_70:=B_70.later (eT x_92 x_96)
  have B_70:=B_70.mod m_102 (nm1 (by omega))
  have B_70:=B_70.later (eT x_109 x_113)
  have B_70:=B_70.mod m_119 (nm1 (by omega))
  have B_70:=B_70.later (eT x_124 x_128)
  refine vQ rfl rfl rfl rfl (λ hc=>ld rfl (B_70.all eF61 eF62)) rfl<| ?_
  have B_98:=B_98.later (eT x_109 x_113)
  have B_98:=B_98.mod m_119 (nm1 (by omega))
  have B_98:=B_98.later (eT x_124 x_128)
  refine vQ rfl rfl rfl rfl (λ hc=>ld rfl (B_98.all eF61 eF62)) rfl<| ?_
  have HO54:=HO54.later (eT x_68 x_75)
  have HO54:=HO54.mod m_81 (fk1 u_55 (by omega))
  have HO54:=HO54.mod m_85 (fk1 u_55 (by omega))
  have HO54:=HO54.later (eT x_92 x_96)
  have HO54:=HO54.mod m_102 (fk1 u_55 (by omega))
  have HO54:=HO54.later (eT x_109 x_113)
  have HO54:=HO54.mod m_119 (fk1 u_55 (by omega))
  have HO54:=HO54.later (eT x_124 x_128)
  have HO88:=HO88.later x_96
  have HO88:=HO88.mod m_102 (fk1 u_89 (by omega))
  have HO88:=HO88.later (eT x_109 x_113)
  have HO88:=HO88.mod m_119 (fk1 u_89 (by omega))
  have HO88:=HO88.later (eT x_124 x_128)
  refine vC rfl rfl rfl rfl eF206 (λ hc=>ec (gt hc rfl) (ec (gt hc rfl) rfl)) (λ hc=>sameWorld_any _ a54 (turnW V27 l) a88 V88 HO54.has HO88.has) rfl λ w_130 x_131=> ?_
  have:=x_131.size
  have z_130:=eT z_127 x_131
  refine vL (pA rfl rfl rfl rfl)<|vm rfl<| ?_
  have B_115:=B_115.later (eT x_124 (eT x_128 x_131))
  refine vQ rfl rfl rfl rfl (λ hc=>ld rfl (B_115.all eF61 eF62)) rfl<| ?_
  have B_37:=B_37.later (eT x_64 (eT x_68 x_75))
  have B_37:=B_37.mod m_81 (nm1 (by omega))
  have B_37:=B_37.mod m_85 (nm1 (by omega))
  have B_37:=B_37.later (eT x_92 x_96)
  have B_37:=B_37.mod m_102 (nm1 (by omega))
  have B_37:=B_37.later (eT x_109 x_113)
  have B_37:=B_37.mod m_119 (nm1 (by omega))
  have B_37:=B_37.later (eT x_124 (eT x_128 x_131))
  refine vQ rfl rfl rfl rfl (λ hc=>ld rfl (B_37.all eF61 eF62)) rfl<| ?_
  have HO105:=HO105.later x_113
  have HO105:=HO105.mod m_119 (fk1 u_106 (by omega))
  have HO105:=HO105.later (eT x_124 (eT x_128 x_131))
  have HO27:=HO27.later (eT x_64 (eT x_68 x_75))
  have HO27:=HO27.mod m_81 (fk1 u_28 (by omega))
  have HO27:=HO27.mod m_85 (fk1 u_28 (by omega))
  have HO27:=HO27.later (eT x_92 x_96)
  have HO27:=HO27.mod m_102 (fk1 u_28 (by omega))
  have HO27:=HO27.later (eT x_109 x_113)
  have HO27:=HO27.mod m_119 (fk1 u_28 (by omega))
  have HO27:=HO27.later (eT x_124 (eT x_128 x_131))
  refine vC rfl rfl rfl rfl eF206 (λ hc=>ec (gt hc rfl) (ec (gt hc rfl) rfl)) (λ hc=>sameWorld_any _ a105 V105 a27 V27 HO105.has HO27.has) rfl λ w_133 x_134=> ?_
  have:=x_134.size
  have z_133:=eT z_130 x_134
  refine vL (pA rfl rfl rfl rfl)<|vm rfl<|vQ rfl rfl rfl rfl (λ hc=>mv rfl) rfl<|vQ rfl rfl rfl rfl (λ hc=>mv rfl) rfl<|vQ rfl rfl rfl rfl (λ hc=>beq (gt hc rfl) (gt hc rfl)) rfl<|vL (pA rfl rfl rfl rfl)<|va rfl<|nK<|rt<|tR (.tmp rfl .nil)<| ?_
  obtain ⟨g0,g1,g2,g3,g4,g5⟩:=more_ok o1 o2 o3 (by omega) p4 (o4 ▸ o5 ▸ hr88) (o4 ▸ o5 ▸ hr105) hr122 (o4 ▸ o5 ▸ hr126)
  exact ⟨ret_true (by simp [g0,g1,g2,g3,g4,g5]),z_133⟩
theorem storyMore_any (c0:Array Value) (a1:Option Addr) (len1 cap1:Nat) (w:World) (h0:(.cons (.cons (.cons (.int .i64) (.cons (.int .i64) (.cons (.slice (.int .i64) 8) .nil))) (.cons (.slice (.cons (.int .i64) (.cons (.int .i64) .nil)) 16) (.cons (.slice (.int .i64) 8) (.cons (.slice (.int .i64) 8) (.cons (.slice (.cons (.int .i64) (.cons (.int .i64) (.cons (.int .i64) (.cons (.cons (.int .i64) (.cons (.int .i64) .nil)) (.cons (.int .i64) (.cons (.int .i64) .nil)))))) 56) (.cons (.int .i64) (.cons (.int .i64) .nil))))))) (.cons (.slice (.slice (.cons (.int .i64) (.cons (.int .i64) (.cons (.int .i64) (.cons (.cons (.int .i64) (.cons (.int .i64) .nil)) (.cons (.int .i64) .nil))))) 48) 24) .nil):Sh).Ok w c0.toList) (h1:(.slice (.cons (.int .i64) (.cons (.int .i64) (.cons (.int .i64) (.cons (.cons (.int .i64) (.cons (.int .i64) .nil)) (.cons (.int .i64) .nil))))) 48:Sh).Ok w [.slice a1 len1 cap1]):
  Calls Tryz.prog 6 #[.agg c0, .slice a1 len1 cap1] w λ e w'=>e= .returned (.bool true)∧Below w.heap.size w w':=by
 obtain ⟨a,W,A,c,T,L,rfl,hW,hT,hL⟩:=story_open h0
 obtain ⟨Al,cl,l,e1,hl⟩:=Rep.opens_slice (R:=Odr.rep) (by_:=48) Odr.opens rfl (by decide) h1
 simp only [List.cons.injEq,Value.slice.injEq,and_true] at e1
 obtain ⟨rfl,rfl,rfl⟩:=e1
 exact storyMore_w a W A c T L _ _ l w hW hT hL hl
end
end Go.Proofs.YtlikikpgmmkjbaaGreat
