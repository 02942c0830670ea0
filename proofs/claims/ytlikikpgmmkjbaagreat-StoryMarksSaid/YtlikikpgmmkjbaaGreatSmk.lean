import Derived.Test.YtlikikpgmmkjbaaGreatGra
import Derived.Test.YtlikikpgmmkjbaaGreatSef
import Derived.Test.YtlikikpgmmkjbaaGreatSop
set_option linter.unusedVariables false
set_option linter.unusedSimpArgs false
set_option maxRecDepth 100000
set_option maxHeartbeats 4000000
namespace Go.Proofs.YtlikikpgmmkjbaaGreat
section
open Go.RowKit
open Go.Proofs.YtlikikpgmmkjbaaGreat.Bv
theorem b2a_ (p q:Bool):(p=true∧q=true)∨(p=true∧q=false)∨(p=false∧q=true)∨(p=false∧q=false):=by cases p<;>cases q<;>simp
theorem marks_same (A Bq:Option Addr) (c d:Nat) (l m:List Odr) (w:World) (hl:Odr.rep.SHas 48 w A c l) (hm:Odr.rep.SHas 48 w Bq d m):
  Calls Tryz.prog 22 #[.slice A l.length c, .slice Bq m.length d] w (λ e w'=>e= .returned (.bool (decide (l=m)))∧Ext w w'):=by
 refine calls_W (n:=8) Tryz.func22 rfl rfl rfl ?_
 refine sg<|va rfl<|nK<|sg<|vm rfl<|vm rfl<|ca eF204 rfl rfl ((equal_O _ _ _ _ _ _ l m _ (hl.keep (Ext.rf w)) (hm.keep (Ext.rf w))).mono ?_)
 rintro e w_1 ⟨rfl,x_2⟩
 refine ⟨_,rfl, ?_⟩
 have:=x_2.size
 have z_1:=eT (Ext.rf w) x_2
 refine va rfl<|nK<|rt<|tR (.tmp rfl .nil)<| ?_
 exact ⟨rfl,z_1⟩
theorem storyMarks_w (a:Wd.At) (W:Wd) (A Bq:Option Addr) (c d:Nat) (T Tm:List SV) (L Lm:List (List Odr)) (n:Int) (w:World) (hW:Wd.Has w a W) (hT:svRep.SHas 24 w A c T) (hL:Tells w T L) (hTm:svRep.SHas 24 w Bq d Tm) (hLm:Tells w Tm Lm):
  Calls Tryz.prog 5 #[.agg ((Wd.cells a W).toArray), .slice A T.length c, .slice Bq Tm.length d, .int .i64 n] w (λ e w'=>e= .returned (.bool true)∧Ext w w'):=by
 have hlT:=hT.len_le
 have hlTm:=hTm.len_le
 refine calls_W (n:=114) Tryz.func5 rfl rfl rfl ?_
 refine sg<|bx rfl rfl rfl rfl λ w_1 b_2 x_3 l_4 B_5=> ?_
 have:=x_3.size
 have z_1:=eT (Ext.rf w) x_3
 have q_7:=B_5.lt
 refine va rfl<|nK<|sg<|vL (ld rfl (B_5.all eF61 eF62))<|vm rfl<|vL (v:= .agg #[.int .i64 W.field.wide, .int .i64 W.field.high, .slice a.P W.field.places.length a.p, .slice a.B W.bases.length a.b, .slice a.S W.stocks.length a.s, .slice a.M W.mines.length a.m, .slice a.T W.troops.length a.t, .int .i64 W.next, .int .i64 W.now, .slice A T.length c]) (bd rfl (by kernel_rfl))<|vm rfl<|ca eF200 rfl rfl ((at_any a W _ _ T L n _ (hW.keep z_1) (hT.keep z_1) (hL.keep z_1)).mono ?_)
 rintro e w_11 ⟨E8,a8,V8,rfl,hr8,HO8,x_12⟩
 refine ⟨_,rfl, ?_⟩
 have:=x_12.size
 have z_11:=eT z_1 x_12
 have u_9:=λ q hq=>(HO8.lt q hq).2
 have lo_10:=λ q hq=>(HO8.lt q hq).1
 refine vm rfl<|vL (ex rfl rfl)<|vL (ex rfl rfl)<|al rfl eF80 rfl rfl λ w_14 b_15 x_16 l_17 B_18=> ?_
 have:=x_16.size
 have z_14:=eT z_11 x_16
 have q_20:=B_18.lt
 refine st rfl rfl B_18 rfl eF62 rfl rfl rfl λ w_21 m_22 B_18=> ?_
 have:=m_22.size
 have z_21:=Ext.mod z_14 m_22 (ge1 (by omega))
 have:=m_22.size
 refine va rfl<|nK<|sg<| ?_
 have B_5:=B_5.later (eT x_12 x_16)
 have B_5:=B_5.mod m_22 (nm1 (by omega))
 refine vL (ld rfl (B_5.all eF61 eF62))<|vm rfl<|vL (v:= .agg #[.int .i64 W.field.wide, .int .i64 W.field.high, .slice a.P W.field.places.length a.p, .slice a.B W.bases.length a.b, .slice a.S W.stocks.length a.s, .slice a.M W.mines.length a.m, .slice a.T W.troops.length a.t, .int .i64 W.next, .int .i64 W.now, .slice Bq Tm.length d]) (bd rfl (by kernel_rfl))<|vm rfl<|ca eF200 rfl rfl ((at_any a W _ _ Tm Lm n _ (hW.keep z_21) (hTm.keep z_21) (hLm.keep z_21)).mono ?_)
 rintro e w_28 ⟨E25,a25,V25,rfl,hr25,HO25,x_29⟩
 refine ⟨_,rfl, ?_⟩
 have:=x_29.size
 have z_28:=eT z_21 x_29
 have u_26:=λ q hq=>(HO25.lt q hq).2
 have lo_27:=λ q hq=>(HO25.lt q hq).1
 refine vm rfl<|vL (ex rfl rfl)<|vL (ex rfl rfl)<|al rfl eF80 rfl rfl λ w_31 b_32 x_33 l_34 B_35=> ?_
 have:=x_33.size
 have z_31:=eT z_28 x_33
 have q_37:=B_35.lt
 refine st rfl rfl B_35 rfl eF62 rfl rfl rfl λ w_38 m_39 B_35=> ?_
 have:=m_39.size
 have z_38:=Ext.mod z_31 m_39 (ge1 (by omega))
 have:=m_39.size
 refine va rfl<|nK<|sq<|sg<|ca eF205 rfl rfl ((storyLives_any _).mono ?_)
 rintro e w_42 ⟨rfl,x_43⟩
 refine ⟨_,rfl, ?_⟩
 have:=x_43.size
 have z_42:=eT z_38 x_43
 refine vL (nt rfl)<|vm rfl<|ug rfl rfl rfl<|vm rfl<|ug rfl rfl rfl<|vL (bne rfl rfl)<|vL (pkF rfl rfl)<|vm rfl<|vQ rfl rfl rfl rfl (λ hc=>mv rfl) rfl<|vQ rfl rfl rfl rfl (λ hc=>bne (gt hc rfl) rfl) rfl<|vL (pO rfl rfl rfl rfl)<|nK<| ?_
 refine cb rfl (λ h_45=> ?_) (λ h_45=> ?_)
 ·simp only [bS] at h_45
  refine sg<|ca eF205 rfl rfl ((storyLives_any _).mono ?_)
  rintro e w_46 ⟨rfl,x_47⟩
  refine ⟨_,rfl, ?_⟩
  have:=x_47.size
  have z_46:=eT z_42 x_47
  refine va rfl<|nK<|rt<|tT<|tR (.tmp rfl .nil)<| ?_
  exact ⟨rfl,z_46⟩
 ·simp only [bS] at h_45
  have hE1:E8=0:=by omega
  have hE2:E25=0:=by omega
  obtain ⟨o1,o2,o3,o4⟩:=hr8.ok hE1
  obtain ⟨p1,p2,p3,p4⟩:=hr25.ok hE2
  have hlL:=hL.1
  have hlLm:=hLm.1
  refine sK<|sg<| ?_
  have B_18:=B_18.later (eT x_29 x_33)
  have B_18:=B_18.mod m_39 (nm1 (by omega))
  have B_18:=B_18.later x_43
  refine vL (ld rfl (B_18.all eF61 eF62))<| ?_
  have HO8:=HO8.later x_16
  have HO8:=HO8.mod m_22 (fk1 u_9 (by omega))
  have HO8:=HO8.later (eT x_29 x_33)
  have HO8:=HO8.mod m_39 (fk1 u_9 (by omega))
  have HO8:=HO8.later x_43
  refine ca eF173 rfl rfl ((mark_any a8 V8 _ HO8.has).mono ?_)
  rintro e w_49 ⟨rfl,x_50⟩
  refine ⟨_,rfl, ?_⟩
  have:=x_50.size
  have z_49:=eT z_42 x_50
  refine vm rfl<|vL (ex rfl rfl)<|vL (ex rfl rfl)<|va rfl<|va rfl<|nK<|sg<| ?_
  have B_35:=B_35.later (eT x_43 x_50)
  refine vL (ld rfl (B_35.all eF61 eF62))<| ?_
  have HO25:=HO25.later x_33
  have HO25:=HO25.mod m_39 (fk1 u_26 (by omega))
  have HO25:=HO25.later (eT x_43 x_50)
  refine ca eF173 rfl rfl ((mark_any a25 V25 _ HO25.has).mono ?_)
  rintro e w_52 ⟨rfl,x_53⟩
  refine ⟨_,rfl, ?_⟩
  have:=x_53.size
  have z_52:=eT z_49 x_53
  refine vm rfl<|vL (ex rfl rfl)<|vL (ex rfl rfl)<|va rfl<|va rfl<|nK<|sg<| ?_
  have B_5:=B_5.later (eT x_29 x_33)
  have B_5:=B_5.mod m_39 (nm1 (by omega))
  have B_5:=B_5.later (eT x_43 (eT x_50 x_53))
  refine vL (ld rfl (B_5.all eF61 eF62))<|vm rfl<|vL (v:= .agg #[.int .i64 W.field.wide, .int .i64 W.field.high, .slice a.P W.field.places.length a.p, .slice a.B W.bases.length a.b, .slice a.S W.stocks.length a.s, .slice a.M W.mines.length a.m, .slice a.T W.troops.length a.t, .int .i64 W.next, .int .i64 W.now, .slice A T.length c]) (bd rfl (by kernel_rfl))<|vm rfl<|ca eF202 rfl rfl ((root_any_ a W _ _ T L n _ (hW.keep z_52) (hT.keep z_52) (hL.keep z_52)).mono ?_)
  rintro e w_56 ⟨E55,r55,rfl,hr55,x_57⟩
  refine ⟨_,rfl, ?_⟩
  have:=x_57.size
  have z_56:=eT z_52 x_57
  refine vm rfl<|vL (ex rfl rfl)<|vL (ex rfl rfl)<|va rfl<|va rfl<|nK<|sg<| ?_
  have B_5:=B_5.later x_57
  refine vL (ld rfl (B_5.all eF61 eF62))<|vm rfl<|vL (v:= .agg #[.int .i64 W.field.wide, .int .i64 W.field.high, .slice a.P W.field.places.length a.p, .slice a.B W.bases.length a.b, .slice a.S W.stocks.length a.s, .slice a.M W.mines.length a.m, .slice a.T W.troops.length a.t, .int .i64 W.next, .int .i64 W.now, .slice Bq Tm.length d]) (bd rfl (by kernel_rfl))<|vm rfl<|ca eF202 rfl rfl ((root_any_ a W _ _ Tm Lm n _ (hW.keep z_56) (hTm.keep z_56) (hLm.keep z_56)).mono ?_)
  rintro e w_60 ⟨E59,r59,rfl,hr59,x_61⟩
  refine ⟨_,rfl, ?_⟩
  have:=x_61.size
  have z_60:=eT z_56 x_61
  refine vm rfl<|vL (ex rfl rfl)<|vL (ex rfl rfl)<|va rfl<|va rfl<|nK<|sq<| ?_
  refine rd [(6,0)] [0,1,2,3,4,5,6,7] (by kernel_rfl) (by kernel_rfl) ?_
  refine fw1 rfl (λ _=>mv rfl)<|fw1 rfl (λ _=>mv rfl)<|fw1 rfl (λ _=>sP ((n).toNat) (T.take ((n).toNat)).length Tryz.underlying29 eF174 rfl rfl (by omega) (by have:=hT.1;omega) (by rw [List.length_take];omega))<|fw1 rfl (λ _=>mv rfl)<|fw1 rfl (λ _=>mv rfl)<|fw1 rfl (λ _=>sP ((n).toNat) (Tm.take ((n).toNat)).length Tryz.underlying29 eF174 rfl rfl (by omega) (by have:=hTm.1;omega) (by rw [List.length_take];omega))<|fc rfl rfl eF210 rfl (λ _ x=>eqFV_any 22 [] _ _ _ _ (T.take ((n).toNat)) (Tm.take ((n).toNat)) (L.take ((n).toNat)) (Lm.take ((n).toNat)) _ ((hT.keep (eT z_60 x)).pre ((n).toNat)) ((hL.take ((n).toNat)).keep (eT z_60 x)) ((hTm.keep (eT z_60 x)).pre ((n).toNat)) ((hLm.take ((n).toNat)).keep (eT z_60 x)) eF213 (λ A B c d l m w' h h'=>marks_same A B c d l m w' h h')) rfl<|fw1 rfl (λ _=>as_ rfl)<|fn λ w_63 x_64=> ?_
  have:=x_64.size
  have z_63:=eT z_60 x_64
  refine nT<|sq<| ?_
  have f1:V8.chk=0:=by rw [o4];exact (run_good _ W o1.2.1 (o1.take _).2.2).1
  have f2:V25.chk=0:=by rw [p4];exact (run_good _ W p1.2.1 (p1.take _).2.2).1
  obtain ⟨f3,f4⟩:=hr55.out o1 o2 o3
  obtain ⟨f5,f6⟩:=hr59.out p1 p2 p3
  have kk0:(V8.chk == 0)=true:=beq_iff_eq.2 f1
  have kk1:(V25.chk == 0)=true:=beq_iff_eq.2 f2
  have kk2:(E55 == 0)=true:=beq_iff_eq.2 f3
  have kk3:(E59 == 0)=true:=beq_iff_eq.2 f5
  rcases b2a_ (U (markN V8)== U (markN V25)) (U r55 == U r59) with ⟨c5_,c6_⟩ | ⟨c5_,c6_⟩ | ⟨c5_,c6_⟩ | ⟨c5_,c6_⟩
  ·refine rg<|vm rfl<|vL (beq rfl rfl)<|vm (evb rfl kk0)<|ug rfl rfl rfl<|vm rfl<|ug rfl rfl rfl<|vL (beq rfl rfl)<|vL (pkT rfl (evb rfl kk1))<|vm rfl<|ug rfl rfl rfl<|vm rfl<|ug rfl rfl rfl<|vL (beq rfl rfl)<|vL (pkT rfl (evb rfl kk2))<|vm rfl<|ug rfl rfl rfl<|vm rfl<|ug rfl rfl rfl<|vL (beq rfl rfl)<|vL (pkT rfl (evb rfl kk3))<|vm rfl<|ug rfl rfl rfl<|vm rfl<| ?_
   refine ug rfl rfl rfl<|vm rfl<|ug rfl rfl rfl<|vL (beq rfl rfl)<|ug rfl rfl rfl<|vm (evb rfl c5_)<|vQ (v:=undef) rfl rfl rfl rfl (λ hc=>nomatch hc) rfl<|vQ (v:=undef) rfl rfl rfl rfl (λ hc=>nomatch hc) rfl<|ug rfl rfl rfl<|vL (pkT rfl rfl)<|vL (pkT rfl rfl)<|vm rfl<|ug rfl rfl rfl<|vm rfl<|ug rfl rfl rfl<|vm rfl<|ug rfl rfl rfl<|vL (beq rfl rfl)<|ug rfl rfl rfl<|vm (evb rfl c6_)<|vQ (v:=undef) rfl rfl rfl rfl (λ hc=>nomatch hc) rfl<|vQ (v:=undef) rfl rfl rfl rfl (λ hc=>nomatch hc) rfl<|ug rfl rfl rfl<|vL (pkT rfl rfl)<| ?_
   refine vL (pkT rfl rfl)<|va rfl<|nK<|rt<|tR (.tmp rfl .nil)<| ?_
   exact ⟨rfl,z_63⟩
  ·have hs:¬ (L.take n.toNat=Lm.take n.toNat):=λ hs=>by
    have f7:V8=V25:=by rw [o4,p4,hs]
    have f8:r55=r59:=by rw [f4,f6,hs]
    simp [f7,f8] at c5_ c6_
   have c7_:=decide_eq_false hs
   have c8_:(!decide (L.take ((n).toNat)=Lm.take ((n).toNat)))=true:=by rw [c7_];rfl
   refine rg<|vm rfl<|vL (beq rfl rfl)<|vm (evb rfl kk0)<|ug rfl rfl rfl<|vm rfl<|ug rfl rfl rfl<|vL (beq rfl rfl)<|vL (pkT rfl (evb rfl kk1))<|vm rfl<|ug rfl rfl rfl<|vm rfl<|ug rfl rfl rfl<|vL (beq rfl rfl)<|vL (pkT rfl (evb rfl kk2))<|vm rfl<|ug rfl rfl rfl<|vm rfl<|ug rfl rfl rfl<|vL (beq rfl rfl)<|vL (pkT rfl (evb rfl kk3))<|vm rfl<|ug rfl rfl rfl<|vm rfl<| ?_
   refine ug rfl rfl rfl<|vm rfl<|ug rfl rfl rfl<|vL (beq rfl rfl)<|ug rfl rfl rfl<|vm (evb rfl c5_)<|vQ (v:=undef) rfl rfl rfl rfl (λ hc=>nomatch hc) rfl<|vQ (v:=undef) rfl rfl rfl rfl (λ hc=>nomatch hc) rfl<|ug rfl rfl rfl<|vL (pkT rfl rfl)<|vL (pkT rfl rfl)<|vm rfl<|ug rfl rfl rfl<|vm rfl<|ug rfl rfl rfl<|vm rfl<|ug rfl rfl rfl<|vL (beq rfl rfl)<|ug rfl rfl rfl<|vm (evb rfl c6_)<|ug rfl rfl rfl<|vm (evb rfl c7_)<|ug rfl rfl rfl<|vL (nt rfl)<| ?_
   refine ug rfl rfl rfl<|vL (pkF rfl rfl)<|vL (pkT rfl rfl)<|va rfl<|nK<|rt<|tR (.tmp rfl .nil)<| ?_
   exact ⟨rfl,z_63⟩
  ·have hs:¬ (L.take n.toNat=Lm.take n.toNat):=λ hs=>by
    have f7:V8=V25:=by rw [o4,p4,hs]
    have f8:r55=r59:=by rw [f4,f6,hs]
    simp [f7,f8] at c5_ c6_
   have c7_:=decide_eq_false hs
   have c8_:(!decide (L.take ((n).toNat)=Lm.take ((n).toNat)))=true:=by rw [c7_];rfl
   refine rg<|vm rfl<|vL (beq rfl rfl)<|vm (evb rfl kk0)<|ug rfl rfl rfl<|vm rfl<|ug rfl rfl rfl<|vL (beq rfl rfl)<|vL (pkT rfl (evb rfl kk1))<|vm rfl<|ug rfl rfl rfl<|vm rfl<|ug rfl rfl rfl<|vL (beq rfl rfl)<|vL (pkT rfl (evb rfl kk2))<|vm rfl<|ug rfl rfl rfl<|vm rfl<|ug rfl rfl rfl<|vL (beq rfl rfl)<|vL (pkT rfl (evb rfl kk3))<|vm rfl<|ug rfl rfl rfl<|vm rfl<| ?_
   refine ug rfl rfl rfl<|vm rfl<|ug rfl rfl rfl<|vL (beq rfl rfl)<|ug rfl rfl rfl<|vm (evb rfl c5_)<|ug rfl rfl rfl<|vm (evb rfl c7_)<|ug rfl rfl rfl<|vL (nt rfl)<|ug rfl rfl rfl<|vL (pkF rfl rfl)<|vL (pkT rfl rfl)<|vm rfl<|ug rfl rfl rfl<|vm rfl<|ug rfl rfl rfl<|vm rfl<|ug rfl rfl rfl<|vL (beq rfl rfl)<|ug rfl rfl rfl<|vm (evb rfl c6_)<|vQ (v:=undef) rfl rfl rfl rfl (λ hc=>nomatch hc) rfl<|vQ (v:=undef) rfl rfl rfl rfl (λ hc=>nomatch hc) rfl<| ?_
   refine ug rfl rfl rfl<|vL (pkT rfl rfl)<|vL (pkT rfl rfl)<|va rfl<|nK<|rt<|tR (.tmp rfl .nil)<| ?_
   exact ⟨rfl,z_63⟩
  ·have hs:¬ (L.take n.toNat=Lm.take n.toNat):=λ hs=>by
    have f7:V8=V25:=by rw [o4,p4,hs]
    have f8:r55=r59:=by rw [f4,f6,hs]
    simp [f7,f8] at c5_ c6_
   have c7_:=decide_eq_false hs
   have c8_:(!decide (L.take ((n).toNat)=Lm.take ((n).toNat)))=true:=by rw [c7_];rfl
   refine rg<|vm rfl<|vL (beq rfl rfl)<|vm (evb rfl kk0)<|ug rfl rfl rfl<|vm rfl<|ug rfl rfl rfl<|vL (beq rfl rfl)<|vL (pkT rfl (evb rfl kk1))<|vm rfl<|ug rfl rfl rfl<|vm rfl<|ug rfl rfl rfl<|vL (beq rfl rfl)<|vL (pkT rfl (evb rfl kk2))<|vm rfl<|ug rfl rfl rfl<|vm rfl<|ug rfl rfl rfl<|vL (beq rfl rfl)<|vL (pkT rfl (evb rfl kk3))<|vm rfl<|ug rfl rfl rfl<|vm rfl<| ?_
   refine ug rfl rfl rfl<|vm rfl<|ug rfl rfl rfl<|vL (beq rfl rfl)<|ug rfl rfl rfl<|vm (evb rfl c5_)<|ug rfl rfl rfl<|vm (evb rfl c7_)<|ug rfl rfl rfl<|vL (nt rfl)<|ug rfl rfl rfl<|vL (pkF rfl rfl)<|vL (pkT rfl rfl)<|vm rfl<|ug rfl rfl rfl<|vm rfl<|ug rfl rfl rfl<|vm rfl<|ug rfl rfl rfl<|vL (beq rfl rfl)<|ug rfl rfl rfl<|vm (evb rfl c6_)<|ug rfl rfl rfl<|vm (evb rfl c7_)<| ?_
   refine ug rfl rfl rfl<|vL (nt rfl)<|ug rfl rfl rfl<|vL (pkF rfl rfl)<|vL (pkT rfl rfl)<|va rfl<|nK<|rt<|tR (.tmp rfl .nil)<| ?_
   exact ⟨rfl,z_63⟩
theorem storyMarks_any (c0:Array Value) (a1:Option Addr) (len1 cap1:Nat) (a2:Option Addr) (len2 cap2:Nat) (a3:Int) (w:World) (h0:(.cons (.cons (.int .i64) (.cons (.int .i64) (.cons (.slice (.int .i64) 8) .nil))) (.cons (.slice (.cons (.int .i64) (.cons (.int .i64) .nil)) 16) (.cons (.slice (.int .i64) 8) (.cons (.slice (.int .i64) 8) (.cons (.slice (.cons (.int .i64) (.cons (.int .i64) (.cons (.int .i64) (.cons (.cons (.int .i64) (.cons (.int .i64) .nil)) (.cons (.int .i64) (.cons (.int .i64) .nil)))))) 56) (.cons (.int .i64) (.cons (.int .i64) .nil)))))):Sh).Ok w c0.toList) (h1:(.slice (.slice (.cons (.int .i64) (.cons (.int .i64) (.cons (.int .i64) (.cons (.cons (.int .i64) (.cons (.int .i64) .nil)) (.cons (.int .i64) .nil))))) 48) 24:Sh).Ok w [.slice a1 len1 cap1]) (h2:(.slice (.slice (.cons (.int .i64) (.cons (.int .i64) (.cons (.int .i64) (.cons (.cons (.int .i64) (.cons (.int .i64) .nil)) (.cons (.int .i64) .nil))))) 48) 24:Sh).Ok w [.slice a2 len2 cap2]) (w3:(Lit.int .i64 a3).wf=true):
  Calls Tryz.prog 5 #[.agg c0, .slice a1 len1 cap1, .slice a2 len2 cap2, .int .i64 a3] w λ e w'=>e= .returned (.bool true)∧Below w.heap.size w w':=by
 obtain ⟨a,W,e,hW⟩:=Wd.opens w _ (show Wd.sh.Ok w c0.toList from h0)
 have hc:c0=(Wd.cells a W).toArray:=by rw [← e]
 subst hc
 obtain ⟨T,L,rfl,hT,hL⟩:=ords_open h1
 obtain ⟨Tm,Lm,rfl,hTm,hLm⟩:=ords_open h2
 exact storyMarks_w a W _ _ _ _ T Tm L Lm a3 w hW hT hL hTm hLm
end
end Go.Proofs.YtlikikpgmmkjbaaGreat
