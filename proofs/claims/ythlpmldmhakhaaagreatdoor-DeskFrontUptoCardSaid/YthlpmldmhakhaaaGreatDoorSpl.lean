import Derived.Test.YthlpmldmhakhaaaGreatDoorMrs
import Derived.Deep.DeepCutAuto
set_option linter.unusedVariables false
set_option linter.unusedSimpArgs false
set_option maxRecDepth 100000
set_option maxHeartbeats 4000000
open Go.RowKit
namespace Go.Proofs.YthlpmldmhakhaaaGreatDoor
open Tryz
abbrev aNn:=@List.pairwise_iff_getElem
abbrev aOQ:=@List.mem_iff_getElem?
abbrev aQr:=@List.drop_zero
abbrev aQH:=@List.getElem_cons_zero
theorem awL (a:ae.cU) (W:ae) (w:World) (b8:ae.Has w a W):
    Calls prog 120 #[.agg (ae.cells a W).toArray] w λ e w'=>∃ a':ae.cU,e= .returned (.agg (ae.cells a' W).toArray)∧bt w' w.heap.size a' W∧Below w.heap.size w w':=by
  obtain ⟨eG,fV,fW,fq,eO,eJ,ff,fT,fv,eS⟩:=a;show Calls _ _ #[.agg #[.int .i64 W.field.wide, .int .i64 W.field.high, .slice eG W.field.places.length eJ, .slice fV W.bj.length ff, .slice fW W.bh.length fT, .slice fq W.bW.length fv, .slice eO W.ah.length eS, .int .i64 W.next, .int .i64 W.now]] _ _;have cS:=ky w (.cells #[.int .i64 W.field.wide, .int .i64 W.field.high, .slice eG W.field.places.length eJ, .slice fV W.bj.length ff, .slice fW W.bh.length fT, .slice fq W.bW.length fv, .slice eO W.ah.length eS, .int .i64 W.next, .int .i64 W.now] 52);have hA:=aO.new w [.int .i64 W.field.wide, .int .i64 W.field.high, .slice eG W.field.places.length eJ, .slice fV W.bj.length ff, .slice fW W.bh.length fT, .slice fq W.bW.length fv, .slice eO W.ah.length eS, .int .i64 W.next, .int .i64 W.now] 52 (0,0);obtain ⟨w0,iF⟩:∃ w0,Hid (w.alloc (.cells #[.int .i64 W.field.wide, .int .i64 W.field.high, .slice eG W.field.places.length eJ, .slice fV W.bj.length ff, .slice fW W.bh.length fT, .slice fq W.bW.length fv, .slice eO W.ah.length eS, .int .i64 W.next, .int .i64 W.now] 52)=w0):=⟨_,aMH rfl⟩;rw [iF.out] at cS;have kM:Hid (aO w0 w.heap.size [.int .i64 W.field.wide, .int .i64 W.field.high, .slice eG W.field.places.length eJ, .slice fV W.bj.length ff, .slice fW W.bh.length fT, .slice fq W.bW.length fv, .slice eO W.ah.length eS, .int .i64 W.next, .int .i64 W.now] 52 (0,0)):=by rw [← iF.out];exact hA
  have asw:w0.heap.size=w.heap.size+1:=by rw [← iF.out];simp
  have S3:=ky w0 (.cells #[.int .i64 0, .int .i64 0, .slice none 0 0, .slice none 0 0, .slice none 0 0, .slice none 0 0, .slice none 0 0, .int .i64 0, .int .i64 0] 52);have hR:=aO.new w0 [.int .i64 0, .int .i64 0, .slice none 0 0, .slice none 0 0, .slice none 0 0, .slice none 0 0, .slice none 0 0, .int .i64 0, .int .i64 0] 52 (0,0);rw [asw] at hR;obtain ⟨Ax,Qq⟩:∃ Ax,Hid (w0.alloc (.cells #[.int .i64 0, .int .i64 0, .slice none 0 0, .slice none 0 0, .slice none 0 0, .slice none 0 0, .slice none 0 0, .int .i64 0, .int .i64 0] 52)=Ax):=⟨_,aMH rfl⟩;rw [Qq.out] at S3;have o3:Hid (aO Ax (w.heap.size+1) [.int .i64 0, .int .i64 0, .slice none 0 0, .slice none 0 0, .slice none 0 0, .slice none 0 0, .slice none 0 0, .int .i64 0, .int .i64 0] 52 (0,0)):=by rw [← Qq.out];exact hR
  have kM:=aMH (kM.out.later S3);have cS:=cS.trans (S3.mono cS.size);have aaP:=b8.keep cS;have Qi:=aMH (λ V (h:Below Ax.heap.size Ax V)=>xR eG eJ W.field.places V (aaP.P.keep h));have aE:=aMH (λ V (h:Below w.heap.size w V)=>Mq fV ff W.bj V (b8.B.keep h));have ji:=aMH (λ V (h:Below w.heap.size w V)=>xR fW fT W.bh V (b8.S.keep h));have HE:=aMH (λ V (h:Below w.heap.size w V)=>xR fq fv W.bW V (b8.M.keep h));have uZ:=aMH (λ V (h:Below w.heap.size w V)=>Mr eO eS W.ah V (b8.T.keep h));have jg:=aMH b8.nums;clear b8 aaP hA;go_enter func120,ntmps120;go_wp2_with fail
  rw [iF.out,Qq.out];go_wp2_with fail
  refine (Qi.out _ (aNb _ _)).mono ?_;rintro e aM ⟨fG,mY,rfl,NV,_,dM⟩;have kQ:=kM.out.later dM;obtain ⟨bS,bd,bP,c3,c4,c5,dw,dV,dW⟩:=Ce kQ;have f2:=kQ.free 2 (.inr (aNl _));have bq:Below w.heap.size w (aM.setCell ⟨w.heap.size,2,none⟩ (.slice fG W.field.places.length mY)):=(cS.trans (dM.mono cS.size)).setCell (p:=⟨w.heap.size,2,none⟩) (aMO _) _;have Su:=(o3.out.later dM).other (show w.heap.size+1≠w.heap.size by omega) 2 (.slice fG W.field.places.length mY);have Nr:=kQ.set 2 (.slice fG W.field.places.length mY);have Tt:w.heap.size∉Φ.ab fG:=GA NV (by have:=kM.out.lt;omega);have abL:w.heap.size+1∉Φ.ab fG:=GA NV (by have:=o3.out.lt;omega);have I5:=NV.other (p:=⟨w.heap.size,2,none⟩) Tt (.slice fG W.field.places.length mY);obtain ⟨b',Xn⟩:∃ b',Hid (aM.setCell ⟨w.heap.size,2,none⟩ (.slice fG W.field.places.length mY)=b'):=⟨_,aMH rfl⟩;rw [Xn.out] at bq Nr I5 Su;have I5:=I5.down (show w.heap.size≤_ from cS.size);go_wp2_with fail
  rw [Xn.out];go_wp2_with fail
  clear bS bd bP c3 c4 c5 dw dV dW f2 NV kQ dM;obtain ⟨bS,bd,bP,c3,c4,c5,dw,dV,dW⟩:=Ce Nr;have Hw:=aMH Nr;have Xk:=aMH I5;have LZ:Hid (w.heap.size∉Φ.ab fG):=aMH Tt;have aki:Hid (w.heap.size+1∉Φ.ab fG):=aMH abL;have Xl:=aMH Su;have aGI:=Xl.out.lt;clear Nr I5 Su Tt abL;have Dm:=aNb b'.heap.size b';have aGJ:=Hw.out.lt
  go_cut [9] (λ _ nc=>Xp w nc fG mY W fq fv eO eS b'.heap.size)
  case first =>
   go_region_law (first
    | (refine O1 rfl 64 _ func64 (by kernel_rfl) (by kernel_rfl) _ _ rfl #[.slice fV W.bj.length ff] (by simp [Act.eval,Act.put]) ?_
       refine (aE.out _ bq.drew).mono ?_;rintro e w3 ⟨et,lC,rfl,Jx,_,ek⟩;have pd:Below b'.heap.size b' w3:=X7 Dm ek;have c4:=cell_later pd c4;refine ⟨_,Z, ?_⟩)
    | (refine O1 rfl 65 _ func65 (by kernel_rfl) (by kernel_rfl) _ _ rfl #[.slice fW W.bh.length fT] (by simp [Act.eval,Act.put]) ?_
       refine (ji.out _ (bq.trans (pd.mono bq.size))).mono ?_;rintro e nU ⟨ez,lO,rfl,Jy,_,dX⟩;have re:Below b'.heap.size b' nU:=mH pd dX;obtain ⟨d0,d1,d2,d3,d4,d5,d6,d7,d8⟩:=Ce (Hw.out.later re);have f3:=(Hw.out.later re).free 3 (.inr (aNl _));have f4:=(Hw.out.later re).free 4 (.inr (aNl _));refine ⟨_,Z, ?_⟩))
   all_goals
    have aaO:=Xl.out.later re;have aav:=Hw.out.later re;have aaJ:=Xk.out.later re;have aaz:=Jx.later dX;have aa2:=bq.trans (re.mono bq.size);have FM:=(aav.set 3 (.slice et W.bj.length lC)).set 4 (.slice ez W.bh.length lO);have FW:=(aaO.other (show w.heap.size+1≠w.heap.size by omega) 3 (.slice et W.bj.length lC)).other (show w.heap.size+1≠w.heap.size by omega) 4 (.slice ez W.bh.length lO);have FV:=(aaJ.other (p:=⟨w.heap.size,3,none⟩) LZ.out (.slice et W.bj.length lC)).other (p:=⟨w.heap.size,4,none⟩) LZ.out (.slice ez W.bh.length lO);have FN:=(aaz.other (p:=⟨w.heap.size,3,none⟩) (GA Jx (by show w.heap.size<b'.heap.size;omega)) (.slice et W.bj.length lC)).other (p:=⟨w.heap.size,4,none⟩) (GA Jx (by show w.heap.size<b'.heap.size;omega)) (.slice ez W.bh.length lO);have FX:=(Jy.other (p:=⟨w.heap.size,3,none⟩) (GA Jy (by have:=pd.size;show w.heap.size<w3.heap.size;omega)) (.slice et W.bj.length lC)).other (p:=⟨w.heap.size,4,none⟩) (GA Jy (by have:=pd.size;show w.heap.size<w3.heap.size;omega)) (.slice ez W.bh.length lO);have sy:Below w.heap.size w ((nU.setCell ⟨w.heap.size,3,none⟩ (.slice et W.bj.length lC)).setCell ⟨w.heap.size,4,none⟩ (.slice ez W.bh.length lO)):=(aa2.setCell (p:=⟨w.heap.size,3,none⟩) (aMO _) _).setCell (p:=⟨w.heap.size,4,none⟩) (aMO _) _;have cv:Hid (Xp w ((nU.setCell ⟨w.heap.size,3,none⟩ (.slice et W.bj.length lC)).setCell ⟨w.heap.size,4,none⟩ (.slice ez W.bh.length lO)) fG mY W fq fv eO eS b'.heap.size):=aMH ⟨et,lC,ez,lO,w3.heap.size,nU.heap.size,FM,FW,FV,FN,FX,Jx.lt,Jy.lt,sy,pd.size,dX.size,by simp [World.setCell]⟩;clear FM FW FV FN FX sy Jx Jy aaO aav aaJ aaz aa2 pd re ek dX bS bd bP c3 c4 c5 dw dV dW d0 d1 d2 d3 d4 d5 d6 d7 d8 f3 f4 Dm;go_wp2_with fail
    go_meet
    exact cv.out
  case rest =>
    obtain ⟨et,lC,ez,lO,pj,qv,FM,FW,FV,FN,FX,GH,afo,sy,tU,pk,rE⟩:=hcut;obtain ⟨qC,ajg⟩:∃ qC:World,Hid (qC=wc):=⟨wc,aMH rfl⟩;rw [← ajg.out] at FM FW FV FN FX sy rE ⊢;have ako:=aMH Xk.out.lt;have L0:=aMH GH;have L1:=aMH afo;have ai9:=aMH FV;have aiW:=aMH FN;have ajf:=aMH FX;have ajb:=aMH FW;have y_:=aMH FM;clear FM FW FV FN FX GH afo bS bd bP c3 c4 c5 dw dV dW Dm;obtain ⟨bS,bd,bP,c3,c4,c5,dw,dV,dW⟩:=Ce y_.out;have Dm:=aNb qC.heap.size qC;go_wp2_with fail
    go_region_law (first
      | (refine O1 rfl 65 _ func65 (by kernel_rfl) (by kernel_rfl) _ _ rfl #[.slice fq W.bW.length fv] (by simp [Act.eval,Act.put]) ?_
         refine (HE.out _ sy.drew).mono ?_;rintro e KI ⟨mg,nK,rfl,Gh,_,aaV⟩;have Je:Below qC.heap.size qC KI:=X7 Dm aaV;have dw:=cell_later Je dw;refine ⟨_,Z, ?_⟩)
      | (refine O1 rfl 69 _ func69 (by kernel_rfl) (by kernel_rfl) _ _ rfl #[.slice eO W.ah.length eS] (by simp [Act.eval,Act.put]) ?_
         refine (uZ.out _ (sy.trans (Je.mono sy.size))).mono ?_;rintro e B' ⟨mr,nS,rfl,Gi,_,Nz⟩;have yj:Below qC.heap.size qC B':=mH Je Nz;obtain ⟨d0,d1,d2,d3,d4,d5,d6,d7,d8⟩:=Ce (y_.out.later yj);have f5:=(y_.out.later yj).free 5 (.inr (aNl _));have f6:=(y_.out.later yj).free 6 (.inr (aNl _));refine ⟨_,Z, ?_⟩))
    all_goals
      have asS:=Je.size;have aqV:=sy.trans (yj.mono sy.size);have cX:w.heap.size<KI.heap.size:=by omega
      have fj:w.heap.size<qC.heap.size:=by omega
      have Sk:=((y_.out.later yj).set 5 (.slice mg W.bW.length nK)).set 6 (.slice mr W.ah.length nS);have Sv:=((ajb.out.later yj).other (show w.heap.size+1≠w.heap.size by omega) 5 (.slice mg W.bW.length nK)).other (show w.heap.size+1≠w.heap.size by omega) 6 (.slice mr W.ah.length nS);have Ss:=((ai9.out.later yj).other (p:=⟨w.heap.size,5,none⟩) LZ.out (.slice mg W.bW.length nK)).other (p:=⟨w.heap.size,6,none⟩) LZ.out (.slice mr W.ah.length nS);have Sl:=((aiW.out.later yj).other (p:=⟨w.heap.size,5,none⟩) (λ h=>by have:=(L0.out _ h).1;simp at this;omega) (.slice mg W.bW.length nK)).other (p:=⟨w.heap.size,6,none⟩) (λ h=>by have:=(L0.out _ h).1;simp at this;omega) (.slice mr W.ah.length nS);have Sx:=((ajf.out.later yj).other (p:=⟨w.heap.size,5,none⟩) (λ h=>by have:=(L1.out _ h).1;simp at this;omega) (.slice mg W.bW.length nK)).other (p:=⟨w.heap.size,6,none⟩) (λ h=>by have:=(L1.out _ h).1;simp at this;omega) (.slice mr W.ah.length nS);have Sr:=((Gh.later Nz).other (p:=⟨w.heap.size,5,none⟩) (λ h=>by have:=(Gh.lt _ h).1;simp at this;omega) (.slice mg W.bW.length nK)).other (p:=⟨w.heap.size,6,none⟩) (λ h=>by have:=(Gh.lt _ h).1;simp at this;omega) (.slice mr W.ah.length nS);have Sy:=(Gi.other (p:=⟨w.heap.size,5,none⟩) (λ h=>by have:=(Gi.lt _ h).1;simp at this;omega) (.slice mg W.bW.length nK)).other (p:=⟨w.heap.size,6,none⟩) (λ h=>by have:=(Gi.lt _ h).1;simp at this;omega) (.slice mr W.ah.length nS);have aaW:Below w.heap.size w ((B'.setCell ⟨w.heap.size,5,none⟩ (.slice mg W.bW.length nK)).setCell ⟨w.heap.size,6,none⟩ (.slice mr W.ah.length nS)):=(aqV.setCell (p:=⟨w.heap.size,5,none⟩) (aMO _) _).setCell (p:=⟨w.heap.size,6,none⟩) (aMO _) _;have hY:(Φ.ab fG++Φ.ab et++Φ.ab ez++Φ.ab mg++Φ.ab mr).Nodup:=by
        have κ:=L9 (m:=pj) ⟨q2 fG,λ g aT=>(ako.out g aT).2⟩ (q2 et) L0.out tU;have τ:=L9 κ (q2 ez) L1.out pk;have aq:=L9 (n:=qC.heap.size) (m:=KI.heap.size) ⟨τ.1,λ g aT=>by have:=τ.2 g aT;omega⟩ (q2 mg) Gh.lt asS;exact (L9 aq (q2 mr) Gi.lt (by have:=Nz.size;omega)).1
      obtain ⟨KJ,ajh⟩:∃ KJ,Hid ((B'.setCell ⟨w.heap.size,5,none⟩ (.slice mg W.bW.length nK)).setCell ⟨w.heap.size,6,none⟩ (.slice mr W.ah.length nS)=KJ):=⟨_,aMH rfl⟩;rw [ajh.out] at aaW Sk Sv Ss Sl Sx Sr Sy ⊢;have ai0:=aMH (show bt KJ w.heap.size ⟨fG,et,ez,mg,mr,mY,lC,lO,nK,nS⟩ W from ⟨Ss,Sl.down (by show w.heap.size≤b'.heap.size;omega),Sx.down (by omega),Sr.down (by show w.heap.size≤qC.heap.size;omega),Sy.down (by omega),hY,jg.out⟩);have ai5:Hid (w.heap.size+1∉bt.cA ⟨fG,et,ez,mg,mr,mY,lC,lO,nK,nS⟩):=aMH (λ h=>by
        unfold bt.cA at h;simp only [aMQ] at h;rcases h with (((h | h) | h) | h) | h
        · exact aki.out h
        · have:=(L0.out _ h).1;omega
        · have:=(L1.out _ h).1;omega
        · have:=(Gh.lt _ h).1;(try simp at this);omega
        · have:=(Gi.lt _ h).1;(try simp at this);omega)
      have Ql:=aMH Sv;have aiV:Hid (aO KJ w.heap.size [.int .i64 W.field.wide, .int .i64 W.field.high, .slice fG W.field.places.length mY, .slice et W.bj.length lC, .slice ez W.bh.length lO, .slice mg W.bW.length nK, .slice mr W.ah.length nS, .int .i64 W.next, .int .i64 W.now] 52 (0,0)):=aMH Sk;clear Sk Sv Ss Sl Sx Sr Sy hY Gh Gi Nz aaV yj Je bS bd bP c3 c4 c5 dw dV dW d0 d1 d2 d3 d4 d5 d6 d7 d8 f5 f6;obtain ⟨bS,bd,bP,c3,c4,c5,dw,dV,dW⟩:=Ce aiV.out;obtain ⟨e0,aR,a6,cM,iV,Iv,Iw,Zj,Zk⟩:=Ce Ql.out;have ao:=λ j=>Ql.out.free j (.inr (aNl _));have aFc:=ao 0;have aFd:=ao 1;have aFe:=ao 2;have aFf:=ao 3;have aFg:=ao 4;have aFh:=ao 5;have aFi:=ao 6;have aFj:=ao 7;have aFk:=ao 8;clear ao;go_wp2_with fail
      obtain ⟨wZ,aji⟩:∃ wZ,Hid ((((((((((KJ.setCell ⟨w.heap.size+1,0,none⟩ (.int .i64 W.field.wide)).setCell ⟨w.heap.size+1,1,none⟩ (.int .i64 W.field.high)).setCell ⟨w.heap.size+1,2,none⟩ (.slice fG W.field.places.length mY)).setCell ⟨w.heap.size+1,3,none⟩ (.slice et W.bj.length lC)).setCell ⟨w.heap.size+1,4,none⟩ (.slice ez W.bh.length lO)).setCell ⟨w.heap.size+1,5,none⟩ (.slice mg W.bW.length nK)).setCell ⟨w.heap.size+1,6,none⟩ (.slice mr W.ah.length nS)).setCell ⟨w.heap.size+1,7,none⟩ (.int .i64 W.next)).setCell ⟨w.heap.size+1,8,none⟩ (.int .i64 W.now))=wZ):=⟨_,aMH rfl⟩;have Nw:=av4 Ql.out (.int .i64 W.field.wide) (.int .i64 W.field.high) (.slice fG W.field.places.length mY) (.slice et W.bj.length lC) (.slice ez W.bh.length lO) (.slice mg W.bW.length nK) (.slice mr W.ah.length nS) (.int .i64 W.next) (.int .i64 W.now);have aaI:=ai0.out.nine ai5.out (.int .i64 W.field.wide) (.int .i64 W.field.high) (.slice fG W.field.places.length mY) (.slice et W.bj.length lC) (.slice ez W.bh.length lO) (.slice mg W.bW.length nK) (.slice mr W.ah.length nS) (.int .i64 W.next) (.int .i64 W.now);have aaX:=akY aaW (show w.heap.size≤w.heap.size+1 by omega) (.int .i64 W.field.wide) (.int .i64 W.field.high) (.slice fG W.field.places.length mY) (.slice et W.bj.length lC) (.slice ez W.bh.length lO) (.slice mg W.bW.length nK) (.slice mr W.ah.length nS) (.int .i64 W.next) (.int .i64 W.now);rw [aji.out] at Nw aaI aaX ⊢;obtain ⟨v0,v1,v2,v3,v4,v5,v6,az3,az4⟩:=Ce Nw;refine aQg (v:= .agg #[.int .i64 W.field.wide, .int .i64 W.field.high, .slice fG W.field.places.length mY, .slice et W.bj.length lC, .slice ez W.bh.length lO, .slice mg W.bW.length nK, .slice mr W.ah.length nS, .int .i64 W.next, .int .i64 W.now]) ?_ Z ⟨⟨fG,et,ez,mg,mr,mY,lC,lO,nK,nS⟩,Z,aaI,aaX⟩;simp [results,results120,go_sem,v0,v1,v2,v3,v4,v5,v6,az3,az4]
section
variable {d:c9} {w aM:World} {az S:Nat} {a:ae.cU} {l:List c9}
theorem aiU:dL prog nQ 112 4 1:=dL.jw (z:= .bool false) (k:=1) underlying112 (by kernel_rfl) rfl rfl (by decide) (λ j u h=>UF j u h)
theorem ae.Y1 {W:ae} (h:d.kind=1):W.kA d=W.mj d:=by unfold ae.kA;rw [aMI h]
theorem ae.YZ {W:ae} (h:d.kind=2):W.kA d=W.drop d:=by unfold ae.kA;rw [aMA (by omega),aMI h]
theorem ae.Y0 {W:ae} (h:d.kind=3):W.kA d=W.qa d:=by unfold ae.kA;rw [aMA (by omega),aMA (by omega),aMI h]
theorem ae.Y2 {W:ae} (κ:¬ d.kind=1) (τ:¬ d.kind=2) (aq:¬ d.kind=3):W.kA d=none:=by unfold ae.kA;rw [aMA κ,aMA τ,aMA aq]
theorem Ri {W:ae} {V:Option ae} {f:FuncId} {args:Array Value} (h:Calls prog f args aM (vt W V aM az S a)) (x:Ext w aM):Calls prog f args aM (vt W V w az S a):=
 h.mono λ e b' ⟨a2,κ,τ,aq,bb⟩=>⟨a2,κ,τ,λ q I=>(aq q I).imp id λ h=>aMR x.size h,(Mod.aP x).trans bb⟩
theorem avy (d:c9) (w:World) (az S:Nat) (a:ae.cU) (W:ae) (h:kN w az S a W) (av:Good W):Calls prog 143 #[.pointer (a_ S), .agg #[γ d.kind,γ d.bf,γ d.spot.x,γ d.spot.y,γ d.what]] w (vt W (W.mj d) w az S a):=by
 cases hf:W.ah.findIdx? (gH d.bf) with
 | none=>exact avx d w az S a W h av hf
 | some k=>obtain ⟨t,aC,_⟩:=FF hf;exact avw d w az S a W h av k t hf aC
theorem anm (d:c9) (w:World) (az S:Nat) (a:ae.cU) (W:ae) (h:kN w az S a W) (av:Good W):Calls prog 144 #[.pointer (a_ S), .agg #[γ d.kind,γ d.bf,γ d.spot.x,γ d.spot.y,γ d.what]] w (vt W (W.drop d) w az S a):=by
 cases hf:W.ah.findIdx? (gH d.bf) with
 | none=>exact anl d w az S a W h av hf
 | some k=>obtain ⟨t,aC,_⟩:=FF hf;exact drop2 d w az S a W h av k t hf aC
theorem ars (d:c9) (w:World) (az S:Nat) (a:ae.cU) (W:ae) (h:kN w az S a W) (av:Good W):Calls prog 145 #[.pointer (a_ S), .agg #[γ d.kind,γ d.bf,γ d.spot.x,γ d.spot.y,γ d.what]] w (vt W (W.qa d) w az S a):=arq d w az S a W h av
theorem kN.mod {W:ae} {T:List Nat} (h:kN w az S a W) (m:Mod T w aM) (hd:∀ q∈T,q≠S∧q∉bt.cA a):kN aM az S a W :=
 ⟨h.eh.mod m λ I=>(hd _ I).1 rfl,h.own.mod m λ q I aX=>(hd q aX).2 I,h.far,h.low⟩
def ae.pY (W:ae) (l:List c9):Int:=if W.a7≠0 then W.a7 else if 200<l.length then 2 else 0
def ae.si (W:ae) (l:List c9):ae:=if W.pY l=0 then (W.gY l).1 else ae.zero
def ae.vE (W:ae) (l:List c9):List Bool:=if W.pY l=0 then (W.gY l).2 else []
def aiN (W:ae) (l:List c9) (w:World) (e:Ending) (w':World):Prop :=
 ∃ a' A c,e= .returned (.tuple #[.agg (ae.cells a' (W.si l)).toArray, .slice A (W.vE l).length c,γ (W.pY l)])∧bt w' w.heap.size a' (W.si l)∧nQ.aL 4 1 w' w.heap.size (Φ.ab A) A c (W.vE l)∧(∀ q∈Φ.ab A,q∉bt.cA a')∧Ext w w'
theorem am8 {W:ae} (h:¬ W.a7=0):W.si l=ae.zero∧W.vE l= []∧W.pY l=W.a7:=by
 have he:W.pY l=W.a7:=by unfold ae.pY;rw [aMI h]
 unfold ae.si ae.vE;rw [he,aMA h,aMA h];exact ⟨Z,Z,Z⟩
theorem am9 {W:ae} (h:W.a7=0) (ay:200<l.length):W.si l=ae.zero∧W.vE l= []∧W.pY l=2:=by
 have he:W.pY l=2:=by unfold ae.pY;rw [aMA (by simpa using h),aMI ay]
 unfold ae.si ae.vE;rw [he];exact ⟨Z,Z,Z⟩
theorem Rm {W:ae} (h:W.a7=0) (ay:l.length≤200):W.pY l=0:=by unfold ae.pY;rw [aMA (by simpa using h),aMA (by omega)]
theorem Rl {W:ae} (h:W.a7=0) (ay:l.length≤200):W.si l=(W.gY l).1:=by unfold ae.si;rw [aMI (Rm h ay)]
theorem MJ {W:ae} (h:W.a7=0) (ay:l.length≤200):W.vE l=(W.gY l).2:=by unfold ae.vE;rw [aMI (Rm h ay)]
theorem am0 (W:ae) (l:List c9) (d:c9):W.gY (l++ [d])=(((W.gY l).1.kA d).getD (W.gY l).1,(W.gY l).2++ [((W.gY l).1.kA d).isSome]):=by
 induction l generalizing W with
 | nil=>simp only [aN4,ae.gY];cases W.kA d<;>rfl
 | cons x r bu =>
  simp only [aOU,ae.gY];cases W.kA x with
  | none=>simp only [bu];rfl
  | some V=>simp only [bu];rfl
theorem Rj {W:ae} {k:Nat} (aj:k<l.length):W.gY (l.take (k+1))=(((W.gY (l.take k)).1.kA (l.getD k default)).getD (W.gY (l.take k)).1,(W.gY (l.take k)).2++ [((W.gY (l.take k)).1.kA (l.getD k default)).isSome]):=by
 rw [← am0,aMW aj];congr 3;rw [aMv,aMy aj];rfl
theorem Y3 (W:ae) (l:List c9):(W.gY l).2.length=l.length:=by
 induction l generalizing W with
 | nil=>rfl
 | cons x r bu =>
  simp only [ae.gY];cases W.kA x with
  | none=>simp only [aMw,bu]
  | some V=>simp only [aMw,bu]
theorem amZ (d:c9) (w:World) (az S:Nat) (a:ae.cU) (W:ae) (h:kN w az S a W) (av:Good W):
  Calls prog 121 #[.pointer (a_ S), .agg #[γ d.kind,γ d.bf,γ d.spot.x,γ d.spot.y,γ d.what]] w (vt W (W.kA d) w az S a):=by
 refine cx (n:=22) func121 Z Z Z ?_;refine eW Z Z λ dn bw bm fO ag=> ?_;have hx:=bm;refine aU Z<|aI<|aG<|aa (ar anL Z)<|bA Z ag aZ Z<|aJ<|bV<|aG<|aa (beq Z Z)<|aU Z<| ?_;refine lF Z (λ oq=> ?_) (λ oq=> ?_)
 ·refine aN Z<|aa (aA Z (ag.all Iy C2))<|ca anM Z Z ((Ri (avy d _ az S a W (h.later bm) av) hx).mono ?_);rintro e uo ⟨a2,rfl,hS,hf,hm⟩;refine cK ?_;refine bL Z<|hk<|cW<|c' Z Z<| ?_;exact ⟨a2,by rw [ae.Y1 ‹_›];rfl,by rw [ae.Y1 ‹_›];exact hS,hf,hm⟩
 ·refine aG<|aa (beq Z Z)<|aU Z<| ?_;refine lF Z (λ I7=> ?_) (λ I7=> ?_)
  ·refine aN Z<|aa (aA Z (ag.all Iy C2))<|ca anN Z Z ((Ri (anm d _ az S a W (h.later bm) av) hx).mono ?_);rintro e w_ ⟨a2,rfl,hS,hf,hm⟩;refine cK ?_;refine bL Z<|hk<|cW<|c' Z Z<| ?_;exact ⟨a2,by rw [ae.YZ ‹_›];rfl,by rw [ae.YZ ‹_›];exact hS,hf,hm⟩
  ·refine aG<|aa (beq Z Z)<|aU Z<| ?_;refine lF Z (λ hN=> ?_) (λ hN=> ?_)
   ·refine aN Z<|aa (aA Z (ag.all Iy C2))<|ca anO Z Z ((Ri (ars d _ az S a W (h.later bm) av) hx).mono ?_);rintro e G0 ⟨a2,rfl,hS,hf,hm⟩;refine cK ?_;refine bL Z<|hk<|cW<|c' Z Z<| ?_;exact ⟨a2,by rw [ae.Y0 ‹_›];rfl,by rw [ae.Y0 ‹_›];exact hS,hf,hm⟩
   ·refine gb<|cm<|br<|aG<|bL Z<|c' Z Z<| ?_;exact ⟨a,by rw [ae.Y2 ‹_› ‹_› ‹_›];rfl,by rw [ae.Y2 ‹_› ‹_› ‹_›];exact h.later bm,λ q I=> .inl I,Mod.aP bm⟩
theorem am7 (l:List c9) (A:Option Addr) (c:Nat) (w:World) (a:ae.cU) (W:ae) (b8:ae.Has w a W) (ay:c9.rep.aQ 40 w A c l):
  Calls prog 89 #[.agg ((ae.cells a W).toArray), .slice A l.length c] w (aiN W l w):=by
 refine cx (n:=40) func89 Z Z Z ?_;refine eW Z Z λ dn bw bm fO ag=> ?_;have ja:=ag.lt;refine dj p0 Z λ fP dI bD j8 aF=> ?_;have b7:=J bm bD;have qx:=aF.lt;refine va Z<|aU Z<|aI<|aG<| ?_;have ag:=ag.later bD;refine aa (aA Z (ag.all fb cP))<|de Fy Z (E' a W _ (b8.keep b7)) λ iM gB=> ?_;have:=gB.size;have c1:=J b7 gB;refine aU Z<|aN Z<|gJ Z Z<|aJ<| ?_;refine ob Z (λ l_=> ?_) (λ l_=> ?_)
 ·refine aG<|aa (v:= .agg #[γ 0,γ 0, .slice none 0 0, .slice none 0 0, .slice none 0 0, .slice none 0 0, .slice none 0 0,γ 0,γ 0]) (ht Z)<|vm Z<| ?_;have aF:=aF.later gB;refine c6 Z Z aF Z cP Z Z λ qE oE aF=> ?_;have lX:=Ext.mod c1 oE bE;refine va Z<|bL Z<|cW<|dR (.cell Z (aF.all fb cP) (.tmp Z (.tmp Z .nil)))<| ?_;obtain ⟨aR,a6,cM⟩:=am8 ‹_›;exact ⟨⟨none,none,none,none,none,0,0,0,0,0⟩,none,0,by rw [aR,a6,cM];rfl,by rw [aR];exact bt.zero _ _,by rw [a6];exact Φ.aL.nil _,λ q I=>by simp [Φ.ab] at I,lX⟩
 ·have av:=Good.tX l_;refine bF<|aI<|aN Z<|aa (dC underlying145 Z)<|aa (iv Z Z)<|aJ<| ?_;refine fM Z (λ vL=> ?_) (λ vL=> ?_)
  ·refine aG<|aa (v:= .agg #[γ 0,γ 0, .slice none 0 0, .slice none 0 0, .slice none 0 0, .slice none 0 0, .slice none 0 0,γ 0,γ 0]) (ht Z)<| ?_;have aF:=aF.later gB;refine c6 Z Z aF Z cP Z Z λ uk BM aF=> ?_;have ka:=Ext.mod c1 BM bE;refine va Z<|bL Z<|cW<|dR (.cell Z (aF.all fb cP) (.tmp Z (.tmp Z .nil)))<| ?_;obtain ⟨aR,a6,cM⟩:=am9 (W:=W) (l:=l) l_ (by omega);exact ⟨⟨none,none,none,none,none,0,0,0,0,0⟩,none,0,by rw [aR,a6,cM];rfl,by rw [aR];exact bt.zero _ _,by rw [a6];exact Φ.aL.nil _,λ q I=>by simp [Φ.ab] at I,ka⟩
  ·refine bF<|aG<| ?_;have ag:=ag.later gB;refine aa (aA Z (ag.all fb cP))<|ca anP Z Z ((awL a W _ (b8.keep c1)).mono ?_);rintro e Ca ⟨cV,rfl,bc,kZ⟩;refine cK ?_;have:=kZ.size;have oZ:=J c1 kZ;have yM:=bY bc.lt;refine aa (v:= .agg #[γ W.field.wide,γ W.field.high, .slice cV.P W.field.places.length cV.p, .slice cV.B W.bj.length cV.b, .slice cV.S W.bh.length cV.s, .slice cV.M W.bW.length cV.m, .slice cV.T W.ah.length cV.t,γ W.next,γ W.now]) (ht Z)<|dj anQ Z λ Cb nB lU adE y6=> ?_;have n2:=J oZ lU;refine c6 Z Z y6 Z anR Z Z λ sN lh y6=> ?_;have k1:=Ext.mod n2 lh bE;refine aJ<|aG<|aU Z<|aI<|aN Z<|aa (dC underlying145 Z)<|vm Z<|aJ<|bV<| ?_;have bc:=(bc.later lU).mod lh (bk yM);have ji:kN sN iM.heap.size nB cV W:=⟨y6,bc,λ I=>by have:=yM _ I;omega,by omega⟩;have aF:=(aF.later (J gB (J kZ lU))).mod lh aY;refine gh (λ cL cw aV=>∃ k:Nat,∃ a2:ae.cU,∃ AS:Option Addr,∃ Mn:Nat,cw= [(4, .pointer (a_ dI)),(5, .slice none 0 0),(6,γ 0),(8, .pointer (a_ nB)),(9, .slice AS ((W.gY (l.take k)).2.length) Mn),(25, .slice A l.length c),(26,γ (l.length:Int)),(27,γ (k:Int))]∧cL=l.length - k∧Ext w aV∧aO aV dI [γ 0,γ 0, .slice none 0 0, .slice none 0 0, .slice none 0 0, .slice none 0 0, .slice none 0 0,γ 0,γ 0] 52 (0,0)∧kN aV iM.heap.size nB a2 (W.gY (l.take k)).1∧nQ.aL 4 1 aV w.heap.size (Φ.ab AS) AS Mn (W.gY (l.take k)).2∧(k≤l.length)∧(∀ q∈Φ.ab AS,q≠nB∧q∉bt.cA a2)∧(∀ q∈Φ.ab AS,q=dI→False)) _ _ ⟨0,cV,none,0,Z,Z,k1,aF,ji,(Φ.aL.nil _),by omega,λ q I=>by simp [Φ.ab] at I,(λ q I af=>by (simp [Φ.ab] at I))⟩ (eV Z Z Z) ?_;rintro J3 aDc VA ⟨k,a2,AS,Mn,rfl,rfl,sV,aF,ji,s5,aj,hd,vC⟩;have axB:=aF.lt;have azU:=bY s5.lt;have O8:=λ q I=>(ji.own.lt q I).2;have FZ:=ji.eh.lt;have F6:(W.gY (l.take k)).2.length=k:=by rw [Y3,aME];omega
   refine aG<|fI Z Z<|aJ<|aI<| ?_;refine fM Z (λ tC=> ?_) (λ tC=> ?_)
   ·refine bF<|aI<|bV<|aG<|aa (bX k underlying145 C2 Z Z ((ay.keep sV).bx (a1 k)) Z (by omega))<|aa (aA Z (Φ.aQ.jG aqW (by rw [← (ay.keep sV).bx (a1 k)];exact (ay.keep sV)) (cl (l:=l) (u:=default) (by omega)) Iy C2))<|dj anS Z λ VB aEf AE aHX Li=> ?_;have Cq:=J sV AE;have afh:=Li.lt;refine c6 Z Z Li Z C2 Z Z λ agP J4 Li=> ?_;have:=J4.size;have Hg:=Ext.mod Cq J4 bE;refine aJ<|rg<|vm Z<|aa (aA Z (Li.all Iy C2))<| ?_;have ji:=(ji.later AE).mod J4 (λ q I=>by rw [aMu.1 I];exact ⟨by omega,λ hf=>by have:=O8 _ hf;have:=(ji.own.lt _ hf).1;omega⟩);have s5:=(s5.later AE).mod J4 (bk azU);refine ca anT Z Z ((amZ (l.getD k default) _ iM.heap.size nB a2 (W.gY (l.take k)).1 ji (av.gY _)).mono ?_);rintro e KO ⟨a3,rfl,aje,hf,pH⟩;refine cK ?_;have hu:=bY s5.lt;have:=pH.size;have uL:=Ext.mod Hg pH (λ q I=>(aMN.1 I).elim (λ h=>by rw [h];omega) (λ h=>by have:=(ji.own.lt q h).1;omega));have F5:∀ q∈Φ.ab AS,q≠nB∧q∉bt.cA a3:=λ q I=>⟨(hd q I).1,λ h=>(hf q h).elim (hd q I).2 (λ h=>by have:=hu q I;omega)⟩;have ajc:=ji;have ji:=aje;have O8:=λ q I=>(ji.own.lt q I).2;refine b9 (e:= 4) (cs:= [.bool (((W.gY (l.take k)).1.kA (l.getD k default)).isSome)]) Z (λ _=>by kernel_rfl) Z λ KP aEm hT aH3 W5=> ?_;have rS:=J uL hT;have axG:=W5.lt;have s5:=(s5.mod pH (λ q I h=>(aMN.1 h).elim (hd q I).1 (hd q I).2)).later hT;refine ap aiU Φ.cZ s5 (aO.fu (R:=nQ) (by_:=1) (q:=((W.gY (l.take k)).1.kA (l.getD k default)).isSome) W5 ⟨Z,trivial⟩ (by decide)) Z Z (by simp only [aMw,aMz];omega) (by simp only [aMw,aMz];omega) rS.size Z λ Pq WB al2 J5 aj6 aan aI9=> ?_;have y1:=Ext.mod rS J5 (λ q I=>(s5.lt q I).1);have aq0:∀ q∈Φ.ab WB,q≠nB∧q∉bt.cA a3:=λ q I=>(aan q I).elim (F5 q) (λ h=>⟨by omega,λ hf=>by have:=O8 q hf;omega⟩);refine va Z<|nl<|cm<|eR Z Z Z<| ?_;have aF:=((((aF.later AE).mod J4 aY).mod pH (λ h=>(aMN.1 h).elim (λ h=>by omega) (λ h=>by have:=(ajc.own.lt _ h).1;omega))).later hT).mod J5 (λ I=>vC _ I rfl);have ji:=(ji.later hT).mod J5 (λ q I=>F5 q I);exact lM _ _ ⟨k+1,a3,WB,al2,Z,Z,y1,aF,(by rw [Rj (by omega:k<l.length)];exact ji),(by rw [Rj (by omega:k<l.length)];exact aj6),by omega,aq0,(gp aan vC)⟩ (by omega) (.cons Z (.cons Z (.cons Z (.cons Z (.cons (by rw [Rj (by omega:k<l.length)];rfl) (eV Z Z Z))))))
   ·refine er<|ep<|eY<|eo<|br<|aG<|aa (ar l8 Z)<|aa (aA Z (ji.eh.all fb cP))<|vm Z<|st Z Z aF Z cP Z Z Z λ G4 h' aF=> ?_;have n4:=Ext.mod sV h' bE;refine va Z<|bL Z<|dR (.cell Z (aF.all fb cP) (.tmp Z (.tmp Z .nil)))<| ?_;have ji:=ji.mod h' (λ q I=>by rw [aMu.1 I];exact ⟨by omega,λ hf=>by have:=O8 _ hf;have:=(ji.own.lt _ hf).1;omega⟩);have s5:=s5.mod h' (cY vC);obtain rfl:k=l.length:=by omega
    refine ⟨a2,AS,Mn, ?_, ?_, ?_,λ q I=>(hd q I).2,n4⟩
    ·rw [Rl l_ (by omega),MJ l_ (by omega),Rm l_ (by omega),aOk];rfl
    ·rw [Rl l_ (by omega)];rw [aOk] at ji;exact ji.own.down (by omega)
    ·rw [MJ l_ (by omega)];rw [aOk] at s5;exact s5
end
def wt (t:a8):Int:=t.load+ae.kW t.kind
def ae.total (W:ae):Int:=W.bW.sum+W.bh.sum+(W.ah.map wt).sum
def ae.aMo (W:ae):Int:=if W.a7=0 then W.total else 0
def ayV:ae:=⟨⟨3,1, [0,0,3]⟩, [⟨0,0⟩], [20], [0,0,9], [⟨1,0,1,⟨1,0⟩,10,0⟩],2,0⟩
def ayU:List c9:= [(⟨1,1,⟨2,0⟩,0⟩:c9),(⟨3,0,⟨0,0⟩,2⟩:c9)]
def aKF:ae:=ayV.si ayU
section
theorem av7:∀ (n:Nat) (l:List Nat),l.Nodup→(∀ x∈l,x<n)→l.length≤n:=by
 intro n;induction n with
 | zero =>
  intro l _ h;cases l with
  | nil=>exact aMO _
  | cons x r=>exact absurd (h x aM5) (by omega)
 | succ n bu =>
  intro l hn h;by_cases hm:n∈l
  ·have κ:=bu (l.erase n) (hn.erase _) (λ x hx=>by
    have:=h x (aQN hx);have dD:x≠n:=λ e=>by subst e;exact (List.Nodup.not_mem_erase hn) hx
    omega)
   rw [List.length_erase_of_mem hm] at κ;omega
  ·have:=bu l hn (λ x hx=>by
    have:=h x hx;have dD:x≠n:=λ e=>hm (by rw [← e];exact hx)
    omega)
   omega
section
variable {f:au} {a b c x y:ai} {d D:Int} {far:List Int} {ao:ai→Int}
theorem amp (hf:f.a7=0) {l:List ai} (hn:l.Nodup) (ak:∀ x∈l,f.dU x=true):l.length≤f.places.length:=by
 have κ:(l.map f.at_).Nodup:=by
  have:∀ l:List ai,l.Nodup→(∀ x∈l,f.dU x=true)→(l.map f.at_).Nodup:=by
   intro l;induction l with
   | nil=>intro _ _;exact aPD
   | cons x r bu =>
    intro hn ak;rw [aOF] at hn;rw [aNc,aOF];refine ⟨λ hm=> ?_,bu hn.2 λ y aH=>ak y (aMK _ aH)⟩;obtain ⟨y,aH,e⟩:=aMT.1 hm;have:=au.XP hf (ak y (aMK _ aH)) (ak x aM5) e;subst this;exact hn.1 aH
  exact this l hn ak
 have:=av7 f.places.length _ κ (λ i hm=>by
  obtain ⟨y,aH,rfl⟩:=aMT.1 hm;exact (au.xN hf (ak y aH)).1)
 rwa [aNf] at this
abbrev lA (f:au) (a:ai):ai→Int→Prop:=l3.l5 f.cD f.fg (λ s=>s=a)
abbrev qN (f:au) (a:ai):ai→Int→Prop:=l3.pQ f.cD f.fg (λ s=>s=a)
theorem lA.yD (r:lA f a x d):0≤d:=l3.l5.yD (au.Un f) r
theorem lA.ground (ha:f.ground a=true) (r:lA f a x d):f.ground x=true:=by
 induction r with
 | start hs=>rw [hs];exact ha
 | step _ aH _=>exact (au.D2.1 aH).2
theorem lA.nT (r:lA f a x d) {e:Int} (q:lA f x y e):lA f a y (d+e):=by
 induction q with
 | start hs=>rw [hs,Int.add_zero];exact r
 | step _ aH bu=>rw [← Int.add_assoc];exact .step bu aH
theorem qN.pred (h:qN f a x d):(x=a∧d=0)∨∃ p e,qN f a p e∧x∈f.cD p∧d=e+f.fg x:=by
 obtain ⟨r,hm⟩:=h;cases r with
 | start hs=>exact .inl ⟨hs,rfl⟩
 | @step p _ e hp aH =>
  obtain ⟨e',he⟩:=l3.l5.ab5 (au.Un f) hp;have κ:=he.2 _ hp;have τ:=hm _ (.step he.1 aH);have:e=e':=by omega
  subst this;exact .inr ⟨p,e,he,aH,Z⟩
theorem qN.chain (hf:f.a7=0) (ha:f.ground a=true):∀ (n:Nat) (x:ai) (d:Int),qN f a x d→d.toNat=n→∃ l:List ai,l.Nodup∧(∀ y∈l,f.dU y=true∧∃ e,qN f a y e∧e≤d)∧d+3≤3 * (l.length:Int):=by
 intro n;induction n using Nat.strongRecOn with
 | ind n bu =>
  intro x d h hn;have hx:=au.jn (lA.ground ha h.1);rcases h.pred with ⟨κ,τ⟩ | ⟨p,e,κ,τ,aq⟩
  ·refine ⟨[x],by simp,λ y aH=> ?_,by rw [τ];simp⟩;rw [aMu.1 aH];exact ⟨hx,d,h,aNS _⟩
  ·have aj:=f.mR (c:=x);have he:=lA.yD κ.1;obtain ⟨l,dO,iJ,ady⟩:=bu e.toNat (by omega) p e κ rfl;refine ⟨x::l,aOF.2 ⟨λ hm=> ?_,dO⟩,λ y aH=> ?_,by rw [aMw];omega⟩
   ·obtain ⟨_,e',bb,bT⟩:=iJ x hm;have:=bb.uniq h;omega
   ·rcases aMN.1 aH with rfl | aH
    ·exact ⟨hx,d,h,aNS _⟩
    ·obtain ⟨bb,e',bT,cy⟩:=iJ y aH;exact ⟨bb,e',bT,by omega⟩
theorem qN.gO (hf:f.a7=0) (ha:f.ground a=true) (h:qN f a x d):d+3≤3 * (f.places.length:Int):=by
 obtain ⟨l,dO,iJ,ady⟩:=h.chain hf ha _ x d rfl;have:=amp hf dO λ y aH=>(iJ y aH).1;omega
def cellAt (f:au) (i:Nat):ai:=⟨(i:Int) % f.wide,(i:Int) / f.wide⟩
theorem amh (hf:f.a7=0) (hc:f.dU c=true):cellAt f (f.at_ c)=c:=by
 obtain ⟨_,_,a2,a3,a4,a5⟩:=au.idx hf hc;have h:=(au.xN hf hc).2;unfold cellAt;rw [h];have aR:(c.y * f.wide+c.x) % f.wide=c.x:=by rw [aP3,aO5,aP2 a2 a3]
 have a6:(c.y * f.wide+c.x) / f.wide=c.y:=by rw [aP3,Int.add_mul_ediv_right _ _ (by omega),Int.ediv_eq_zero_of_lt a2 a3,Int.zero_add]
 rw [aR,a6]
theorem apA (hf:f.a7=0) {g:ai→Int} (aT:∀ c,f.dU c=false→g c= -1):f.ao ((List.range f.places.length).map λ i=>g (cellAt f i)) c=g c:=by
 cases hc:f.dU c with
 | false=>rw [au.Da hc,aT c hc]
 | true =>
  rw [au.FH hc,aMv,aMX,aPO (au.xN hf hc).1];show g (cellAt f (f.at_ c))=g c;rw [amh hf hc]
theorem Ur (hf:f.a7=0) (ha:f.ground a=true) (b:ai):∃ far,mG f a b far:=by
 let Q:ai→Int→Prop:=λ c d=>qN f a c d∧∀ D,qN f a b D→d+au.iW b c≤D
 let g:ai→Int:=λ c=>@dite _ (∃ d,Q c d) (Classical.propDecidable _) (λ h=>h.choose) λ _=> -1
 have Nq:∀ c d,Q c d→g c=d:=λ c d h=>by
  have hex:∃ d,Q c d:=⟨d,h⟩;show @dite _ (∃ d,Q c d) (Classical.propDecidable _) (λ h=>h.choose) (λ _=> -1)=d;rw [dif_pos hex];exact hex.choose_spec.1.uniq h.1
 have gn:∀ c,(¬ ∃ d,Q c d)→g c= -1:=λ c h=>by
  show @dite _ (∃ d,Q c d) (Classical.propDecidable _) (λ h=>h.choose) (λ _=> -1)= -1;rw [dif_neg h]
 have Nn:∀ c,0≤g c→Q c (g c):=λ c h=>by
  by_cases hex:∃ d,Q c d
  ·obtain ⟨d,hd⟩:=hex;rw [Nq c d hd];exact hd
  ·rw [gn c hex] at h;omega
 have go:∀ c,f.dU c=false→g c= -1:=λ c hc=>gn c λ ⟨d,hd⟩=>by
  have:=au.jn (lA.ground ha hd.1.1);rw [hc] at this;cases this
 have kB:∀ c,f.ao ((List.range f.places.length).map λ i=>g (cellAt f i)) c=g c:=λ c=>apA hf go;refine ⟨(List.range f.places.length).map λ i=>g (cellAt f i),by rw [aNf,aQ8],⟨λ c h=> ?_,λ c h=> ?_,λ c d hd hle=> ?_,λ c h=> ?_⟩,λ c=> ?_,λ c h=> ?_⟩
 ·rw [kB c] at h ⊢;by_cases hex:∃ d,Q c d
  ·obtain ⟨d,hd⟩:=hex;rw [Nq c d hd] at h;have:=lA.yD hd.1.1;omega
  ·exact gn c hex
 ·rw [kB c] at h ⊢;exact Nn c h
 ·rw [kB c];exact Nq c d ⟨hd,hle⟩
 ·rw [kB c] at h ⊢;have I:=Nn c h;rcases I.1.pred with κ | ⟨p,e,κ,τ,aq⟩
  ·exact .inl κ
  ·right;have he:=au.M3 b (au.D2.1 τ).1;have aj:=f.mR (c:=c);have hp:g p=e:=Nq p e ⟨κ,λ D mM=>by have:=I.2 D mM;omega⟩;exact ⟨p,by rw [kB p,hp];exact lA.yD κ.1,τ,by rw [kB p,hp];exact aq⟩
 ·rw [kB c];by_cases h:0≤g c
  ·have:=(Nn c h).1.gO hf ha;omega
  ·omega
 ·rw [kB c] at h;exact lA.ground ha (Nn c h).1.1
theorem RZ (hf:f.a7=0) (ha:f.ground a=true):l3.Spec f.cD f.fg (au.iW b) (λ s=>s=a) b (cE f a b):=by
 obtain ⟨far,h⟩:=Ur hf ha b;rw [← h.C'];exact h.spec
theorem IJ (hf:f.a7=0) (ha:f.ground a=true) (h:0≤cE f a b c):qN f a c (cE f a b c):=((RZ hf ha).nC c h).1
theorem aab (hf:f.a7=0) (ha:f.ground a=true) (h:qN f a b d):cE f a b b=d:=(RZ hf ha).end_ (au.RO b) h
theorem apz (hf:f.a7=0) (ha:f.ground a=true) (h:lA f a b d):0≤cE f a b b∧cE f a b b≤d:=by
 obtain ⟨e,he⟩:=l3.l5.ab5 (au.Un f) h;rw [aab hf ha he];exact ⟨lA.yD he.1,he.2 _ h⟩
theorem IK (hf:f.a7=0) (ha:f.ground a=true) (h:0≤cE f a b b):nu f a (cE f a b):=by
 obtain ⟨far,hp⟩:=Ur hf ha b;exact nu.aeL hp h
theorem aAC (h:nu f a ao):∀ (n:Nat) (c:ai),0≤ao c→(ao c).toNat=n→∀ x∈eX f ao a c,0≤ao x∧ao x≤ao c∧f.ground x=true:=by
 intro n;induction n using Nat.strongRecOn with
 | ind n bu =>
  intro c hc hn x hx;by_cases e:c=a
  ·subst e;rw [Av h] at hx;rw [aMu.1 hx];exact ⟨hc,aNS _,h.gr _ hc⟩
  ·obtain ⟨mW,mX,mm,yE⟩:=h.prev hc e;have aj:=f.mR (c:=c);rw [Aw h hc e] at hx;rcases aMN.1 hx with rfl | hx
   ·exact ⟨hc,aNS _,h.gr _ hc⟩
   ·obtain ⟨kX,nP,D8⟩:=bu _ (by omega) _ mm rfl x hx;exact ⟨kX,by omega,D8⟩
theorem M7 (he:eH f a b=0):f.a7=0∧f.ground a=true∧f.ground b=true∧0≤cE f a b b∧iw f a b=cE f a b b∧cQ f a b=(eX f (cE f a b) a b).reverse:=by
 rcases RR f a b with ⟨κ,τ⟩ | ⟨κ,τ,aq⟩ | ⟨κ,τ,aq,bb⟩ | ⟨κ,τ,aq,bb | bb⟩
 ·rw [τ] at he;exact absurd he κ
 ·rw [aq] at he;exact absurd he τ
 ·rw [bb] at he;cases he
 ·rw [bb.2] at he;cases he
 ·refine ⟨κ,τ,aq,bb.1, ?_, ?_⟩
  ·unfold iw;rw [aMI he]
  ·unfold cQ;rw [aMI he]
end
end
def aIr:List a8:= [⟨1,0,1,⟨2,0⟩,10,0⟩]
def aIq:List dT:= [⟨1,⟨2,0⟩⟩]
section
variable {i:Nat} {t:a8}
def Cu (s t:a8):Prop:=s.id<t.id∧s.spot≠t.spot
theorem Sg {α:Type} [Inhabited α] {l:List α} {t:α} (h:l[i]? =some t):l.getD i default=t:=by rw [aMv,h];rfl
theorem Good.asX {W:ae} (av:Good W) {j:Nat} {s:a8} (kU:i<j) (hs:W.ah[i]? =some s) (aC:W.ah[j]? =some t):s.id<t.id:=by
 induction j generalizing t with
 | zero=>omega
 | succ j bu =>
  have aw:=(aMx.1 aC).1;obtain ⟨u,hu⟩:=jm (l:=W.ah) (i:=j) (by omega);have κ:=(av.ids (j+1) t aC).1;have τ:W.i' (j+1)=u.id:=by
   unfold ae.i';rw [aMA (by omega),aPT,Sg hu]
  rcases aPi.1 kU with h | rfl
  ·have:=bu h hu;omega
  ·rw [hs] at hu;injection hu with hu;subst hu;omega
theorem Good.GG {W:ae} (av:Good W):W.ah.Pairwise Cu:=by
 rw [aNn];intro i j ak aw kU;have hs:=aMy ak;have aC:=aMy aw;refine ⟨av.asX kU hs aC,λ e=> ?_⟩;have κ:=av.iz j _ aC;rw [← e] at κ;have:(W.iz j).contains (W.ah[i]).spot=true:=by
  rw [aOS];unfold ae.iz;exact aMT.2 ⟨_,aOQ.2 ⟨i,by rw [aNe,aMI kU,hs]⟩,Z⟩
 rw [this] at κ;exact nomatch κ
theorem Good.each {W:ae} (av:Good W) (aC:t∈W.ah):0<t.id∧t.id<W.next∧L3 W.field W.bj.length t:=by
 obtain ⟨i,ak⟩:=aOQ.1 aC;have κ:=av.ids i t ak;exact ⟨by omega,κ.2.1,av.ah i t ak⟩
theorem Good.aeM {W V:ae} (av:Good W) (hf:V.field=W.field) (af:V.bj=W.bj) (hs:V.bh=W.bh) (hm:V.bW=W.bW) (hn:V.next=W.next) (bl:0≤V.now∧V.now≤1000000) (ay:V.ah.length≤100) (bJ:V.ah.Pairwise Cu)
  (ej:∀ t∈V.ah,0<t.id∧t.id<V.next∧L3 V.field V.bj.length t):Good V where
 field:=by rw [hf];exact av.field
 gU:=by rw [af];exact av.gU
 dH:=ay
 sl:=by rw [hs,af];exact av.sl
 bj:=by rw [af,hf];exact av.bj
 bh:=by rw [hs];exact av.bh
 D3:=by rw [hm,hf];exact av.D3
 bW:=by rw [hm,hf];exact av.bW
 ah:=λ i t aC=>(ej t (aNi aC)).2.2
 ids:=λ i t aC=>by
  have κ:=ej t (aNi aC);unfold ae.i';split
  ·exact ⟨κ.1,κ.2.1,aNS _⟩
  ·rename_i aB
   have ak:=(aMx.1 aC).1;obtain ⟨u,hu⟩:=jm (l:=V.ah) (i:=i - 1) (by omega);rw [Sg hu];have τ:=ej u (aNi hu);have aq:=(aNn.1 bJ) (i - 1) i (by omega) ak (by omega);have aR:V.ah[i - 1]'(by omega)=u:=(aMx.1 hu).2;have a6:V.ah[i]=t:=(aMx.1 aC).2;rw [aR,a6] at aq;exact ⟨aq.1,κ.2.1,by omega⟩
 iz:=λ i t aC=>by
  rw [aRb];intro hc;rw [aOS] at hc;unfold ae.iz at hc;obtain ⟨s,gm,iI⟩:=aMT.1 hc;obtain ⟨j,aw⟩:=aOQ.1 gm;rw [aNe] at aw;split at aw
  ·rename_i fe
   have ak:=(aMx.1 aC).1;have aq:=(aNn.1 bJ) j i (by omega) ak fe;have aR:V.ah[j]'(by omega)=s:=(aMx.1 aw).2;have a6:V.ah[i]=t:=(aMx.1 aC).2;rw [aR,a6] at aq;exact aq.2 iI
  ·exact nomatch aw
 next:=by rw [hn];exact av.next
 now:=bl
end
def agc (l:List a8) (x:Int):Option a8:=l.find? λ t=>t.id == x
def aKS (l:List a8) (x:Int):Value:= .tuple #[.agg ((agc l x).getD default).cells.toArray, .bool (agc l x).isSome]
def Kq (l:List Int):Bool:=(List.range (l.length - 1)).all λ i=> !decide (l.getD (i+1) 0<l.getD i 0)
theorem ayY {l:List Int} (h:∀ i,i+1<l.length→¬ l.getD (i+1) 0<l.getD i 0):Kq l=true:=by
 unfold Kq;rw [aNd];intro i ak;have:=h i (by have:=aM8.1 ak;omega);simpa using this
def aKA {α:Type} (l:List α) (k:Nat):List α:=l.mapIdx λ i x=>if i<k∨l.length - k≤i then (l[l.length - 1 - i]?).getD x else x
section
variable {l:List eM}
def z6 (W:ae) (l:List eM):List a8:=(List.range W.ah.length).map (wb W.ah (fE W l))
structure H4 (W:ae) (l:List eM):Prop where
 g_:Good W
 b8:ub W l= {W with ah:=(z6 W l).filter λ t=>decide (0<t.df)}
 av:yI W l=((z6 W l).filter λ t=> !decide (0<t.df)).map a8.id
 aqF:∀ k,0≤(fE W l).getD k 0
 ay:(fE W l).length=W.ah.length
theorem aga {W:ae} (h:lD W l=0):H4 W l :=
 ⟨Good.tX (Q0 h).1,(O4 h rfl).1,(O4 h rfl).2,λ k=>((SY h).2 k).1,(SY h).1⟩
theorem NZ (W:ae) (l:List eM):(z6 W l).length=W.ah.length:=by simp [z6]
theorem NY {W:ae} {k:Nat} {t:a8} (h:W.ah[k]? =some t):(z6 W l)[k]? =some {t with df:=t.df - (fE W l).getD k 0}:=by
 have aj:=(aMx.1 h).1;unfold z6;rw [aMX,aPO aj,aOc];unfold wb;rw [Sg h]
theorem asD {W:ae} {x:a8} (h:x∈z6 W l):∃ (k:Nat) (t:a8),W.ah[k]? =some t∧x= {t with df:=t.df - (fE W l).getD k 0}:=by
 obtain ⟨k,aj⟩:=aOQ.1 h;have bB:=(aMx.1 aj).1;rw [NZ] at bB;obtain ⟨t,aC⟩:=jm bB;rw [NY aC] at aj;injection aj with aj
 exact ⟨k,t,aC,aj.symm⟩
theorem H4.GG {W:ae} (h:H4 W l):(z6 W l).Pairwise Cu:=by
 rw [aNn];intro i j ak aw kU;rw [NZ] at ak aw;obtain ⟨s,hs⟩:=jm ak;obtain ⟨t,aC⟩:=jm aw;have aR:=(aMx.1 (NY (l:=l) hs)).2;have a6:=(aMx.1 (NY (l:=l) aC)).2;rw [aR,a6];have:=(aNn.1 h.g_.GG) i j ak aw kU;rw [(aMx.1 hs).2,(aMx.1 aC).2] at this;exact this
theorem H4.right {W:ae} (h:H4 W l):Good (ub W l):=by
 rw [h.b8];refine Good.aeM h.g_ Z Z Z Z Z h.g_.now ?_ (h.GG.filter _) λ t aC=> ?_
 ·exact aMR (aN1 _ _) (by rw [NZ];exact h.g_.dH)
 ·obtain ⟨aC,hp⟩:=aNO.1 aC;obtain ⟨k,s,hs,rfl⟩:=asD aC;have κ:=h.g_.each (aNi hs);have τ:=h.aqF k;have aq:=aNt hp;refine ⟨κ.1,κ.2.1,⟨κ.2.2.kind,κ.2.2.owner,κ.2.2.ground, ?_,κ.2.2.load⟩⟩;have bb:=κ.2.2.df;show 1≤s.df - _∧s.df - _≤ae.hg s.kind;have bT:0<s.df - (fE W l).getD k 0:=aq;omega
theorem ayX {l:List Int} (h:l.Pairwise (· < ·)):Kq l=true:=by
 refine ayY λ i ak=> ?_;have:=(aNn.1 h) i (i+1) (by omega) ak (by omega);rw [aMv,aMv,aMy ak,aMy (by omega:i<l.length)];show ¬ l[i+1]<l[i];omega
end
section
section
variable {f:au} {a b c x y:ai} {d D:Int}
theorem axf (hf:f.a7=0) (ha:f.ground a=true) (F2:0≤cE f a b c) (aa3:0≤cE f a x c):kG f (cE f a b) c=kG f (cE f a x) c:=by
 have key:∀ t n,n∈dF c→0≤cE f a t c→((f.ground n && decide (0≤cE f a t n) && decide (cE f a t n+f.fg c=cE f a t c))=true↔∃ e,qN f a n e∧qN f a c (e+f.fg c)):=by
  intro t n hn aC;have hs:=RZ (b:=t) hf ha;have aba:=IJ hf ha aC;constructor
  ·intro h;simp only [aMF,aMD] at h;exact ⟨_,IJ hf ha h.1.2,by rw [h.2];exact aba⟩
  ·rintro ⟨e,κ,τ⟩;have he:=aba.uniq τ;have Gb:cE f a t n=e:=hs.known n e κ λ D mM=>by
    have:=(hs.nC c aC).2 D mM;have aq:=au.M3 t (au.GN hn);have aj:=f.mR (c:=c);omega
   rw [Gb,lA.ground ha κ.1,aMV (lA.yD κ.1),aMV he.symm];rfl
 unfold kG;congr 1;apply find_congr;intro n hn;rw [aQi,key b n hn F2,key x n hn aa3]
where
 find_congr {p q:ai→Bool}:∀ {l:List ai},(∀ n∈l,p n=q n)→l.find? p=l.find? q
  | [],_=>rfl
  | n::l,h=>by
   rw [List.find?_cons,List.find?_cons,h n aM5,find_congr λ m hm=>h m (aMK _ hm)]
theorem aAD (hf:f.a7=0) (ha:f.ground a=true) (af:0≤cE f a b b) (hx:0≤cE f a x x):∀ (n:Nat) (c:ai),0≤cE f a b c→0≤cE f a x c→(cE f a b c).toNat=n→eX f (cE f a b) a c=eX f (cE f a x) a c:=by
 have P_:=IK hf ha af;have P':=IK hf ha hx;intro n;induction n using Nat.strongRecOn with
 | ind n bu =>
  intro c κ τ hn;by_cases e:c=a
  ·subst e;rw [Av P_,Av P']
  ·have hp:=axf (b:=b) (x:=x) hf ha κ τ;obtain ⟨mW,mX,mm,yE⟩:=P_.prev κ e;obtain ⟨kX,nP,D8,ON⟩:=P'.prev τ e;have aj:=f.mR (c:=c);rw [Aw P_ κ e,Aw P' τ e,← hp];congr 1;exact bu _ (by omega) _ mm (by rw [hp];exact D8) Z
theorem aAE {ao:ai→Int} (h:nu f a ao):∀ (n:Nat) (c:ai),0≤ao c→(ao c).toNat=n→∀ i,(ak:i<(eX f ao a c).length)→(eX f ao a c).drop i=eX f ao a ((eX f ao a c)[i])∧lA f ((eX f ao a c)[i]) c (ao c - ao ((eX f ao a c)[i])):=by
 intro n;induction n using Nat.strongRecOn with
 | ind n bu =>
  intro c hc hn i ak;by_cases e:c=a
  ·subst e;rw [Av h] at ak;have:i=0:=by simpa using ak
   subst this;simp only [Av h,aQr,aQH];exact ⟨by first | trivial | rfl,by rw [aP1];exact .start rfl⟩
  ·have iZ:=Aw h hc e;obtain ⟨mW,mX,mm,yE⟩:=h.prev hc e;have aj:=f.mR (c:=c);cases i with
   | zero =>
    have e0:(eX f ao a c)[0]=c:=by simp only [iZ,aQH]
    rw [e0,aQr,aP1];exact ⟨Z, .start Z⟩
   | succ i =>
    have Jk:i<(eX f ao a (kG f ao c)).length:=by rw [iZ] at ak;simpa using ak
    obtain ⟨dt,ey⟩:=bu _ (by omega) _ mm rfl i Jk;have aR:(eX f ao a c)[i+1]=(eX f ao a (kG f ao c))[i]:=by simp only [iZ,List.getElem_cons_succ]
    rw [aR];refine ⟨by rw [← dt,iZ,aQW], ?_⟩;have r:lA f _ c (ao (kG f ao c) - ao ((eX f ao a (kG f ao c))[i])+f.fg c):= .step ey (au.D2.2 ⟨au.GN mW,h.gr c hc⟩);rw [show ao c - ao ((eX f ao a (kG f ao c))[i])=ao (kG f ao c) - ao ((eX f ao a (kG f ao c))[i])+f.fg c by omega];exact r
theorem aAI (he:eH f a b=0) {n:Nat} (hn:n<(cQ f a b).length) {x:ai} (hx:(cQ f a b).getD n default=x):eH f a x=0∧eH f x b=0∧cQ f a x=(cQ f a b).take (n+1)∧iw f a x+iw f x b=iw f a b:=by
 obtain ⟨hf,ha,af,aB,aj,hp⟩:=M7 he;have F:=IK hf ha aB;have ay:(cQ f a b).length=(eX f (cE f a b) a b).length:=by rw [hp,aOi]
 have ak:(eX f (cE f a b) a b).length - 1 - n<(eX f (cE f a b) a b).length:=by omega
 obtain ⟨s1,s2⟩:=aAE F _ b aB rfl _ ak;have ex:(eX f (cE f a b) a b)[(eX f (cE f a b) a b).length - 1 - n]=x:=by
  rw [oj hn] at hx;rw [← hx];simp only [hp,aQT]
 rw [ex] at s1 s2;have JC:x∈eX f (cE f a b) a b:=by rw [← ex];exact aNK ak
 obtain ⟨fj,fQ,ih⟩:=aAC F _ b aB rfl x JC;have abb:=IJ hf ha fj;have aR:=aab hf ha abb;have jL:0≤cE f a x x:=by rw [aR];exact fj
 have zX:=M8 hf ha ih jL;have r2:=apz hf ih s2;have abX:=M8 hf ih af r2.1;refine ⟨zX,abX, ?_, ?_⟩
 ·have NU:cQ f a x=(eX f (cE f a x) a x).reverse:=by unfold cQ;rw [aMI zX]
  rw [NU,← aAD hf ha aB jL _ x fj jL rfl,← s1,hp,List.reverse_drop,ay.symm.trans ay];congr 1;have:(eX f (cE f a b) a b).reverse.length=(eX f (cE f a b) a b).length:=aOi;omega
 ·have dt:iw f a x=cE f a x x:=by unfold iw;rw [aMI zX]
  have ey:iw f x b=cE f x b b:=by unfold iw;rw [aMI abX]
  rw [dt,ey,aj,aR];have aq:=(IJ hf ha aB).2 _ (lA.nT abb.1 (IJ hf ih r2.1).1);omega
end
end
section
variable {f:au} {l:List dT} {k:Nat} {c a:ai} {t:a8}
theorem af7 {T:List a8} (h:step1 f l T k=some c):
  0≤ei l (T.getD k default).id∧eH f (T.getD k default).spot (l.getD (ei l (T.getD k default).id).toNat default).bg=0∧2≤(cQ f (T.getD k default).spot (l.getD (ei l (T.getD k default).id).toNat default).bg).length∧
  c=(cQ f (T.getD k default).spot (l.getD (ei l (T.getD k default).id).toNat default).bg).getD 1 default∧ia T c≤0:=by
 unfold step1 at h;split at h
 ·exact nomatch h
 ·split at h
  ·exact nomatch h
  ·split at h
   ·exact nomatch h
   ·split at h
    ·exact nomatch h
    ·rename_i κ τ aq bb
     injection h with h
     subst h;exact ⟨by omega,by simpa using τ,by omega,rfl,by omega⟩
theorem ag1 {ao:ai→Int} (h:nu f a ao) (hc:0≤ao c):∃ r,eX f ao a c=c::r∧(r= []↔c=a):=by
 by_cases e:c=a
 ·subst e;exact ⟨[],Av h,by simp⟩
 ·obtain ⟨mW,mX,mm,yE⟩:=h.prev hc e;refine ⟨_,Aw h hc e,⟨λ hr=> ?_,λ h=>absurd h e⟩⟩;by_cases a6:kG f ao c=a
  ·rw [a6,Av h] at hr;exact nomatch hr
  ·rw [Aw h mm a6] at hr;exact nomatch hr
theorem ag2 {b x:ai} (he:eH f a b=0) (hn:2≤(cQ f a b).length) (hx:(cQ f a b).getD 1 default=x):
  eH f a x=0∧eH f x b=0∧iw f a x+iw f x b=iw f a b∧a∈dF x∧f.ground x=true∧x≠a∧cQ f a x= [a,x]:=by
 obtain ⟨κ,τ,aq,bb⟩:=aAI he (n:=1) (by omega) hx;obtain ⟨hf,ha,af,aB,aj,hp⟩:=M7 he;obtain ⟨_,_,ap4,jL,_,NU⟩:=M7 κ;have Lm:=IK hf ha jL;have ay:(cQ f a x).length=2:=by rw [aq,aME];omega
 rw [NU,aOi] at ay;have TJ:x≠a:=by
  intro e;obtain ⟨r,aR,a6⟩:=ag1 Lm jL;rw [aR,a6.2 e] at ay;simp at ay
 have iZ:=Aw Lm jL TJ;obtain ⟨mW,mX,mm,yE⟩:=Lm.prev jL TJ;obtain ⟨r,aR,a6⟩:=ag1 Lm mm;rw [iZ,aR] at ay;have hr:r= []:=aM3 (by simpa using ay);have abJ:=a6.1 hr;refine ⟨κ,τ,bb,by rw [← abJ];exact mW,ap4,TJ, ?_⟩;rw [NU,iZ,aR,hr,abJ];rfl
theorem ayP {T:List a8} (bJ:T.Pairwise Cu) (aj:k<T.length) (hc:ia T c≤0):(T.set k ((T.getD k default).bg c)).Pairwise Cu:=by
 have jr:∀ t∈T,t.spot≠c:=λ t aC e=>by have:=awp.2 ⟨t,aC,e⟩;omega
 have abe:T.getD k default=T[k]:=by rw [aMv,aMy aj];rfl
 rw [aNn] at bJ ⊢;intro i j ak aw kU;rw [aMM] at ak aw;have h:=bJ i j ak aw kU;rw [List.getElem_set,List.getElem_set];split<;>split
 ·omega
 ·rename_i aR a6
  subst aR;exact ⟨by have C1:=aON a8.id abe;have o':=h.1;show (T.getD k default).id<_;omega,λ e=>jr _ (aNK aw) e.symm⟩
 ·rename_i aR a6
  subst a6;exact ⟨by have C1:=aON a8.id abe;have o':=h.1;show _<(T.getD k default).id;omega,jr _ (aNK ak)⟩
 ·exact h
theorem af6 {f:au} {l:List dT} {T:List a8} {Q:a8→Prop} (eI:∀ t c,Q t→f.ground c=true→Q (t.bg c)) (bJ:T.Pairwise Cu) (aX:∀ t∈T,Q t):∀ k,k≤T.length→(iA f l T k).1.Pairwise Cu∧∀ t∈(iA f l T k).1,Q t
 | 0,_=>⟨bJ,aX⟩
 | k+1,aj=>by
  obtain ⟨ab2,TM⟩:=af6 (l:=l) eI bJ aX k (by omega);have ay:=(Kt (f:=f) (l:=l) (T:=T) k).1;cases hs:step1 f l (iA f l T k).1 k with
  | none=>rw [GO rfl hs];exact ⟨ab2,TM⟩
  | some c =>
   rw [GQ rfl hs];obtain ⟨d1,d2,d3,d4,d5⟩:=af7 hs;obtain ⟨_,_,_,_,g,_⟩:=ag2 d2 d3 d4.symm;refine ⟨ayP ab2 (by omega) d5,λ t aC=> ?_⟩;rcases aOb aC with aC | rfl
   ·exact TM t aC
   ·exact eI _ _ (TM _ (mU (by omega))) g
noncomputable def D4 (f:au) (l:List dT) (T:List a8) (i:Nat):Option ai:=step1 f l (iA f l T i).1 i
theorem azx {T:List a8} (h:k<T.length):(T.set k t).getD k default=t:=by rw [aMv,aNg h];rfl
theorem azw {T:List a8} {i:Nat} (h:k≠i):(T.set k t).getD i default=T.getD i default:=by rw [aMv,aNy h,aMv]
theorem O0 {f:au} {l:List dT} {T:List a8}:∀ k,k≤T.length→∀ i,i<T.length→(iA f l T k).1.getD i default=if i<k then (match D4 f l T i with | some c=>(T.getD i default).bg c | none=>T.getD i default) else T.getD i default
 | 0,_,i,ak=>by rw [aMA (by omega)];rfl
 | k+1,aj,i,ak=>by
  have bu:=O0 (f:=f) (l:=l) (T:=T) k (by omega);have ay:=(Kt (f:=f) (l:=l) (T:=T) k).1;have nF:=bu k (by omega);rw [aMA (by omega)] at nF;cases hs:D4 f l T k with
  | none =>
   rw [GO rfl hs,bu i ak];by_cases e:i=k
   ·subst e;rw [aMA (by omega),aMI (by omega),hs]
   ·by_cases a6:i<k
    ·rw [aMI a6,aMI (by omega)]
    ·rw [aMA a6,aMA (by omega)]
  | some c =>
   rw [GQ rfl hs];by_cases e:i=k
   ·subst e;rw [azx (by omega),aMI (by omega),hs,nF]
   ·rw [azw (λ h=>e h.symm),bu i ak];by_cases a6:i<k
    ·rw [aMI a6,aMI (by omega)]
    ·rw [aMA a6,aMA (by omega)]
theorem af5 {f:au} {l:List dT} {T:List a8}:∀ k,k≤T.length→(iA f l T k).2=((List.range k).filter λ i=>(D4 f l T i).isSome).map λ i=>(T.getD i default).id
 | 0,_=>rfl
 | k+1,aj=>by
  have bu:=af5 (f:=f) (l:=l) (T:=T) k (by omega);have nF:=O0 (f:=f) (l:=l) (T:=T) k (by omega) k (by omega);rw [aMA (by omega)] at nF;rw [aNG,aNv,aM0,aNB];cases hs:D4 f l T k with
  | none=>rw [GO rfl hs,bu];simp
  | some c=>rw [GQ rfl hs,bu,nF];simp
theorem avp {W:ae} (h:qu W l=0):W.a7=0∧oH W l=(W.kY l).1∧rA W l=(W.kY l).2:=by
 have hc:W.a7=0:=by
  apply aPd;intro hn;rw [(aeq (l:=l) hn).1] at h;exact hn h
 by_cases ay:(l.length:Int)≤200
 ·have:=J8 (l:=l) hc ay;exact ⟨hc,this.2⟩
 ·rw [(aer (l:=l) hc (by omega)).1] at h;exact nomatch h
theorem avo {W:ae} (h:qu W l=0):
  Good (oH W l)∧(oH W l).ah.length=W.ah.length∧Kq (rA W l)=true∧oH W l= {W with ah:=(oH W l).ah}∧
  ∀ k,k<W.ah.length→((rA W l).any (λ y=>(W.ah.getD k default).id == y)=false∧(oH W l).ah.getD k default=W.ah.getD k default)∨
   ∃ c:ai,(rA W l).any (λ y=>(W.ah.getD k default).id == y)=true∧(oH W l).ah.getD k default=(W.ah.getD k default).bg c∧0≤ei l (W.ah.getD k default).id∧
    eH W.field (W.ah.getD k default).spot (l.getD (ei l (W.ah.getD k default).id).toNat default).bg=0∧eH W.field c (l.getD (ei l (W.ah.getD k default).id).toNat default).bg=0∧eH W.field (W.ah.getD k default).spot c=0∧
    iw W.field (W.ah.getD k default).spot (l.getD (ei l (W.ah.getD k default).id).toNat default).bg=iw W.field c (l.getD (ei l (W.ah.getD k default).id).toNat default).bg+iw W.field (W.ah.getD k default).spot c∧
    (W.ah.getD k default).spot∈dF c:=by
 obtain ⟨hc,aoY,aoX⟩:=avp h;have av:=Good.tX hc;rw [aoY,aoX];have ej:=af6 (f:=W.field) (l:=l) (T:=W.ah) (Q:=λ t=>0<t.id∧t.id<W.next∧L3 W.field W.bj.length t)
  (λ t c I aT=>⟨I.1,I.2.1,⟨I.2.2.kind,I.2.2.owner,aT,I.2.2.df,I.2.2.load⟩⟩) av.GG (λ t aC=>av.each aC) W.ah.length (aMO _)
 have hlen:=af9 W l;have om:=af5 (f:=W.field) (l:=l) (T:=W.ah) W.ah.length (aMO _);have Ge:=av.GG;refine ⟨Good.aeM av Z Z Z Z Z av.now (by rw [hlen];exact av.dH) ej.1 ej.2,hlen, ?_,Z,λ k aj=> ?_⟩
 ·show Kq (iA W.field l W.ah W.ah.length).2=true;rw [om];refine ayX ?_;rw [List.pairwise_map];have hr:((List.range W.ah.length).filter λ i=>(D4 W.field l W.ah i).isSome).Pairwise (· < ·):=List.Pairwise.filter _ List.pairwise_lt_range;refine List.Pairwise.imp_of_mem (fun {i j} ak aw kU=> ?_) hr;have ak:=aM8.1 (aNO.1 ak).1;have aw:=aM8.1 (aNO.1 aw).1;rw [oj ak,oj aw];exact ((aNn.1 Ge) i j ak aw kU).1
 ·have gg:=O0 (f:=W.field) (l:=l) (T:=W.ah) W.ah.length (aMO _) k aj;rw [aMI aj] at gg;have nF:=O0 (f:=W.field) (l:=l) (T:=W.ah) k (by omega) k aj;rw [aMA (by omega)] at nF;have ou:((W.kY l).2).any (λ y=>(W.ah.getD k default).id == y)=(D4 W.field l W.ah k).isSome:=by
   show (iA W.field l W.ah W.ah.length).2.any _=_;rw [om,aQi,aNL];constructor
   ·rintro ⟨y,aH,e⟩;obtain ⟨i,ak,rfl⟩:=aMT.1 aH;obtain ⟨zZ,Ds⟩:=aNO.1 ak;have zZ:=aM8.1 zZ;have e:(W.ah.getD k default).id=(W.ah.getD i default).id:=by simpa using e
    have:i=k:=by
     rw [oj aj,oj zZ] at e;rcases Nat.lt_trichotomy i k with q | q | q
     ·have:=((aNn.1 Ge) i k zZ aj q).1;omega
     ·exact q
     ·have:=((aNn.1 Ge) k i aj zZ q).1;omega
    rw [← this];exact Ds
   ·intro hs;exact ⟨_,aMT.2 ⟨k,aNO.2 ⟨aM8.2 aj,hs⟩,Z⟩,by simp⟩
  cases hs:D4 W.field l W.ah k with
  | none =>
   rw [hs] at gg ou;exact .inl ⟨ou,gg⟩
  | some c =>
   rw [hs] at gg ou;obtain ⟨d1,d2,d3,d4,d5⟩:=af7 hs;rw [nF] at d1 d2 d3 d4;obtain ⟨f1,f2,f3,f4,f5,f6,f7⟩:=ag2 d2 d3 d4.symm;exact .inr ⟨c,ou,gg,d1,d2,f2,f1,by omega,f4⟩
end
structure bC where
 by_:Int
 kind:Int
 bf:Int
 spot:ai
 what:Int
 deriving DecidableEq,Inhabited
namespace bC
def cells (a:bC):List Value:= [.int .i64 (a.by_), .int .i64 (a.kind), .int .i64 (a.bf), .int .i64 (a.spot.x), .int .i64 (a.spot.y), .int .i64 (a.what)]
def ok (a:bC):Prop:=(Lit.int .i64 a.by_).wf=true∧(Lit.int .i64 a.kind).wf=true∧(Lit.int .i64 a.bf).wf=true∧(Lit.int .i64 a.spot.x).wf=true∧(Lit.int .i64 a.spot.y).wf=true∧(Lit.int .i64 a.what).wf=true
def raw (j:Nat) (u:Value):Prop:=match j with
 | 0 | 1 | 2 | 3 | 4 | 5=>∃ n:Int,u= .int .i64 n
 | _=>True
theorem sa (a:bC):∀ (j:Nat) u,a.cells[j]? =some u→raw j u:=by
 intro j u hu
 match j,hu with
 | 0,hu | 1,hu | 2,hu | 3,hu | 4,hu | 5,hu=>exact ⟨_,(aMJ hu).symm⟩
 | j+6,hu=>exact trivial
theorem r_ (a:bC):∀ u∈a.cells,u.oneCell'=true:=by
 intro u hu;unfold cells at hu;simp only [aMN,aN7,aOM] at hu;rcases hu with rfl | rfl | rfl | rfl | rfl | rfl<;>rfl
def rep:Φ bC:=Φ.flat 6 cells ok raw (λ _=>rfl) r_ sa
def zero:Value:= .agg #[.int .i64 0, .int .i64 0, .int .i64 0, .int .i64 0, .int .i64 0, .int .i64 0]
theorem k3:∀ (j:Nat) u,zero.cells[j]? =some u→rep.raw j u:=by
 intro j u hu;have hu:(#[(.int .i64 0:Value),(.int .i64 0:Value),(.int .i64 0:Value),(.int .i64 0:Value),(.int .i64 0:Value),(.int .i64 0:Value)]:Array Value)[j]? =some u:=hu
 match j,hu with
 | 0,hu | 1,hu | 2,hu | 3,hu | 4,hu | 5,hu=>exact ⟨_,(aMJ hu).symm⟩
 | j+6,hu=>cases hu
theorem info:(prog.info? 110).map (λ i=>(i.zero,i.size,i.bytes))=some (some zero,6,48):=by kernel_rfl
theorem QS {by_:Nat} {w:World} {A:Option Addr} {c:Nat} {l:List bC} (h:rep.aQ by_ w A c l):∀ a∈l,a.ok:=Φ.aQ.H6 (R:=rep) (Q:=ok) (fun {w cs a} (h:rep.has w cs a)=>(show cs=a.cells∧a.ok from h).2) h
def sh:hq:=(.cons (.int .i64) (.cons (.int .i64) (.cons (.int .i64) (.cons (.cons (.int .i64) (.cons (.int .i64) .nil)) (.cons (.int .i64) .nil)))))
end bC
section
variable {o:bC} {l:List bC}
theorem akg:P9 prog bC.cells 110 :=by
 intro a b w;obtain ⟨a0,cV,a2,⟨a3,a4⟩,a5⟩:=a;obtain ⟨xO,qX,e_,⟨gD,CR⟩,Mc⟩:=b;simp only [bC.cells,bC.mk.injEq,ai.mk.injEq];constructor
 ·go_simp
  repeat' split
  all_goals simp_all
 ·go_simp
  repeat' split
  all_goals simp_all
theorem akf:(prog).eqGuardType (prog).depth 110 =false:=by kernel_rfl
theorem aa5 {w:World} {cs:List Value} {a:bC} (h:bC.rep.has w cs a):cs=a.cells:=aOY (show cs=a.cells∧a.ok from h)
def bC.bare (o:bC):bC:=⟨o.by_,o.kind,if o.kind=5 then 0 else o.bf,if o.kind≠2∧o.kind≠3 then ⟨0,0⟩ else o.spot,if o.kind≠1∧o.kind≠5 then 0 else o.what⟩
def bC.OG (o:bC):Bool:= !cJ o.by_ 0 7 || !cJ o.kind 1 5 || !cJ o.bf 0 1000000 || !cJ o.spot.x (-1000) 1000 || !cJ o.spot.y (-1000) 1000 || !cJ o.what 0 1000000
def bC.a7 (o:bC):Int:=if o.OG=true then 1 else if (!decide (o.bare=o))=true then 4 else 0
theorem bC.amv (h:o.OG=true):o.a7=1:=by unfold bC.a7;rw [aMI h]
theorem bC.amx (h:o.OG=false) (τ:(!decide (o.bare=o))=true):o.a7=4:=by unfold bC.a7;rw [aMA (by rw [h];decide),aMI τ]
theorem bC.amy (h:o.OG=false) (τ:(!decide (o.bare=o))=false):o.a7=0:=by unfold bC.a7;rw [aMA (by rw [h];decide),aMA (by rw [τ];decide)]
def nO (l:List bC):Int:=if 100<l.length then 2 else match l.find? (λ o=>o.a7 != 0) with | some o=>o.a7 | none=>0
theorem awE (h:100<l.length):nO l=2:=by unfold nO;rw [aMI h]
theorem awF (h:l.length≤100) (aT:∀ i,i<l.length→(l.getD i default).a7=0):nO l=0:=by
 unfold nO;rw [aMA (by omega)];have:l.find? (λ o=>o.a7 != 0)=none:=aNQ.2 λ x hx=>by
  obtain ⟨i,ak,rfl⟩:=aNu.1 hx;have:=aT i ak;rw [oj ak] at this;simp [this]
 rw [this]
theorem awD {k:Nat} (h:l.length≤100) (aj:k<l.length) (aT:∀ i,i<k→(l.getD i default).a7=0) (af:¬ (l.getD k default).a7=0):nO l=(l.getD k default).a7:=by
 unfold nO;rw [aMA (by omega)];have:l.find? (λ o=>o.a7 != 0)=some (l.getD k default):=by
  rw [aOT];refine ⟨by simpa using af,k,aj,(oj aj).symm,λ j aw=> ?_⟩;have:=aT j aw;rw [oj (by omega)] at this;simp [this]
 rw [this]
theorem GC (n lo ak:Int) (w:World):
  Calls prog 112 #[γ n,γ lo,γ ak] w (λ e w'=>e= .returned (.bool (cJ n lo ak))∧Ext w w'):=by
 refine cx (n:=15) func112 Z Z Z ?_;refine aG<|aU Z<|aN Z<|vm Z<|aa (k7 Z Z)<|vm Z<|gw Z Z<|gw Z Z<|cb Z (λ hc=>ble (gt hc Z) (gt hc Z))<|aa (fG Z Z Z Z)<|bL Z<|c' Z Z<| ?_;exact ⟨Z,(Ext.bM w)⟩
theorem awo (o:bC) (w:World):
  Calls prog 113 #[.agg #[γ o.by_,γ o.kind,γ o.bf,γ o.spot.x,γ o.spot.y,γ o.what]] w (λ e w'=>e= .returned (.agg (bC.bare o).cells.toArray)∧Ext w w'):=by
 refine cx (n:=27) func113 Z Z Z ?_;refine eW Z Z λ dn bw bm fO ag=> ?_;have ja:=ag.lt;refine dj MQ Z λ fP dI bD j8 aF=> ?_;have b7:=J bm bD;refine aJ<|aI<|aG<|aa (ar og Z)<| ?_;have ag:=ag.later bD;refine bA Z ag aZ Z<|aa (beq Z Z)<|aJ<| ?_;refine lF Z (λ j3=> ?_) (λ j3=> ?_)
 ·refine rg<|aa (ar C3 Z)<|fH Z Z ag Z cr Z Z λ sM BL ag=> ?_;have iR:=Ext.mod b7 BL bE;refine aJ<|aI<|aG<|aa (ar og Z)<|bA Z ag aZ Z<|gJ Z Z<|vm Z<|cb Z (λ hc=>ar og Z)<|cb Z (λ hc=>aA (gt hc Z) (ag.one aZ Z))<|cb Z (λ hc=>bne (gt hc Z) Z)<|aa (fG Z Z Z Z)<|aJ<| ?_;refine c_ Z (λ pc=> ?_) (λ pc=> ?_)
  ·simp only [cq] at pc;refine rg<|aa (v:= .agg #[γ 0,γ 0]) (ht Z)<|aa (ar Fu Z)<|st (new:= [γ o.by_,γ o.kind,γ 0,γ 0,γ 0,γ o.what]) Z Z ag Z bs Z Z Z λ rL mh ag=> ?_;have hU:=Ext.mod iR mh bE;refine aJ<|aI<|aG<|aa (ar og Z)<|bA Z ag aZ Z<|gJ Z Z<|vm Z<|cb Z (λ hc=>ar og Z)<|cb Z (λ hc=>aA (gt hc Z) (ag.one aZ Z))<|cb Z (λ hc=>bne (gt hc Z) Z)<|aa (fG Z Z Z Z)<|aJ<| ?_;refine c_ Z (λ zS=> ?_) (λ zS=> ?_)
   ·simp only [cq] at zS;refine rg<|aa (ar C4 Z)<|fH Z Z ag Z cr Z Z λ yS DS ag=> ?_;have lY:=Ext.mod hU DS bE;refine aJ<|aG<|aa (aA Z (ag.all j1 fR))<| ?_;have aF:=((aF.mod BL aY).mod mh aY).mod DS aY;refine c6 Z Z aF Z fR Z Z λ KM avf aF=> ?_;have sU:=Ext.mod lY avf bE;refine tM<|dR (.cell Z (aF.all j1 fR) .nil)<| ?_;exact ⟨by rw [show bC.bare o=(⟨o.by_,o.kind,0,⟨0,0⟩,0⟩:bC) from by unfold bC.bare;congr 1<;>(first | rfl | (split<;>first | rfl | omega))];rfl,sU⟩
   ·simp only [cq] at zS;refine bF<|aG<|aa (aA Z (ag.all j1 fR))<| ?_;have aF:=(aF.mod BL aY).mod mh aY;refine c6 Z Z aF Z fR Z Z λ Cc iK aF=> ?_;have n3:=Ext.mod hU iK bE;refine tM<|dR (.cell Z (aF.all j1 fR) .nil)<| ?_;exact ⟨by rw [show bC.bare o=(⟨o.by_,o.kind,0,⟨0,0⟩,o.what⟩:bC) from by unfold bC.bare;congr 1<;>(first | rfl | (split<;>first | rfl | omega))];rfl,n3⟩
  ·simp only [cq] at pc;refine bF<|aI<|aG<|aa (ar og Z)<|bA Z ag aZ Z<|gJ Z Z<|vm Z<|cb Z (λ hc=>ar og Z)<|cb Z (λ hc=>aA (gt hc Z) (ag.one aZ Z))<|cb Z (λ hc=>bne (gt hc Z) Z)<|aa (fG Z Z Z Z)<|aJ<| ?_;refine c_ Z (λ yg=> ?_) (λ yg=> ?_)
   ·simp only [cq] at yg;refine rg<|aa (ar C4 Z)<|fH Z Z ag Z cr Z Z λ sN lh ag=> ?_;have k1:=Ext.mod iR lh bE;refine aJ<|aG<|aa (aA Z (ag.all j1 fR))<| ?_;have aF:=(aF.mod BL aY).mod lh aY;refine c6 Z Z aF Z fR Z Z λ El J2 aF=> ?_;have o0:=Ext.mod k1 J2 bE;refine tM<|dR (.cell Z (aF.all j1 fR) .nil)<| ?_;exact ⟨by rw [show bC.bare o=(⟨o.by_,o.kind,0,⟨o.spot.x,o.spot.y⟩,0⟩:bC) from by unfold bC.bare;congr 1<;>(first | rfl | (split<;>first | rfl | omega))];rfl,o0⟩
   ·simp only [cq] at yg;refine bF<|aG<|aa (aA Z (ag.all j1 fR))<| ?_;have aF:=aF.mod BL aY;refine c6 Z Z aF Z fR Z Z λ xe tQ aF=> ?_;have k2:=Ext.mod iR tQ bE;refine tM<|dR (.cell Z (aF.all j1 fR) .nil)<| ?_;exact ⟨by rw [show bC.bare o=(⟨o.by_,o.kind,0,⟨o.spot.x,o.spot.y⟩,o.what⟩:bC) from by unfold bC.bare;congr 1<;>(first | rfl | (split<;>first | rfl | omega))];rfl,k2⟩
 ·refine bF<|aI<|aG<|aa (ar og Z)<|bA Z ag aZ Z<|gJ Z Z<|vm Z<|cb Z (λ hc=>ar og Z)<|cb Z (λ hc=>aA (gt hc Z) (ag.one aZ Z))<|cb Z (λ hc=>bne (gt hc Z) Z)<|aa (fG Z Z Z Z)<|aJ<| ?_;refine c_ Z (λ j4=> ?_) (λ j4=> ?_)
  ·simp only [cq] at j4;refine rg<|aa (v:= .agg #[γ 0,γ 0]) (ht Z)<|aa (ar Fu Z)<|st (new:= [γ o.by_,γ o.kind,γ o.bf,γ 0,γ 0,γ o.what]) Z Z ag Z bs Z Z Z λ En fY ag=> ?_;have l0:=Ext.mod b7 fY bE;refine aJ<|aI<|aG<|aa (ar og Z)<|bA Z ag aZ Z<|gJ Z Z<|vm Z<|cb Z (λ hc=>ar og Z)<|cb Z (λ hc=>aA (gt hc Z) (ag.one aZ Z))<|cb Z (λ hc=>bne (gt hc Z) Z)<|aa (fG Z Z Z Z)<|aJ<| ?_;refine c_ Z (λ SM=> ?_) (λ SM=> ?_)
   ·simp only [cq] at SM;refine rg<|aa (ar C4 Z)<|fH Z Z ag Z cr Z Z λ um wJ ag=> ?_;have jU:=Ext.mod l0 wJ bE;refine aJ<|aG<|aa (aA Z (ag.all j1 fR))<| ?_;have aF:=(aF.mod fY aY).mod wJ aY;refine c6 Z Z aF Z fR Z Z λ Eo D0 aF=> ?_;have pJ:=Ext.mod jU D0 bE;refine tM<|dR (.cell Z (aF.all j1 fR) .nil)<| ?_;exact ⟨by rw [show bC.bare o=(⟨o.by_,o.kind,o.bf,⟨0,0⟩,0⟩:bC) from by unfold bC.bare;congr 1<;>(first | rfl | (split<;>first | rfl | omega))];rfl,pJ⟩
   ·simp only [cq] at SM;refine bF<|aG<|aa (aA Z (ag.all j1 fR))<| ?_;have aF:=aF.mod fY aY;refine c6 Z Z aF Z fR Z Z λ KP aem aF=> ?_;have rS:=Ext.mod l0 aem bE;refine tM<|dR (.cell Z (aF.all j1 fR) .nil)<| ?_;exact ⟨by rw [show bC.bare o=(⟨o.by_,o.kind,o.bf,⟨0,0⟩,o.what⟩:bC) from by unfold bC.bare;congr 1<;>(first | rfl | (split<;>first | rfl | omega))];rfl,rS⟩
  ·simp only [cq] at j4;refine bF<|aI<|aG<|aa (ar og Z)<|bA Z ag aZ Z<|gJ Z Z<|vm Z<|cb Z (λ hc=>ar og Z)<|cb Z (λ hc=>aA (gt hc Z) (ag.one aZ Z))<|cb Z (λ hc=>bne (gt hc Z) Z)<|aa (fG Z Z Z Z)<|aJ<| ?_;refine c_ Z (λ I'=> ?_) (λ I'=> ?_)
   ·simp only [cq] at I';refine rg<|aa (ar C4 Z)<|fH Z Z ag Z cr Z Z λ Pp gT ag=> ?_;have AO:=Ext.mod b7 gT bE;refine aJ<|aG<|aa (aA Z (ag.all j1 fR))<| ?_;have aF:=aF.mod gT aY;refine c6 Z Z aF Z fR Z Z λ Pr J5 aF=> ?_;have EG:=Ext.mod AO J5 bE;refine tM<|dR (.cell Z (aF.all j1 fR) .nil)<| ?_;exact ⟨by rw [show bC.bare o=(⟨o.by_,o.kind,o.bf,⟨o.spot.x,o.spot.y⟩,0⟩:bC) from by unfold bC.bare;congr 1<;>(first | rfl | (split<;>first | rfl | omega))];rfl,EG⟩
   ·simp only [cq] at I';refine bF<|aG<|aa (aA Z (ag.all j1 fR))<|c6 Z Z aF Z fR Z Z λ agU avi aF=> ?_;have Lc:=Ext.mod b7 avi bE;refine tM<|dR (.cell Z (aF.all j1 fR) .nil)<| ?_;exact ⟨by rw [show bC.bare o=(⟨o.by_,o.kind,o.bf,⟨o.spot.x,o.spot.y⟩,o.what⟩:bC) from by unfold bC.bare;congr 1<;>(first | rfl | (split<;>first | rfl | omega))];rfl,Lc⟩
theorem aeK (o:bC) (w:World):
  Calls prog 85 #[.agg #[γ o.by_,γ o.kind,γ o.bf,γ o.spot.x,γ o.spot.y,γ o.what]] w (λ e w'=>e= .returned (γ o.a7)∧Ext w w'):=by
 refine cx (n:=43) func85 Z Z Z ?_;refine eW Z Z λ dn bw bm fO ag=> ?_;refine aU Z<|aI<|aG<|aa (ar Fv Z)<|bA Z ag aZ Z<|de Fw Z (GC o.by_ 0 7 _) λ fP d_=> ?_;have b7:=J bm d_;refine aa (dH Z)<|vm Z<|cb Z (λ hc=>ar og Z)<| ?_;have ag:=ag.later d_;refine cb Z (λ hc=>aA (gt hc Z) (ag.one aZ Z))<|yN Z Fw (λ hc=>gG (gt hc Z) (gG Z (gG Z Z))) (λ hc=>GC o.kind 1 5 _) λ w_ gK=> ?_;have ku:=J b7 gK;refine cb Z (λ hc=>dH (gt hc Z))<|aa (gq Z Z Z Z)<|vm Z<|cb Z (λ hc=>ar C3 Z)<| ?_;have ag:=ag.later gK;refine cb Z (λ hc=>aA (gt hc Z) (ag.one aZ Z))<|yN Z Fw (λ hc=>gG (gt hc Z) (gG Z (gG Z Z))) (λ hc=>GC o.bf 0 1000000 _) λ yP ij=> ?_;have mC:=J ku ij;refine cb Z (λ hc=>dH (gt hc Z))<|aa (gq Z Z Z Z)<|vm Z<|cb Z (λ hc=>ar Fu Z)<|cb Z (λ hc=>ar hz (gt hc Z))<| ?_;have ag:=ag.later ij;refine cb Z (λ hc=>aA (gt hc Z) (ag.one aZ Z))<|yN Z Fw (λ hc=>gG (gt hc Z) (gG Z (gG Z Z))) (λ hc=>GC o.spot.x (-1000) 1000 _) λ yQ gi=> ?_;have iu:=J mC gi;refine cb Z (λ hc=>dH (gt hc Z))<|aa (gq Z Z Z Z)<|vm Z<|cb Z (λ hc=>ar Fu Z)<|cb Z (λ hc=>ar hB (gt hc Z))<| ?_;have ag:=ag.later gi;refine cb Z (λ hc=>aA (gt hc Z) (ag.one aZ Z))<|yN Z Fw (λ hc=>gG (gt hc Z) (gG Z (gG Z Z))) (λ hc=>GC o.spot.y (-1000) 1000 _) λ agM oU=> ?_;have y0:=J iu oU;refine cb Z (λ hc=>dH (gt hc Z))<|aa (gq Z Z Z Z)<|vm Z<|cb Z (λ hc=>ar C4 Z)<| ?_;have ag:=ag.later oU;refine cb Z (λ hc=>aA (gt hc Z) (ag.one aZ Z))<|yN Z Fw (λ hc=>gG (gt hc Z) (gG Z (gG Z Z))) (λ hc=>GC o.what 0 1000000 _) λ KL iC=> ?_;have pI:=J y0 iC;refine cb Z (λ hc=>dH (gt hc Z))<|aa (gq Z Z Z Z)<|aJ<| ?_;refine c_ Z (λ vM=> ?_) (λ vM=> ?_)
 ·refine aG<|bL Z<|cW<|c' Z Z<| ?_;exact ⟨by rw [bC.amv vM];rfl,pI⟩
 ·refine bF<|aI<|aI<| ?_;refine du [(0,0),(1,0),(2,0)] [0,1,2,3] ?_;have ag:=ag.later iC;refine cR Z (λ _ x=>aA Z ((ag.later x).all j1 fR))<|q8 Z Z anU Z (λ _ x=>awo o _) Z<|cR Z (λ _ x=>aA Z ((ag.later x).all j1 fR))<|ax Z (λ _=>Yd akg akf (p:=bC.bare o) (q:=o) Z Z)<|fn λ Ei fx=> ?_;have lZ:=J pI fx;refine br<| ?_;refine c_ Z (λ SG=> ?_) (λ SG=> ?_)
  ·refine aG<|bL Z<|cW<|c' Z Z<| ?_;exact ⟨by rw [bC.amx vM SG];rfl,lZ⟩
  ·refine bF<|aG<|bL Z<|c' Z Z<| ?_;exact ⟨by rw [bC.amy vM SG];rfl,lZ⟩
theorem awn (A:Option Addr) (c:Nat) (l:List bC) (w:World) (ay:bC.rep.aQ 48 w A c l):
  Calls prog 114 #[.slice A l.length c] w (λ e w'=>e= .returned (γ (nO l))∧Ext w w'):=by
 have F':=ay.km;refine cx (n:=21) func114 Z Z Z ?_;refine aG<|aU Z<|aI<|aN Z<|aa (dC underlying53 Z)<|aa (iv Z Z)<|aJ<| ?_;refine fM Z (λ pb=> ?_) (λ pb=> ?_)
 ·refine aG<|bL Z<|cW<|c' Z Z<| ?_;exact ⟨by rw [awE (by omega)];rfl,(Ext.bM w)⟩
 ·refine bF<|aI<|aN Z<|aa (dC underlying53 Z)<|vm Z<|aJ<|bV<| ?_;refine gh (λ cL cw aV=>∃ k:Nat,cw= [(9, .slice A l.length c),(10,γ (l.length:Int)),(11,γ (k:Int))]∧cL=l.length - k∧Ext w aV∧(k≤l.length)∧(∀ i,i<k→(l.getD i default).a7=0)) _ _ ⟨0,Z,Z,(Ext.bM w),by omega,λ i ak=>by omega⟩ (eV Z Z Z) ?_;rintro ael Xe xb ⟨k,rfl,rfl,kL,aj,aT⟩;have:=kL.size;refine aG<|fI Z Z<|aJ<|aI<| ?_;refine fM Z (λ oo=> ?_) (λ oo=> ?_)
  ·refine bF<|aI<|bV<|aG<|aa (bX k underlying53 fR Z Z ((ay.keep kL).bx (a1 k)) Z (by omega))<|aa (aA Z (Φ.aQ.jG aa5 ((ay.keep kL).ck (a1 k)) (cl (l:=l) (u:=default) (by omega)) j1 fR))<|dj MQ Z λ G3 aEq d_ aHl P2=> ?_;have pK:=J kL d_;refine c6 Z Z P2 Z fR Z Z λ yP T_ P2=> ?_;have mC:=Ext.mod pK T_ bE;refine aJ<|aG<|aa (aA Z (P2.all j1 fR))<|de Zt Z (aeK (l.getD k default) _) λ Eh ik=> ?_;have oY:=J mC ik;refine aU Z<|aN Z<|gJ Z Z<|aJ<| ?_;refine ob Z (λ yf=> ?_) (λ yf=> ?_)
   ·refine aN Z<|bL Z<|hk<|cW<|Ee<|hk<|cW<|c' Z Z<| ?_;exact ⟨by rw [awD (by omega) (show k<l.length by omega) aT (by simpa using yf)];rfl,oY⟩
   ·refine gb<|cm<|eR Z Z Z<| ?_;exact fh ⟨k+1,Z,Z,oY,by omega,DK aT (by simpa using yf)⟩
  ·refine er<|ep<|eY<|eo<|br<|aG<|bL Z<|c' Z Z<| ?_;exact ⟨by rw [awF (by omega) (λ i ak=>aT i (by omega))];rfl,kL⟩
end
theorem aks:dL prog eM.rep 143 210 16:=dL.jw (z:=eM.zero) (k:=2) underlying143 eM.info rfl rfl (by decide) eM.k3
theorem akt:dL prog dT.rep 144 212 24:=dL.jw (z:=dT.zero) (k:=3) underlying144 dT.info rfl rfl (by decide) dT.k3
theorem QO:dL prog c9.rep 145 191 40:=dL.jw (z:=c9.zero) (k:=5) underlying145 c9.info rfl rfl (by decide) c9.k3
def mn (o:bC):List eM:=if o.kind=1 then [⟨o.bf,o.what⟩] else []
def mq (o:bC):List dT:=if o.kind=2 then [⟨o.bf,⟨o.spot.x,o.spot.y⟩⟩] else []
def mo (o:bC):List c9:=if o.kind=3 then [⟨1,o.bf,⟨o.spot.x,o.spot.y⟩,0⟩] else if o.kind=4 then [⟨2,o.bf,⟨0,0⟩,0⟩] else if o.kind=5 then [⟨3,o.by_,⟨0,0⟩,o.what⟩] else []
theorem XB (o:bC) (w0:World) (r7:Nat) (A B C:Option Addr) (a b c:Nat) (Kk:List eM) (Km:List dT) (Kl:List c9) (w:World) (jL:Ext w0 w) (dk:o.ok) (hS:aO w r7 [.slice A Kk.length a, .slice B Km.length b, .slice C Kl.length c] 182 (0,0)) (hA:eM.rep.aL 210 16 w w0.heap.size (Φ.ab A) A a Kk) (aS:dT.rep.aL 212 24 w w0.heap.size (Φ.ab B) B b Km) (j2:c9.rep.aL 191 40 w w0.heap.size (Φ.ab C) C c Kl) (tj:∀ q∈Φ.ab A,q=r7→False) (tk:∀ q∈Φ.ab B,q=r7→False) (q3:∀ q∈Φ.ab C,q=r7→False) (Ba:∀ q∈Φ.ab B,q∈Φ.ab A→False) (xS:∀ q∈Φ.ab C,q∈Φ.ab A→False) (xT:∀ q∈Φ.ab C,q∈Φ.ab B→False) (BU:Kk.length≤100) (rB:Km.length≤100) (pj:Kl.length≤100):
  Calls prog 115 #[.pointer (a_ r7), .agg #[γ o.by_,γ o.kind,γ o.bf,γ o.spot.x,γ o.spot.y,γ o.what]] w (λ e w'=>∃ bR a' pL vx Cy cn,e= .returned (.tuple #[])∧aO w' r7 [.slice bR (Kk++mn o).length a', .slice pL (Km++mq o).length vx, .slice Cy (Kl++mo o).length cn] 182 (0,0)∧eM.rep.aL 210 16 w' w0.heap.size (Φ.ab bR) bR a' (Kk++mn o)∧dT.rep.aL 212 24 w' w0.heap.size (Φ.ab pL) pL vx (Km++mq o)∧c9.rep.aL 191 40 w' w0.heap.size (Φ.ab Cy) Cy cn (Kl++mo o)∧(∀ q∈Φ.ab bR,q=r7→False)∧(∀ q∈Φ.ab pL,q=r7→False)∧(∀ q∈Φ.ab Cy,q=r7→False)∧(∀ q∈Φ.ab pL,q∈Φ.ab bR→False)∧(∀ q∈Φ.ab Cy,q∈Φ.ab bR→False)∧(∀ q∈Φ.ab Cy,q∈Φ.ab pL→False)∧(∀ q∈Φ.ab bR,q∈Φ.ab A∨w.heap.size≤q)∧(∀ q∈Φ.ab pL,q∈Φ.ab B∨w.heap.size≤q)∧(∀ q∈Φ.ab Cy,q∈Φ.ab C∨w.heap.size≤q)∧Mod (r7::(Φ.ab A++(Φ.ab B++Φ.ab C))) w w'):=by
 have aGQ:=jL.size;have j9:=hS.lt;have GX:=bY hA.lt;have O7:=bY aS.lt;have agq:=bY j2.lt;refine cx (n:=84) func115 Z Z Z ?_;refine eW Z Z λ dn bw bm fO ag=> ?_;have dK:=(Mod.bM (r7::(Φ.ab A++(Φ.ab B++Φ.ab C))) w).trans (Mod.aP bm);have ja:=ag.lt;refine aJ<|aG<|aa (ar og Z)<|bA Z ag aZ Z<|aJ<|bV<|aG<|aa (beq Z Z)<|aU Z<| ?_;refine lF Z (λ oq=> ?_) (λ oq=> ?_)
 ·refine du [(4,0),(6,0),(8,0),(10,2),(11,3),(14,3)] [0,1,2,3,4,5,6,7,8,9,10,11,12,13,14] ?_;refine bn Z Z<|bn Z Z<|ax Z (λ _=>b1 Z)<|ax Z (λ _=>ar Rq Z)<| ?_;have hS:=hS.later bm;refine cO Z Z hS Zv Z<|ax Z (λ _=>ar C3 Z)<|cO Z Z ag aZ Z<|ax Z (λ _=>ar C4 Z)<|cO Z Z ag aZ Z<|ki (v:= .agg #[γ o.bf,γ o.what]) Z Z (λ _=>gO Z (by kernel_rfl)) Z<|fS Z Z Z λ uo bD Q hK=>b9 (e:= 210) (cs:= [γ o.bf,γ o.what]) Z (λ _=>by kernel_rfl) Z λ w_ aDR eA aHy WQ=>hK _ _ ⟨J bD eA, ?_⟩;have:=bD.size;have je:=dK.trans (Mod.aP bD);have ku:=je.trans (Mod.aP eA);have afe:=WQ.lt;have hA:=hA.later (J bm (J bD eA));refine dA Z Z Z λ qE kI Q hK=>ap aks Φ.cZ (hA.later kI) ((aO.fu (R:=eM.rep) (by_:=16) (q:=(⟨o.bf,o.what⟩:eM)) WQ ⟨Z,(by obtain ⟨Kc,tU,pk,rE,tV,tW⟩:=dk;exact ⟨pk,tW⟩)⟩ (by decide)).keep kI) Z Z (by simp only [aMw,aMz];omega) (by simp only [aMw,aMz];omega) (by have:=kI.size;omega) Z λ rL Hk alQ wB CO IU aIR=>hK _ _ ?_;have:=kI.size;have lX:=ku.trans (Mod.aP kI);have hU:=lX.md wB (λ q I=> .inl (aMK _ (aMQ.2 (.inl I))));refine ax Z (λ _=>b1 Z)<|ax Z (λ _=>ar Rq Z)<| ?_;have hS:=(hS.later (J bD (J eA kI))).mod wB (λ I=>tj _ I rfl);refine dA Z Z Z λ Cb sQ Q hK=>fH Z Z (hS.later sQ) Z anV Z Z λ Cc iK hS=>hK _ _ ?_;have n2:=hU.trans (Mod.aP sQ);have n3:=n2.md iK kV;refine fn λ sN im=> ?_;have k1:=n3.trans (Mod.aP im);refine cm<|ne<|dR .nil<| ?_;have hS:=hS.later im;have ee:=ud (tO sQ iK) im;have CO:=CO.mod ee (cY λ q I af=>aMS (IU q I) (λ acW=>by (exact tj q acW af)) (λ acW=>by omega));have aS:=((aS.later (J bm (J bD (J eA kI)))).mod wB Ba).mod ee (cY tk);have j2:=((j2.later (J bm (J bD (J eA kI)))).mod wB xS).mod ee (cY q3);have aR:mn o= [(⟨o.bf,o.what⟩:eM)]:=by unfold mn;simp [*]
  have a6:mq o= []:=by unfold mq;simp [*]
  have cM:mo o= []:=by unfold mo;simp [*]
  rw [aR,a6,cM];simp only [aM4];exact ⟨Hk,alQ,B,b,C,c,Z,hS,CO,aS,j2,(gp IU tj),tk,q3,(fX (oJ IU (fX Ba) O7)),(fX (oJ IU (fX xS) agq)),xT,(λ q I=>(IU q I).imp id λ h=>by omega),(λ q I=> .inl I),(λ q I=> .inl I),k1⟩
 ·refine aG<|aa (beq Z Z)<|aU Z<| ?_;refine lF Z (λ aqw=> ?_) (λ aqw=> ?_)
  ·refine du [(4,0),(6,0),(8,0),(10,2),(11,3),(14,3)] [0,1,2,3,4,5,6,7,8,9,10,11,12,13,14] ?_;refine bn Z Z<|bn Z Z<|ax Z (λ _=>b1 Z)<|ax Z (λ _=>ar Rr Z)<| ?_;have hS:=hS.later bm;refine cO Z Z hS Zw Z<|ax Z (λ _=>ar C3 Z)<|cO Z Z ag aZ Z<|ax Z (λ _=>ar Fu Z)<|cR Z (λ _ x=>aA Z ((ag.later x).par [γ o.spot.x,γ o.spot.y] b0 bs Z))<|ki (v:= .agg #[γ o.bf,γ o.spot.x,γ o.spot.y]) Z Z (λ _=>gO Z (by kernel_rfl)) Z<|fS Z Z Z λ xe di Q hK=>b9 (e:= 212) (cs:= [γ o.bf,γ o.spot.x,γ o.spot.y]) Z (λ _=>by kernel_rfl) Z λ KN zu hG adG s0=>hK _ _ ⟨J di hG, ?_⟩;have:=di.size;have k2:=dK.trans (Mod.aP di);have xr:=k2.trans (Mod.aP hG);have Uw:=s0.lt;have aS:=aS.later (J bm (J di hG));refine dA Z Z Z λ um fl Q hK=>ap akt Φ.cZ (aS.later fl) ((aO.fu (R:=dT.rep) (by_:=24) (q:=(⟨o.bf,⟨o.spot.x,o.spot.y⟩⟩:dT)) s0 ⟨Z,(by obtain ⟨Kc,tU,pk,rE,tV,tW⟩:=dk;exact ⟨pk,rE,tV⟩)⟩ (by decide)).keep fl) Z Z (by simp only [aMw,aMz];omega) (by simp only [aMw,aMz];omega) (by have:=fl.size;omega) Z λ agQ aib alY D0 QL IY aI4=>hK _ _ ?_;have:=fl.size;have jU:=xr.trans (Mod.aP fl);have K_:=jU.md D0 (λ q I=> .inl (aMK _ (aMQ.2 (.inr (aMQ.2 (.inl I))))));refine ax Z (λ _=>b1 Z)<|ax Z (λ _=>ar Rr Z)<| ?_;have hS:=(hS.later (J di (J hG fl))).mod D0 (λ I=>tk _ I rfl);refine dA Z Z Z λ Pp VU Q hK=>fH Z Z (hS.later VU) Z anW Z Z λ Pq aen hS=>hK _ _ ?_;have AO:=K_.trans (Mod.aP VU);have y1:=AO.md aen kV;refine fn λ VG fo=> ?_;have uO:=y1.trans (Mod.aP fo);refine cm<|ne<|dR .nil<| ?_;have hS:=hS.later fo;have lg:=ud (tO VU aen) fo;have hA:=((hA.later (J bm (J di (J hG fl)))).mod D0 (fX Ba)).mod lg (cY tj);have QL:=QL.mod lg (cY λ q I af=>aMS (IY q I) (λ JN=>by (exact tk q JN af)) (λ JN=>by omega));have j2:=((j2.later (J bm (J di (J hG fl)))).mod D0 xT).mod lg (cY q3);have aR:mn o= []:=by unfold mn;simp [*]
   have a6:mq o= [(⟨o.bf,⟨o.spot.x,o.spot.y⟩⟩:dT)]:=by unfold mq;simp [*]
   have cM:mo o= []:=by unfold mo;simp [*]
   rw [aR,a6,cM];simp only [aM4];exact ⟨A,a,aib,alY,C,c,Z,hS,hA,QL,j2,tj,(gp IY tk),q3,(oJ IY Ba GX),xS,(fX (oJ IY (fX xT) agq)),(λ q I=> .inl I),(λ q I=>(IY q I).imp id λ h=>by omega),(λ q I=> .inl I),uO⟩
  ·refine aG<|aa (beq Z Z)<|aU Z<| ?_;refine lF Z (λ vN=> ?_) (λ vN=> ?_)
   ·refine du [(4,0),(6,0),(8,0),(10,2),(11,3),(14,3)] [0,1,2,3,4,5,6,7,8,9,10,11,12,13,14] ?_;refine bn Z Z<|bn Z Z<|ax Z (λ _=>b1 Z)<|ax Z (λ _=>ar C5 Z)<| ?_;have hS:=hS.later bm;refine cO Z Z hS MR Z<|ax Z (λ _=>ar C3 Z)<|cO Z Z ag aZ Z<|ax Z (λ _=>ar Fu Z)<|cR Z (λ _ x=>aA Z ((ag.later x).par [γ o.spot.x,γ o.spot.y] b0 bs Z))<|ki (v:= .agg #[γ 1,γ o.bf,γ o.spot.x,γ o.spot.y,γ 0]) Z Z (λ _=>gO Z (by kernel_rfl)) Z<|fS Z Z Z λ KS gQ Q hK=>b9 (e:= 191) (cs:= [γ 1,γ o.bf,γ o.spot.x,γ o.spot.y,γ 0]) Z (λ _=>by kernel_rfl) Z λ Er aEu G' aIe Lj=>hK _ _ ⟨J gQ G', ?_⟩;have:=gQ.size;have uP:=dK.trans (Mod.aP gQ);have kv:=uP.trans (Mod.aP G');have aKs:=Lj.lt;have j2:=j2.later (J bm (J gQ G'));refine dA Z Z Z λ agY Cm Q hK=>ap QO Φ.cZ (j2.later Cm) ((aO.fu (R:=c9.rep) (by_:=40) (q:=(⟨1,o.bf,⟨o.spot.x,o.spot.y⟩,0⟩:c9)) Lj ⟨Z,(by obtain ⟨Kc,tU,pk,rE,tV,tW⟩:=dk;exact ⟨fZ,pk,rE,tV,fZ⟩)⟩ (by decide)).keep Cm) Z Z (by simp only [aMw,aMz];omega) (by simp only [aMw,aMz];omega) (by have:=Cm.size;omega) Z λ VI ail ama wo Qz IM aIA=>hK _ _ ?_;have:=Cm.size;have Le:=kv.trans (Mod.aP Cm);have AP:=Le.md wo (λ q I=> .inl (aMK _ (aMQ.2 (.inr (aMQ.2 (.inr I))))));refine ax Z (λ _=>b1 Z)<|ax Z (λ _=>ar C5 Z)<| ?_;have hS:=(hS.later (J gQ (J G' Cm))).mod wo (λ I=>q3 _ I rfl);refine dA Z Z Z λ Vt fK Q hK=>fH Z Z (hS.later fK) Z Rs Z Z λ Vu yz hS=>hK _ _ ?_;have EB:=AP.trans (Mod.aP fK);have EC:=EB.md yz kV;refine fn λ Pf lS=> ?_;have AI:=EC.trans (Mod.aP lS);refine cm<|ne<|dR .nil<| ?_;have hS:=hS.later lS;have qp:=ud (tO fK yz) lS;have hA:=((hA.later (J bm (J gQ (J G' Cm)))).mod wo (fX xS)).mod qp (cY tj);have aS:=((aS.later (J bm (J gQ (J G' Cm)))).mod wo (fX xT)).mod qp (cY tk);have Qz:=Qz.mod qp (cY λ q I af=>aMS (IM q I) (λ JI=>by (exact q3 q JI af)) (λ JI=>by omega));have aR:mn o= []:=by unfold mn;simp [*]
    have a6:mq o= []:=by unfold mq;simp [*]
    have cM:mo o= [(⟨1,o.bf,⟨o.spot.x,o.spot.y⟩,0⟩:c9)]:=by unfold mo;simp [*]
    rw [aR,a6,cM];simp only [aM4];exact ⟨A,a,B,b,ail,ama,Z,hS,hA,aS,Qz,tj,tk,(gp IM q3),Ba,(oJ IM xS GX),(oJ IM xT O7),(λ q I=> .inl I),(λ q I=> .inl I),(λ q I=>(IM q I).imp id λ h=>by omega),AI⟩
   ·refine aG<|aa (beq Z Z)<|aU Z<| ?_;refine lF Z (λ SB=> ?_) (λ SB=> ?_)
    ·refine du [(4,0),(6,0),(8,2),(9,3),(12,3)] [0,1,2,3,4,5,6,7,8,9,10,11,12] ?_;refine bn Z Z<|bn Z Z<|ax Z (λ _=>b1 Z)<|ax Z (λ _=>ar C5 Z)<| ?_;have hS:=hS.later bm;refine cO Z Z hS MR Z<|ax Z (λ _=>ar C3 Z)<|cO Z Z ag aZ Z<|ki (v:= .agg #[γ 2,γ o.bf,γ 0,γ 0,γ 0]) Z Z (λ _=>gO Z (by kernel_rfl)) Z<|fS Z Z Z λ Pg nW Q hK=>b9 (e:= 191) (cs:= [γ 2,γ o.bf,γ 0,γ 0,γ 0]) Z (λ _=>by kernel_rfl) Z λ aLb aDU G8 aHv WN=>hK _ _ ⟨J nW G8, ?_⟩;have:=nW.size;have Co:=dK.trans (Mod.aP nW);have aBx:=Co.trans (Mod.aP G8);have aJF:=WN.lt;have j2:=j2.later (J bm (J nW G8));refine dA Z Z Z λ agK Ch Q hK=>ap QO Φ.cZ (j2.later Ch) ((aO.fu (R:=c9.rep) (by_:=40) (q:=(⟨2,o.bf,⟨0,0⟩,0⟩:c9)) WN ⟨Z,(by obtain ⟨Kc,tU,pk,rE,tV,tW⟩:=dk;exact ⟨fZ,pk,fZ,fZ,fZ⟩)⟩ (by decide)).keep Ch) Z Z (by simp only [aMw,aMz];omega) (by simp only [aMw,aMz];omega) (by have:=Ch.size;omega) Z λ aLg ahU alH Oh QC IP aIH=>hK _ _ ?_;have:=Ch.size;have K8:=aBx.trans (Mod.aP Ch);have aBC:=K8.md Oh (λ q I=> .inl (aMK _ (aMQ.2 (.inr (aMQ.2 (.inr I))))));refine ax Z (λ _=>b1 Z)<|ax Z (λ _=>ar C5 Z)<| ?_;have hS:=(hS.later (J nW (J G8 Ch))).mod Oh (λ I=>q3 _ I rfl);refine dA Z Z Z λ aAm pF Q hK=>fH Z Z (hS.later pF) Z Rs Z Z λ Vw rr hS=>hK _ _ ?_;have V7:=aBC.trans (Mod.aP pF);have Hd:=V7.md rr kV;refine fn λ agL kH=> ?_;have ED:=Hd.trans (Mod.aP kH);refine cm<|ne<|dR .nil<| ?_;have hS:=hS.later kH;have yw:=ud (tO pF rr) kH;have hA:=((hA.later (J bm (J nW (J G8 Ch)))).mod Oh (fX xS)).mod yw (cY tj);have aS:=((aS.later (J bm (J nW (J G8 Ch)))).mod Oh (fX xT)).mod yw (cY tk);have QC:=QC.mod yw (cY λ q I af=>aMS (IP q I) (λ JM=>by (exact q3 q JM af)) (λ JM=>by omega));have aR:mn o= []:=by unfold mn;simp [*]
     have a6:mq o= []:=by unfold mq;simp [*]
     have cM:mo o= [(⟨2,o.bf,⟨0,0⟩,0⟩:c9)]:=by unfold mo;simp [*]
     rw [aR,a6,cM];simp only [aM4];exact ⟨A,a,B,b,ahU,alH,Z,hS,hA,aS,QC,tj,tk,(gp IP q3),Ba,(oJ IP xS GX),(oJ IP xT O7),(λ q I=> .inl I),(λ q I=> .inl I),(λ q I=>(IP q I).imp id λ h=>by omega),ED⟩
    ·refine aG<|aa (beq Z Z)<|aU Z<| ?_;refine lF Z (λ aqp=> ?_) (λ aqp=> ?_)
     ·refine du [(4,0),(6,0),(8,0),(10,2),(11,3),(14,3)] [0,1,2,3,4,5,6,7,8,9,10,11,12,13,14] ?_;refine bn Z Z<|bn Z Z<|ax Z (λ _=>b1 Z)<|ax Z (λ _=>ar C5 Z)<| ?_;have hS:=hS.later bm;refine cO Z Z hS MR Z<|ax Z (λ _=>ar Fv Z)<|cO Z Z ag aZ Z<|ax Z (λ _=>ar C4 Z)<|cO Z Z ag aZ Z<|ki (v:= .agg #[γ 3,γ o.by_,γ 0,γ 0,γ o.what]) Z Z (λ _=>gO Z (by kernel_rfl)) Z<|fS Z Z Z λ aLt Ey Q hK=>b9 (e:= 191) (cs:= [γ 3,γ o.by_,γ 0,γ 0,γ o.what]) Z (λ _=>by kernel_rfl) Z λ aAo aD1 G_ aHE WU=>hK _ _ ⟨J Ey G_, ?_⟩;have:=Ey.size;have aBL:=dK.trans (Mod.aP Ey);have V9:=aBL.trans (Mod.aP G_);have aJM:=WU.lt;have j2:=j2.later (J bm (J Ey G_));refine dA Z Z Z λ aLx Ci Q hK=>ap QO Φ.cZ (j2.later Ci) ((aO.fu (R:=c9.rep) (by_:=40) (q:=(⟨3,o.by_,⟨0,0⟩,o.what⟩:c9)) WU ⟨Z,(by obtain ⟨Kc,tU,pk,rE,tV,tW⟩:=dk;exact ⟨fZ,Kc,fZ,fZ,tW⟩)⟩ (by decide)).keep Ci) Z Z (by simp only [aMw,aMz];omega) (by simp only [aMw,aMz];omega) (by have:=Ci.size;omega) Z λ aAp ahZ alK On QD IQ aIM=>hK _ _ ?_;have:=Ci.size;have aBP:=V9.trans (Mod.aP Ci);have V_:=aBP.md On (λ q I=> .inl (aMK _ (aMQ.2 (.inr (aMQ.2 (.inr I))))));refine ax Z (λ _=>b1 Z)<|ax Z (λ _=>ar C5 Z)<| ?_;have hS:=(hS.later (J Ey (J G_ Ci))).mod On (λ I=>q3 _ I rfl);refine dA Z Z Z λ aAr sO Q hK=>fH Z Z (hS.later sO) Z Rs Z Z λ aLA aej hS=>hK _ _ ?_;have V':=V_.trans (Mod.aP sO);have aBS:=V'.md aej kV;refine fn λ aLC VT=> ?_;have aBU:=aBS.trans (Mod.aP VT);refine cm<|ne<|dR .nil<| ?_;have hS:=hS.later VT;have DM:=ud (tO sO aej) VT;have hA:=((hA.later (J bm (J Ey (J G_ Ci)))).mod On (fX xS)).mod DM (cY tj);have aS:=((aS.later (J bm (J Ey (J G_ Ci)))).mod On (fX xT)).mod DM (cY tk);have QD:=QD.mod DM (cY λ q I af=>aMS (IQ q I) (λ acg=>by (exact q3 q acg af)) (λ acg=>by omega));have aR:mn o= []:=by unfold mn;simp [*]
      have a6:mq o= []:=by unfold mq;simp [*]
      have cM:mo o= [(⟨3,o.by_,⟨0,0⟩,o.what⟩:c9)]:=by unfold mo;simp [*]
      rw [aR,a6,cM];simp only [aM4];exact ⟨A,a,B,b,ahZ,alK,Z,hS,hA,aS,QD,tj,tk,(gp IQ q3),Ba,(oJ IQ xS GX),(oJ IQ xT O7),(λ q I=> .inl I),(λ q I=> .inl I),(λ q I=>(IQ q I).imp id λ h=>by omega),aBU⟩
     ·refine gb<|cm<|ne<|dR .nil<| ?_;have hS:=hS.later bm;have hA:=hA.later bm;have aS:=aS.later bm;have j2:=j2.later bm;have aR:mn o= []:=by unfold mn;simp [*]
      have a6:mq o= []:=by unfold mq;simp [*]
      have cM:mo o= []:=by unfold mo;simp [*]
      rw [aR,a6,cM];simp only [aM4];exact ⟨A,a,B,b,C,c,Z,hS,hA,aS,j2,tj,tk,q3,Ba,xS,xT,(λ q I=> .inl I),(λ q I=> .inl I),(λ q I=> .inl I),dK⟩
end Go.Proofs.YthlpmldmhakhaaaGreatDoor
