import Derived.Test.YtlikikpgmmkjbaaGreatSvO
set_option linter.unusedVariables false
set_option linter.unusedSimpArgs false
set_option maxRecDepth 100000
set_option maxHeartbeats 4000000
open Go.RowKit
namespace Go.Proofs.YtlikikpgmmkjbaaGreat
open Tryz
abbrev aSg:=@BitVec.xor_assoc
abbrev aTb:=@BitVec.xor_zero
abbrev aTg:=@BitVec.eq_of_getLsbD_eq
abbrev aTC:=@BitVec.getLsbD_xor
abbrev aTD:=@BitVec.getLsbD_ushiftRight
abbrev aT6:=@BitVec.xor_self
abbrev aVB:=@BitVec.toNat_setWidth
abbrev aVS:=@BitVec.getLsbD_and
section
theorem anM:fh prog bK 22 3 8:=fh.lF (z:= .int .i64 0) (k:=1) underlying22 Cl rfl rfl (by decide) (λ j u h=>HQ j u h)
theorem SW:fh prog pS 38 41 8:=fh.lF (z:= .int .u64 0) (k:=1) underlying38 ags rfl rfl (by decide) (λ j u h=>ajw j u h)
open Go.Proofs.YtlikikpgmmkjbaaGreat.eV
theorem Hj (l:List Int) (A:Option Addr) (c:Nat) (w:World) (az:bK.aI 8 w A c l):
  Calls prog 57 #[.slice A l.length c] w (λ e w'=>e= .returned (.int .u64 (U (qo l)))∧Ext w w'):=by
 refine cd (n:=12) func57 Z Z Z ?_;refine aj<|va Z<|ai<|aj<|vm Z<|ca ado Z Z ((azJ l _ _ _ (az.keep (Ext.bI w))).mono ?_);rintro e ke ⟨⟨aKu,rfl⟩,ba⟩;refine ⟨_,Z, ?_⟩;have:=ba.size;have cS:=κ (Ext.bI w) ba;refine vm Z<|J (ex Z Z)<|J (ex Z Z)<|va Z<|va Z<|ai<|aj<|vm Z<|ca ars Z Z ((axO (HK l) (azI _) _).mono ?_);rintro e aDR ⟨rfl,alE⟩;refine ⟨_,Z, ?_⟩;have:=alE.size;have FF:=κ cS alE;refine va Z<|ai<|rt<|bb (.tmp Z .nil)<| ?_;exact ⟨Z,FF⟩
theorem ayv (a:ag.cc) (W:ag) (w:World) (bP:ag.Has w a W) (hc:W.bn≠0):
  Calls prog 20 #[.agg ((ag.cells a W).toArray)] w (λ e w'=>e= .returned (.tuple #[.int .u64 (U (rC W)), .int .i64 W.bn])∧Ext w w'):=by
 have Wu:(W.bn != 0)=true:=by simpa using hc
 refine cd (n:=107) func20 Z Z Z ?_;refine aj<|cB Z Z Z Z λ cO bJ ba eb aa=> ?_;have:=ba.size;have bk:=κ (Ext.bI w) ba;have eh:=aa.lt;refine va Z<|va Z<|ai<|aB<|aj<|J (ao Z (aa.all c7 b3))<|ca Gw Z Z ((BD a W _ (bP.keep bk)).mono ?_);rintro e eA ⟨rfl,cF⟩;refine ⟨_,Z, ?_⟩;have:=cF.size;have bO:=κ bk cF;refine va Z<|ai<|aj<|vm Z<|J (bne Z Z)<|ai<|fx (gA Z Wu)<|aj<|vm Z<|va Z<|va Z<|ai<|rt<|bN<|bb (.tmp Z (.tmp Z .nil))<| ?_;exact ⟨by unfold rC;rw [aQV hc];rfl,bO⟩
theorem ayw (a:ag.cc) (W:ag) (w:World) (bP:ag.Has w a W) (hc:W.bn=0):
  Calls prog 20 #[.agg ((ag.cells a W).toArray)] w (λ e w'=>e= .returned (.tuple #[.int .u64 (U (rC W)), .int .i64 W.bn])∧Ext w w'):=by
 have Wu:(W.bn != 0)=false:=by simpa using hc
 have bC:=Good.vy hc;have aIV:=bC.jU;have aIW:=bC.eg;have aIX:=bC.sl;have aIU:=bC.xd;have aIQ:=aE.d_ bC.field;obtain ⟨EW,tY,pM,rD⟩:=bP.nums;have WB:=bP.B.d_;have ahQ:=bP.M.d_;have tN:=bP.T.d_;refine cd (n:=107) func20 Z Z Z ?_;refine aj<|cB Z Z Z Z λ cO bJ ba eb aa=> ?_;have:=ba.size;have bk:=κ (Ext.bI w) ba;have eh:=aa.lt;refine va Z<|va Z<|ai<|aB<|aj<|J (ao Z (aa.all c7 b3))<|ca Gw Z Z ((BD a W _ (bP.keep bk)).mono ?_);rintro e eA ⟨rfl,cF⟩;refine ⟨_,Z, ?_⟩;have:=cF.size;have bO:=κ bk cF;refine va Z<|ai<|aj<|vm Z<|J (bne Z Z)<|ai<|hC (gA Z Wu)<|bs<|aj<|J (au qc Z)<|J (au JM Z)<| ?_;have aa:=aa.later cF;refine J (ao Z (aa.one bd Z))<|J (au qc Z)<|J (au TQ Z)<|J (ao Z (aa.one bd Z))<|J (au D5 Z)<|J (ao Z (aa.one bd Z))<|J (au D7 Z)<|J (ao Z (aa.one bd Z))<|cX (e:= 3) (cs:= [.int .i64 1, .int .i64 W.field.wide, .int .i64 W.field.high, .int .i64 W.next, .int .i64 W.now]) Z (λ _=>by kernel_rfl) Z λ uj yb dm Lq fS=> ?_;have:=dm.size;have jB:=κ bO dm;have QL:=fS.lt;refine J (au qc Z)<|J (au wJ Z)<| ?_;have aa:=aa.later dm;refine J (ao Z (aa.one fK Z))<| ?_;have Jc:=aQ.vA (R:=bK) (by_:=8) (B:=w.heap.size) (k:= [1,W.field.wide,W.field.high,W.next,W.now]) fS [[.int .i64 1], [.int .i64 W.field.wide], [.int .i64 W.field.high], [.int .i64 W.next], [.int .i64 W.now]] rfl (⟨⟨rfl,bM.2 (by decide)⟩,⟨⟨rfl,EW⟩,⟨⟨rfl,tY⟩,⟨⟨rfl,pM⟩,⟨⟨rfl,rD⟩,trivial⟩⟩⟩⟩⟩) (by simp) (by simp) (by decide) (by omega);have akJ:=λ q I=>(Jc.lt q I).2;have Qi:∀ q∈τ.ae (some ⟨yb,0,none⟩),yb≤q:=λ q I=>aSr (aQJ.1 I).symm;refine ap anM τ.dC Jc (bP.P.keep jB) Z Z (by simp only [aQQ,aQX];omega) (by simp only [aQQ,aQX];omega) jB.size Z λ xx Di Ts k8 s6 GI ayT=> ?_;have:=k8.size;have jC:=Ext.mod jB k8 (λ q I=>(Jc.lt q I).1);have Rg:=λ q I=>(s6.lt q I).2;have:=k8.size;refine ca OJ Z Z ((Hj ([1,W.field.wide,W.field.high,W.next,W.now]++W.field.aW) _ _ _ s6.has).mono ?_);rintro e um ⟨rfl,c_⟩;refine ⟨_,Z, ?_⟩;have:=c_.size;have iT:=κ jC c_;refine cX (e:= 41) (cs:= [.int .u64 (U (qo ([1,W.field.wide,W.field.high,W.next,W.now]++W.field.aW)))]) Z (λ _=>by kernel_rfl) Z λ Fj S9 lj aLs ZL=> ?_;have:=lj.size;have qC:=κ iT lj;have aNW:=ZL.lt;refine va Z<|ai<|aB<|aj<|J (au qd Z)<| ?_;have ap1:∀ q∈τ.ae (some ⟨yb,0,none⟩),q=bJ→False:=λ q I Φ=>by (have:=Qi q I;omega)
 have aa:=aa.mod k8 (λ I=>ap1 _ I rfl);have aa:=aa.later (κ c_ lj);refine J (ao Z (aa.one tA Z))<|J (cu underlying25 Z)<|vm Z<|ai<|bR<| ?_;have I6:=aQ.vA (R:=pS) (by_:=8) (B:=w.heap.size) (k:= [Qu W]) ZL [[.int .u64 (U (Qu W))]] rfl (⟨⟨rfl,trivial⟩,trivial⟩) (by simp) (by simp) (by decide) (by omega);have wL:∀ q∈τ.ae (some ⟨S9,0,none⟩),q=S9:=λ q I=>aQJ.1 I;refine fg (λ cm cl a6=>∃ dJ:Nat,∃ DC:List (BitVec 64),∃ FW:Option Addr,∃ Of:Nat,cl= [(1, .pointer (some ⟨bJ,0,none⟩)),(2, .int .u64 0),(3, .int .i64 0),(5, .slice FW DC.length Of),(35, .slice a.B W.aU.length a.b),(36, .int .i64 (W.aU.length:Int)),(37, .int .i64 (dJ:Int))]∧cm=W.aU.length - dJ∧Ext w a6∧aQ a6 bJ (ag.cells a W) 28 (0,0)∧pS.aG 41 8 a6 w.heap.size (τ.ae FW) FW Of DC∧(dJ≤W.aU.length)∧(DC=AE W dJ)∧(∀ q∈τ.ae FW,q=bJ→False)) _ _ ⟨0, [Qu W],some ⟨S9,0,none⟩,1,Z,Z,qC,aa,I6,by omega,rfl,(λ q I Φ=>by (have:=wL q I;omega))⟩ (.cons Z (.cons Z (.cons Z (.cons Z (.cons Z (.cons Z (.cons (b2 Z (by first | omega | rfl | (simp<;>omega))) .nil))))))) ?_;rintro lD aF5 xz ⟨dJ,DC,FW,Of,rfl,rfl,jD,aa,x0,pA,U3,Gl⟩;have:=jD.size;have aNZ:=aa.lt;have Rh:=λ q I=>(x0.lt q I).2;refine aj<|J (blt Z Z)<|ai<|aB<| ?_;refine ef Z (λ Vi=> ?_) (λ Vi=> ?_)
 ·obtain ⟨c,lY⟩:∃ c,W.aU.getD dJ default=c:=⟨_,rfl⟩;obtain ⟨kc,V9⟩:∃ kc,W.bj.getD dJ 0=kc:=⟨_,rfl⟩;have aiQ:c.ok:=ax.oh bP.B c (by rw [← lY];exact jj (by omega));have Xj:eP kc:=HS bP.S kc (by rw [← V9];exact jj (by omega));have avB:Qt W dJ=qo [2,(dJ:Int),c.x,c.y,kc]:=by unfold Qt;rw [lY,V9]
  have aeA:DC.length=dJ+1:=by rw [U3,W5]
  refine bs<|aB<|bR<|aj<|vm Z<|J (b5 dJ underlying25 bS Z Z ((bP.B.keep jD).bL (a7 dJ)) Z (by omega))<|J (ao Z (τ.aI.hE wV ((bP.B.keep jD).cA (a7 dJ)) (show W.aU[dJ]? =some c by rw [← lY];exact df (u:=default) (by omega)) cf bS))<|al Z wI Z Z λ y_ uR ih WD vZ=> ?_;have:=ih.size;have kG:=κ jD ih;have HO:=vZ.lt;refine va Z<|st (new:= [.int .i64 c.x, .int .i64 c.y]) Z Z vZ Z bS Z Z Z λ pW kT vZ=> ?_;have:=kT.size;have hy:=Ext.mod kG kT bw;refine ai<| ?_;refine rd [(3,0),(5,0),(7,0),(10,0),(11,2),(12,0),(13,2),(14,3)] [0,1,2,3,4,5,6,7,8,9,10,11,12,13,14,15] (by kernel_rfl) (by kernel_rfl) ?_;refine aq Z (λ _=>aH Z)<|aq Z (λ _=>aH Z)<|aq Z (λ _=>au iv Z)<|bE Z (λ _ x=>ao Z ((vZ.later x).one bd Z))<|aq Z (λ _=>au iw Z)<|bE Z (λ _ x=>ao Z ((vZ.later x).one bd Z))<|aq Z (λ _=>au tB Z)<| ?_;have aa:=aa.later ih;have aa:=aa.mod kT aR;refine bE Z (λ _ x=>ao Z ((aa.later x).one fK Z))<|aq Z (λ _=>aH Z)<|aq Z (λ _=>b5 dJ underlying22 dr Z Z ((bP.S.keep hy).bL (a7 dJ)) Z (by omega))<|bE Z (λ _ x=>ao Z (τ.aI.fB gl ((bP.S.keep (κ hy x)).cA (a7 dJ)) (show W.bj[dJ]? =some kc by rw [← V9];exact df (u:=0) (by omega)) Z bd))<|fG Z Z Z λ Mw sN Q hK=>cX (e:= 3) (cs:= [.int .i64 2, .int .i64 (dJ:Int), .int .i64 c.x, .int .i64 c.y, .int .i64 kc]) Z (λ _=>by kernel_rfl) Z λ Mx abo jA ah0 mL=>hK _ _ ⟨κ sN jA, ?_⟩;have:=sN.size;have rR:=κ hy sN;have:=jA.size;have qG:=κ rR jA;have ajp:=mL.lt;refine pk Z Z OJ Z (λ _ x=>Hj ([2,(dJ:Int),c.x,c.y,kc]) _ _ _ ((aQ.Kk (R:=bK) (by_:=8) (k:= [2,(dJ:Int),c.x,c.y,kc]) mL [[.int .i64 2], [.int .i64 (dJ:Int)], [.int .i64 c.x], [.int .i64 c.y], [.int .i64 kc]] Z (⟨⟨Z,bM.2 (by decide)⟩,⟨⟨Z,bM.2 (by omega)⟩,⟨⟨Z,aiQ.1⟩,⟨⟨Z,aiQ.2⟩,⟨⟨Z,Xj⟩,trivial⟩⟩⟩⟩⟩) (by simp) (by simp)).keep x)) Z<|fG Z Z Z λ Yz ij Q hK=>cX (e:= 41) (cs:= [.int .u64 (U (qo ([2,(dJ:Int),c.x,c.y,kc])))]) Z (λ _=>by kernel_rfl) Z λ RD aHt gx aLL ZT=>hK _ _ ⟨κ ij gx, ?_⟩;have:=ij.size;have A7:=κ qG ij;have:=gx.size;have xM:=κ A7 gx;have aAK:=ZT.lt;have x0:=x0.later ih;have x0:=x0.mod kT (b0 Rh);have x0:=x0.later (κ sN (κ jA (κ ij gx)));refine eo Z Z Z λ YE hM Q hK=>ap SW τ.dC (x0.later hM) ((aQ.gJ (R:=pS) (by_:=8) (q:=(qo ([2,(dJ:Int),c.x,c.y,kc]))) ZT ⟨Z,trivial⟩ (by decide)).keep hM) Z Z (by simp only [aQQ,aQX];omega) (by simp only [aQQ,aQX];omega) (by have:=hM.size;omega) Z λ Ie amc ao6 oH NI atj aMY=>hK _ _ ?_;have:=hM.size;have uG:=κ xM hM;have:=oH.size;have oT:=Ext.mod uG oH (λ q I=>aRj (by omega) ((x0.later hM).lt q I).1);have aPx:=λ q I=>(NI.lt q I).2;have:=oH.size;refine aq Z (λ _=>eY Z)<|fn λ MB ki=> ?_;have:=ki.size;have vT:=κ oT ki;refine bX<|aV<|rg<|J (bad Z Z (bG (by omega)))<|vm Z<|nl<| ?_;have aa:=aa.later (κ sN (κ jA (κ ij (κ gx hM))));have aa:=aa.mod oH (λ I=>Gl _ I rfl);have aa:=aa.later ki;have NI:=NI.later ki;exact c' _ _ ⟨dJ+1,DC++ [(qo ([2,(dJ:Int),c.x,c.y,kc]))],amc,ao6,Z,Z,vT,aa,NI,by omega,by rw [ayx,U3,avB],(λ q I Φ=>by (exact aQ2 (atj q I) (λ ahI=>by (exact Gl q ahI Φ)) (λ ahI=>by omega)))⟩ (by omega) (.cons Z (.cons Z (.cons Z (.cons Z (.cons Z (.cons Z (.cons (b2 Z (by first | omega | rfl | (simp<;>omega))) .nil)))))))
 ·refine dN<|dL<|ed<|dK<|aV<|aB<|aj<|J (au yn Z)<|J (ao Z (aa.one fK Z))<|J (cu underlying22 Z)<|vm Z<|ai<|bR<| ?_;refine fg (λ cm cl a6=>∃ eO:Nat,∃ Bj:List (BitVec 64),∃ jE:Option Addr,∃ tj:Nat,cl= [(1, .pointer (some ⟨bJ,0,none⟩)),(2, .int .u64 0),(3, .int .i64 0),(5, .slice jE Bj.length tj),(59, .slice a.M W.br.length a.m),(60, .int .i64 (W.br.length:Int)),(61, .int .i64 (eO:Int))]∧cm=W.br.length - eO∧Ext w a6∧aQ a6 bJ (ag.cells a W) 28 (0,0)∧pS.aG 41 8 a6 w.heap.size (τ.ae jE) jE tj Bj∧(eO≤W.br.length)∧(Bj=AE W W.aU.length++AF W eO)∧(∀ q∈τ.ae jE,q=bJ→False)) _ _ ⟨0,DC,FW,Of,Z,Z,jD,aa,x0,by omega,by rw [AF,aRn,U3,show dJ=W.aU.length by omega],(λ q I Φ=>by (exact Gl q I Φ))⟩ (.cons Z (.cons Z (.cons Z (.cons Z (.cons Z (.cons Z (.cons (b2 Z (by first | omega | rfl | (simp<;>omega))) .nil))))))) ?_;rintro w_ aFM MC ⟨eO,Bj,jE,tj,rfl,rfl,qH,aa,h9,fZ,Pf,Gq⟩;have:=qH.size;have aAn:=aa.lt;have aOY:=λ q I=>(h9.lt q I).2;refine aj<|J (blt Z Z)<|ai<|aB<| ?_;refine ef Z (λ atV=> ?_) (λ atV=> ?_)
  ·obtain ⟨nR,PL⟩:∃ nR,W.br.getD eO 0=nR:=⟨_,rfl⟩;have Xj:eP nR:=HS bP.M nR (by rw [← PL];exact jj (by omega));have aeA:Bj.length≤W.aU.length+1+eO:=by rw [Pf,aQU,W5];have:=W9 W eO;omega
   refine bs<|aB<|bR<|aj<|vm Z<|J (b5 eO underlying22 dr Z Z ((bP.M.keep qH).bL (a7 eO)) Z (by omega))<|J (ao Z (τ.aI.fB gl ((bP.M.keep qH).cA (a7 eO)) (show W.br[eO]? =some nR by rw [← PL];exact df (u:=0) (by omega)) Z bd))<|va Z<|va Z<|ai<|aj<|vm Z<|J (bne Z Z)<|ai<| ?_;refine eH Z (λ Eh=> ?_) (λ Eh=> ?_)
   ·have Cb:nR≠0:=by simpa using Eh
    refine rg<|vm Z<|vm Z<|vm Z<|cX (e:= 3) (cs:= [.int .i64 3, .int .i64 (eO:Int), .int .i64 nR]) Z (λ _=>by kernel_rfl) Z λ Ru aob jx axx Iz=> ?_;have:=jx.size;have zb:=κ qH jx;have aAp:=Iz.lt;refine ca OJ Z Z ((Hj ([3,(eO:Int),nR]) _ _ _ (aQ.Kk (R:=bK) (by_:=8) (k:= [3,(eO:Int),nR]) Iz [[.int .i64 3], [.int .i64 (eO:Int)], [.int .i64 nR]] Z (⟨⟨Z,bM.2 (by decide)⟩,⟨⟨Z,bM.2 (by omega)⟩,⟨⟨Z,Xj⟩,trivial⟩⟩⟩) (by simp) (by simp))).mono ?_);rintro e aDD ⟨rfl,RP⟩;refine ⟨_,Z, ?_⟩;have:=RP.size;have YY:=κ zb RP;refine cX (e:= 41) (cs:= [.int .u64 (U (qo ([3,(eO:Int),nR])))]) Z (λ _=>by kernel_rfl) Z λ aPK aGV xA aK2 Zw=> ?_;have:=xA.size;have aED:=κ YY xA;have aAq:=Zw.lt;have h9:=h9.later (κ jx (κ RP xA));refine ap SW τ.dC h9 (aQ.gJ (R:=pS) (by_:=8) (q:=(qo ([3,(eO:Int),nR]))) Zw ⟨Z,trivial⟩ (by decide)) Z Z (by simp only [aQQ,aQX];omega) (by simp only [aQQ,aQX];omega) (by omega) Z λ ak3 al0 aoU Qo aaF ate aMy=> ?_;have:=Qo.size;have It:=Ext.mod aED Qo (λ q I=>aRj (by omega) (h9.lt q I).1);have aO4:=λ q I=>(aaF.lt q I).2;have:=Qo.size;refine va Z<|nl<|bX<|aV<|rg<|J (bad Z Z (bG (by omega)))<|vm Z<|nl<| ?_;have aa:=aa.later (κ jx (κ RP xA));have aa:=aa.mod Qo (λ I=>Gq _ I rfl);exact c' _ _ ⟨eO+1,Bj++ [(qo ([3,(eO:Int),nR]))],al0,aoU,Z,Z,It,aa,aaF,by omega,by rw [Pf,AF,PL,aQV Cb];simp,(λ q I Φ=>by (exact aQ2 (ate q I) (λ Lc=>by (exact Gq q Lc Φ)) (λ Lc=>by omega)))⟩ (by omega) (.cons Z (.cons Z (.cons Z (.cons Z (.cons Z (.cons Z (.cons (b2 Z (by first | omega | rfl | (simp<;>omega))) .nil)))))))
   ·have Cb:nR=0:=by simpa using Eh
    refine e6<|bX<|aV<|rg<|J (bad Z Z (bG (by omega)))<|vm Z<|nl<| ?_;exact c' _ _ ⟨eO+1,Bj,jE,tj,Z,Z,qH,aa,h9,by omega,by rw [Pf,AF,PL,aQZ Cb];simp,(λ q I Φ=>by (exact Gq q I Φ))⟩ (by omega) (.cons Z (.cons Z (.cons Z (.cons Z (.cons Z (.cons Z (.cons (b2 Z (by first | omega | rfl | (simp<;>omega))) .nil)))))))
  ·refine dN<|dL<|ed<|dK<|aV<|aB<|aj<|J (au jL Z)<|J (ao Z (aa.one lr Z))<|J (cu underlying26 Z)<|vm Z<|ai<|bR<| ?_;refine fg (λ cm cl a6=>∃ j_:Nat,∃ DD:List (BitVec 64),∃ M5:Option Addr,∃ To:Nat,cl= [(2, .int .u64 0),(3, .int .i64 0),(5, .slice M5 DD.length To),(77, .slice a.T W.ak.length a.t),(78, .int .i64 (W.ak.length:Int)),(79, .int .i64 (j_:Int))]∧cm=W.ak.length - j_∧Ext w a6∧pS.aG 41 8 a6 w.heap.size (τ.ae M5) M5 To DD∧(j_≤W.ak.length)∧(DD=AE W W.aU.length++AF W W.br.length++(W.ak.take j_).map LN)) _ _ ⟨0,Bj,jE,tj,Z,Z,qH,h9,by omega,by rw [Pf,show eO=W.br.length by omega];simp⟩ (.cons Z (.cons Z (.cons Z (.cons Z (.cons Z (.cons (b2 Z (by first | omega | rfl | (simp<;>omega))) .nil)))))) ?_;rintro aMe aFS ak6 ⟨j_,DD,M5,To,rfl,rfl,A4,x1,VP,U4⟩;have:=A4.size;have akH:=λ q I=>(x1.lt q I).2;refine aj<|J (blt Z Z)<|ai<|aB<| ?_;refine ef Z (λ at3=> ?_) (λ at3=> ?_)
   ·obtain ⟨t,Ez⟩:∃ t,W.ak.getD j_ default=t:=⟨_,rfl⟩;obtain ⟨oK,lG,nh,nS,pO,HE,LP⟩:eP t.id∧eP t.owner∧eP t.kind∧eP t.spot.x∧eP t.spot.y∧eP t.cY∧eP t.load:=bg.oh bP.T t (by rw [← Ez];exact jj (by omega));have aeA:DD.length≤W.aU.length+1+W.br.length+j_:=by rw [U4,aQU,aQU,W5,aRz,aQP];have:=W9 W W.br.length;omega
    refine bs<|aB<|bR<|aj<|J (b5 j_ underlying26 j3 Z Z ((bP.T.keep A4).bL (a7 j_)) Z (by omega))<|J (ao Z (τ.aI.hE jf ((bP.T.keep A4).cA (a7 j_)) (show W.ak[j_]? =some t by rw [← Ez];exact df (u:=default) (by omega)) ym j3))<|al Z JP Z Z λ aDI aG2 Fx aLa xT=> ?_;have:=Fx.size;have Y1:=κ A4 Fx;have aNB:=xT.lt;refine st (new:= [.int .i64 t.id, .int .i64 t.owner, .int .i64 t.kind, .int .i64 t.spot.x, .int .i64 t.spot.y, .int .i64 t.cY, .int .i64 t.load]) Z Z xT Z j3 Z Z Z λ ak9 Ay xT=> ?_;have:=Ay.size;have Iu:=Ext.mod Y1 Ay bw;refine ai<|rg<|vm Z<|J (au Gx Z)<|J (ao Z (xT.one bd Z))<|J (au D_ Z)<|J (ao Z (xT.one bd Z))<|J (au OP Z)<|J (ao Z (xT.one bd Z))<|J (au tz Z)<|J (au iv Z)<|J (ao Z (xT.one bd Z))<|J (au tz Z)<|J (au iw Z)<|J (ao Z (xT.one bd Z))<|J (au OT Z)<|J (ao Z (xT.one bd Z))<|J (au zU Z)<|J (ao Z (xT.one bd Z))<|cX (e:= 3) (cs:= [.int .i64 4, .int .i64 t.id, .int .i64 t.owner, .int .i64 t.kind, .int .i64 t.spot.x, .int .i64 t.spot.y, .int .i64 t.cY, .int .i64 t.load]) Z (λ _=>by kernel_rfl) Z λ ala aoe nt axy IA=> ?_;have:=nt.size;have MP:=κ Iu nt;have aAs:=IA.lt;refine ca OJ Z Z ((Hj ([4,t.id,t.owner,t.kind,t.spot.x,t.spot.y,t.cY,t.load]) _ _ _ (aQ.Kk (R:=bK) (by_:=8) (k:= [4,t.id,t.owner,t.kind,t.spot.x,t.spot.y,t.cY,t.load]) IA [[.int .i64 4], [.int .i64 t.id], [.int .i64 t.owner], [.int .i64 t.kind], [.int .i64 t.spot.x], [.int .i64 t.spot.y], [.int .i64 t.cY], [.int .i64 t.load]] Z (⟨⟨Z,bM.2 (by decide)⟩,⟨⟨Z,oK⟩,⟨⟨Z,lG⟩,⟨⟨Z,nh⟩,⟨⟨Z,nS⟩,⟨⟨Z,pO⟩,⟨⟨Z,HE⟩,⟨⟨Z,LP⟩,trivial⟩⟩⟩⟩⟩⟩⟩⟩) (by simp) (by simp))).mono ?_);rintro e aDM ⟨rfl,YQ⟩;refine ⟨_,Z, ?_⟩;have:=YQ.size;have Y5:=κ MP YQ;refine cX (e:= 41) (cs:= [.int .u64 (U (qo ([4,t.id,t.owner,t.kind,t.spot.x,t.spot.y,t.cY,t.load])))]) Z (λ _=>by kernel_rfl) Z λ aP1 aG7 rL aLg ZF=> ?_;have:=rL.size;have aES:=κ Y5 rL;have aNG:=ZF.lt;have x1:=x1.later Fx;have x1:=x1.mod Ay (b0 akH);have x1:=x1.later (κ nt (κ YQ rL));refine ap SW τ.dC x1 (aQ.gJ (R:=pS) (by_:=8) (q:=(qo ([4,t.id,t.owner,t.kind,t.spot.x,t.spot.y,t.cY,t.load]))) ZF ⟨Z,trivial⟩ (by decide)) Z Z (by simp only [aQQ,aQX];omega) (by simp only [aQQ,aQX];omega) (by omega) Z λ aP4 al5 aoZ WX aaL aIR aMI=> ?_;have:=WX.size;have aEV:=Ext.mod aES WX (λ q I=>aRj (by omega) (x1.lt q I).1);have aPc:=λ q I=>(aaL.lt q I).2;have:=WX.size;refine va Z<|nl<|bX<|aV<|rg<|J (bad Z Z (bG (by omega)))<|vm Z<|nl<| ?_;exact c' _ _ ⟨j_+1,DD++ [(qo ([4,t.id,t.owner,t.kind,t.spot.x,t.spot.y,t.cY,t.load]))],al5,aoZ,Z,Z,aEV,aaL,by omega,by rw [U4,ayH (by omega) Ez,aRp];rfl⟩ (by omega) (.cons Z (.cons Z (.cons Z (.cons Z (.cons Z (.cons (b2 Z (by first | omega | rfl | (simp<;>omega))) .nil))))))
   ·refine dN<|dL<|ed<|dK<|aV<|aj<|vm Z<|ca art Z Z ((azk DD _ _ _ x1.has).mono ?_);rintro e aP9 ⟨rfl,alC⟩;refine ⟨_,Z, ?_⟩;have:=alC.size;have aEZ:=κ A4 alC;refine va Z<|va Z<|ai<|rt<|bb (.tmp Z (.tmp Z .nil))<| ?_;exact ⟨by unfold rC;rw [aQZ hc,hc,U4,show j_=W.ak.length by omega,aRC];rfl,aEZ⟩
theorem aiq (a:ag.cc) (W:ag) (w:World) (bP:ag.Has w a W):Calls prog 20 #[.agg (ag.cells a W).toArray] w (λ e w'=>e= .returned (.tuple #[.int .u64 (U (rC W)), .int .i64 W.bn])∧Ext w w'):=by
 by_cases hc:W.bn=0
 ·exact ayw a W w bP hc
 ·exact ayv a W w bP hc
end
section
theorem anL:fh prog pS 38 41 8:=fh.lF (z:= .int .u64 0) (k:=1) underlying38 ags rfl rfl (by decide) (λ j u h=>ajw j u h)
open Go.Proofs.YtlikikpgmmkjbaaGreat.eV
theorem L4 (a:ag.cc) (W:ag) (A:Option Addr) (c:Nat) (T:List gP) (L:List (List aN)) (w:World) (bP:ag.Has w a W) (b4:pT.aI 24 w A c T) (j6:p_ w T L):
  Calls prog 47 #[.agg ((ag.cells a W).toArray), .slice A T.length c] w (λ e w'=>∃ e' a' V bH bV ms,e= .returned (.tuple #[.agg (ag.cells a' V).toArray, .slice bH (ms:List (BitVec 64)).length bV, .int .i64 e'])∧DM W L e' V ms∧bq w' w.heap.size a' V∧pS.aG 41 8 w' w.heap.size (τ.ae bH) bH bV ms∧(∀ q,q∈τ.ae bH→q∈bq.b_ a'→False)∧Ext w w'):=by
 refine cd (n:=64) func47 Z Z Z ?_;refine aj<|cB Z Z Z Z λ cO bJ ba eb aa=> ?_;have:=ba.size;have bk:=κ (Ext.bI w) ba;have eh:=aa.lt;refine al Z mh Z Z λ eA cC bm hT ah=> ?_;have:=bm.size;have bO:=κ bk bm;have hI:=ah.lt;refine va Z<|va Z<|ai<|aB<|aj<|vm Z<|J (cu underlying29 Z)<|J (iu Z Z)<|ai<| ?_;refine ef Z (λ ib=> ?_) (λ ib=> ?_)
 ·refine aj<|J (v:= .agg #[.int .i64 0, .int .i64 0, .slice none 0 0, .slice none 0 0, .slice none 0 0, .slice none 0 0, .slice none 0 0, .int .i64 0, .int .i64 0]) (cG Z (by kernel_rfl))<|st (new:= [.int .i64 0, .int .i64 0, .slice none 0 0, .slice none 0 0, .slice none 0 0, .slice none 0 0, .slice none 0 0, .int .i64 0, .int .i64 0]) Z Z ah Z b3 Z Z Z λ xw pI ah=> ?_;have:=pI.size;have kj:=Ext.mod bO pI bw;refine va Z<|va Z<|ai<|rt<|bN<|bb (.cell Z (ah.all c7 b3) (.tmp Z (.tmp Z .nil)))<| ?_;exact ⟨2,⟨none,none,none,none,none,0,0,0,0,0⟩,ag.zero,none,0, [],Z, .inr ⟨by decide, .inl (by rw [← j6.1];omega),rfl,rfl⟩,bq.zero _ _,τ.aG.nil _,λ q I=>by simp [τ.ae] at I,kj⟩
 ·have atO:L.length≤200:=by rw [← j6.1];omega
  refine bs<|aj<| ?_;have aa:=aa.later bm;refine J (ao Z (aa.all c7 b3))<|ca adn Z Z ((akm ([]:List dh) _ _ a W _ (bP.keep bO) (τ.aI.nil _)).mono ?_);rintro e qv ⟨a20,Ix,aoG,rfl,rZ,aao,Kr,cp⟩;refine ⟨_,Z, ?_⟩;have:=cp.size;have ht:=κ bO cp;have akK:=λ q I=>(rZ.lt q I).2;have EH:=λ q I=>(rZ.lt q I).1;have Fb:=λ q I=>(aao.lt q I).2;have Lu:=λ q I=>(aao.lt q I).1;have ap6:∀ q∈τ.ae Ix,q∈bq.b_ a20→False:=Kr;have aqQ:∀ q∈bq.b_ a20,q∈τ.ae Ix→False:=λ q γ ab=>Kr q ab γ;refine vm Z<|J (ex Z Z)<|J (ex Z Z)<|J (ex Z Z)<| ?_;have aa:=aa.later cp;refine st Z Z aa Z b3 Z Z Z λ AR nQ aa=> ?_;have:=nQ.size;have kZ:=Ext.mod ht nQ bw;refine va Z<|va Z<|ai<|aB<|aj<|vm Z<|J (bne Z Z)<|ai<| ?_;refine eH Z (λ nK=> ?_) (λ nK=> ?_)
  ·have Ah:W.bn≠0:=λ bf=>nK (Te bf (by simp));refine aj<|J (v:= .agg #[.int .i64 0, .int .i64 0, .slice none 0 0, .slice none 0 0, .slice none 0 0, .slice none 0 0, .slice none 0 0, .int .i64 0, .int .i64 0]) (cG Z (by kernel_rfl))<|vm Z<| ?_;have ah:=ah.later cp;have ah:=ah.mod nQ aR;refine st (new:= [.int .i64 0, .int .i64 0, .slice none 0 0, .slice none 0 0, .slice none 0 0, .slice none 0 0, .slice none 0 0, .int .i64 0, .int .i64 0]) Z Z ah Z b3 Z Z Z λ Fi Az ah=> ?_;have:=Az.size;have uB:=Ext.mod kZ Az bw;refine va Z<|va Z<|ai<|rt<|bN<|bb (.cell Z (ah.all c7 b3) (.tmp Z (.tmp Z .nil)))<| ?_;exact ⟨lU W ([]:List dh),⟨none,none,none,none,none,0,0,0,0,0⟩,ag.zero,none,0, [],Z, .inr ⟨nK, .inr (.inl Ah),Z,Z⟩,bq.zero _ _,τ.aG.nil _,λ q I=>by simp [τ.ae] at I,uB⟩
  ·have lY:W.bn=0:=(N7 (by first | exact nK | simpa using nK)).1;have Ey:=akn lY;refine bs<|aj<|J (ao Z (aa.all c7 b3))<| ?_;have rZ:=rZ.mod nQ (bz EH);refine ca adp Z Z ((aiq a20 (gw W ([]:List dh)) _ rZ.has).mono ?_);rintro e AT ⟨rfl,gN⟩;refine ⟨_,Z, ?_⟩;have:=gN.size;have kF:=κ kZ gN;refine vm Z<|J (ex Z Z)<|J (ex Z Z)<|va Z<|va Z<|ai<|aj<|vm Z<|cX (e:= 41) (cs:= [.int .u64 (U (rC (gw W ([]:List dh))))]) Z (λ _=>by kernel_rfl) Z λ Mq S' A3 aLw ZM=> ?_;have:=A3.size;have qD:=κ kF A3;have aNY:=ZM.lt;refine va Z<|ai<|aB<|aj<|vm Z<|J (cu underlying29 Z)<|vm Z<|ai<|bR<| ?_;have I6:=aQ.vA (R:=pS) (by_:=8) (B:=w.heap.size) (k:= [rC (gw W ([]:List dh))]) ZM [[.int .u64 (U (rC (gw W ([]:List dh))))]] rfl (⟨⟨rfl,trivial⟩,trivial⟩) (by simp) (by simp) (by decide) (by omega);have wL:∀ q∈τ.ae (some ⟨S',0,none⟩),q=S':=λ q I=>aQJ.1 I;have aa:=aa.later (κ gN A3);have rZ:=rZ.later (κ gN A3);have ah:=ah.later cp;have ah:=ah.mod nQ aR;have ah:=ah.later (κ gN A3);refine fg (λ cm cl a6=>∃ k:Nat,∃ DF:List (BitVec 64),∃ cQ:Option Addr,∃ hD:Nat,∃ oi:ag.cc,∃ kn:ag,cl= [(2, .pointer (some ⟨bJ,0,none⟩)),(4, .pointer (some ⟨cC,0,none⟩)),(11, .slice cQ DF.length hD),(35, .slice A T.length c),(36, .int .i64 (T.length:Int)),(37, .int .i64 (k:Int))]∧cm=T.length - k∧Ext w a6∧aQ a6 cC [.int .i64 0, .int .i64 0, .slice none 0 0, .slice none 0 0, .slice none 0 0, .slice none 0 0, .slice none 0 0, .int .i64 0, .int .i64 0] 28 (0,0)∧pS.aG 41 8 a6 w.heap.size (τ.ae cQ) cQ hD DF∧aQ a6 bJ (ag.cells oi kn) 28 (0,0)∧bq a6 w.heap.size oi kn∧(k≤T.length)∧(h5 W (L.take k)=0)∧(kn=lH W (L.take k))∧(DF=xo W (L.take k))∧(∀ q∈bq.b_ oi,q=bJ→False)∧(∀ q∈bq.b_ oi,q=cC→False)∧(∀ q∈τ.ae cQ,q=cC→False)∧(∀ q∈τ.ae cQ,q=bJ→False)∧(∀ q∈τ.ae cQ,q∈bq.b_ oi→False)) _ _ ⟨0, [rC (gw W ([]:List dh))],some ⟨S',0,none⟩,1,a20,gw W ([]:List dh),Z,Z,qD,ah,I6,aa,(rZ.down (by omega)),by omega,rfl,Ey.1,(by rw [Ey.1];rfl),(λ q I Φ=>by exfalso;(have:=EH q I;omega)),(λ q I Φ=>by exfalso;(have:=EH q I;omega)),(λ q I Φ=>by (have:=wL q I;omega)),(λ q I Φ=>by (have:=wL q I;omega)),(λ q I Φ=>by (have:=wL q I;(have:=akK q Φ;omega)))⟩ (.cons Z (.cons Z (.cons Z (.cons Z (.cons Z (.cons (b2 Z (by first | omega | rfl | (simp<;>omega))) .nil)))))) ?_;rintro aMh aF8 y_ ⟨k,DF,cQ,hD,oi,kn,rfl,rfl,kG,ah,cZ,cU,fY,av,lW,GU,Pg,apO,apP,u1,BI,D4⟩;have:=kG.size;have aAF:=ah.lt;have AO:=λ q I=>(cZ.lt q I).2;have HO:=cU.lt;have AP:=λ q I=>(fY.lt q I).2;have aI4:DF.length≤k+1:=by rw [Pg,ajF,aQP];omega
   refine aj<|J (blt Z Z)<|ai<|aB<| ?_;refine ef Z (λ Kf=> ?_) (λ Kf=> ?_)
   ·obtain ⟨e3,dH,ie,gB,yv,hx⟩:=j6.at_ (k:=k) (by omega);refine bs<|aB<|bR<|aj<|J (b5 k underlying29 BN Z Z ((b4.keep kG).bL (a7 k)) Z (by omega))<|J (v:= .slice e3 ie.length dH) (ao Z (τ.aI.fB Vv ((b4.keep kG).cA (a7 k)) gB Z pj))<|va Z<|ai<|aB<|aj<|J (ao Z (cU.all c7 b3))<|vm Z<|ca TY Z Z ((Mh oi kn _ _ ie _ fY.has (hx.keep kG)).mono ?_);rintro e alf ⟨a59,Zb,aHO,Zc,aHP,Zd,aHQ,rfl,xX,aav,aaw,aax,VA,FC⟩;refine ⟨_,Z, ?_⟩;have:=FC.size;have MW:=κ kG FC;have Fc:=λ q I=>(xX.lt q I).2;have Lx:=λ q I=>(xX.lt q I).1;have Ml:=λ q I=>(aav.lt q I).2;have aL5:=λ q I=>(aav.lt q I).1;have Rk:=λ q I=>(aaw.lt q I).2;have aL6:=λ q I=>(aaw.lt q I).1;have aPp:=λ q I=>(aax.lt q I).2;have aL7:=λ q I=>(aax.lt q I).1;have aqd:∀ q∈τ.ae Zb,q∈bq.b_ a59→False:=λ q I=>VA q (.inl I);have aIv:∀ q∈bq.b_ a59,q∈τ.ae Zb→False:=λ q γ ab=>aqd q ab γ;have aqe:∀ q∈τ.ae Zc,q∈bq.b_ a59→False:=λ q I=>VA q (.inr (.inl I));have aIw:∀ q∈bq.b_ a59,q∈τ.ae Zc→False:=λ q γ ab=>aqe q ab γ;have aqf:∀ q∈τ.ae Zd,q∈bq.b_ a59→False:=λ q I=>VA q (.inr (.inr I));have aIx:∀ q∈bq.b_ a59,q∈τ.ae Zd→False:=λ q γ ab=>aqf q ab γ;refine vm Z<|J (ex Z Z)<|J (ex Z Z)<|J (ex Z Z)<| ?_;have cU:=cU.later FC;refine st Z Z cU Z b3 Z Z Z λ Yz lZ cU=> ?_;have:=lZ.size;have A7:=Ext.mod MW lZ bw;refine va Z<|ai<|aj<|vm Z<|J (bne Z Z)<|ai<| ?_;refine eH Z (λ vg=> ?_) (λ vg=> ?_)
    ·refine aj<|J (v:= .agg #[.int .i64 0, .int .i64 0, .slice none 0 0, .slice none 0 0, .slice none 0 0, .slice none 0 0, .slice none 0 0, .int .i64 0, .int .i64 0]) (cG Z (by kernel_rfl))<|vm Z<| ?_;have ah:=ah.later FC;have ah:=ah.mod lZ aR;refine st (new:= [.int .i64 0, .int .i64 0, .slice none 0 0, .slice none 0 0, .slice none 0 0, .slice none 0 0, .slice none 0 0, .int .i64 0, .int .i64 0]) Z Z ah Z b3 Z Z Z λ YB mz ah=> ?_;have:=mz.size;have FJ:=Ext.mod A7 mz bw;refine va Z<|va Z<|ai<|rt<|bN<|ej<|bN<|lK<|ej<|bN<|bb (.cell Z (ah.all c7 b3) (.tmp Z (.tmp Z .nil)))<| ?_;exact ⟨gX kn ie,⟨none,none,none,none,none,0,0,0,0,0⟩,ag.zero,none,0, [],Z, .inr ⟨vg, .inr (.inr (HU (k:=k+1) (by rw [QT lW yv,← GU];exact vg))),Z,Z⟩,bq.zero _ _,τ.aG.nil _,λ q I=>by simp [τ.ae] at I,FJ⟩
    ·have atG:h5 W (L.take (k+1))=0:=by rw [QT lW yv,← GU];first | exact vg | simpa using vg
     refine bs<|aj<|J (ao Z (cU.all c7 b3))<| ?_;have xX:=xX.mod lZ (bz Lx);refine ca adp Z Z ((aiq a59 (ld kn ie) _ xX.has).mono ?_);rintro e C2 ⟨rfl,hL⟩;refine ⟨_,Z, ?_⟩;have:=hL.size;have p3:=κ A7 hL;refine vm Z<|J (ex Z Z)<|J (ex Z Z)<|va Z<|ai<|rg<|vm Z<|vm Z<|cX (e:= 41) (cs:= [.int .u64 (U (rC (ld kn ie)))]) Z (λ _=>by kernel_rfl) Z λ Ie aHy kD aLQ ZW=> ?_;have:=kD.size;have oT:=κ p3 kD;have aOk:=ZW.lt;have cZ:=cZ.later FC;have cZ:=cZ.mod lZ (λ q I h=>by have Φ:=aQJ.1 h;exfalso;(exact BI q I Φ));have cZ:=cZ.later (κ hL kD);refine ap anL τ.dC cZ (aQ.gJ (R:=pS) (by_:=8) (q:=(rC (ld kn ie))) ZW ⟨Z,trivial⟩ (by decide)) Z Z (by simp only [aQQ,aQX];omega) (by simp only [aQQ,aQX];omega) (by omega) Z λ RG ame apb ET aaX UN aM1=> ?_;have:=ET.size;have A8:=Ext.mod oT ET (λ q I=>aRj (by omega) (cZ.lt q I).1);have aC1:=λ q I=>(aaX.lt q I).2;have:=ET.size;refine va Z<|nl<|bX<|aV<|rg<|J (bad Z Z (bG (by omega)))<|vm Z<|nl<| ?_;have ah:=ah.later FC;have ah:=ah.mod lZ aR;have ah:=ah.later (κ hL kD);have ah:=ah.mod ET (λ I=>u1 _ I rfl);have cU:=cU.later (κ hL kD);have cU:=cU.mod ET (λ I=>BI _ I rfl);have fY:=fY.later FC;have fY:=fY.mod lZ (λ q I h=>by have Φ:=aQJ.1 h;exfalso;(exact apO q I Φ));have fY:=fY.later (κ hL kD);have fY:=fY.mod ET (λ q I h=>by exfalso;(exact D4 q h I));have xX:=xX.later (κ hL kD);have xX:=xX.mod ET (λ q I h=>by exfalso;(have:=Lx q I;(have:=AO q h;omega)));exact c' _ _ ⟨k+1,DF++ [(rC (ld kn ie))],ame,apb,a59,ld kn ie,Z,Z,A8,ah,aaX,cU,(xX.down (by omega)),by omega,atG,by rw [CL yv,ajE,GU];rfl,by rw [Pg,CL yv,ajG,GU],(λ q I Φ=>by exfalso;(have:=Lx q I;omega)),(λ q I Φ=>by exfalso;(have:=Lx q I;omega)),(λ q I Φ=>by (exact aQ2 (UN q I) (λ K6=>by (exact u1 q K6 Φ)) (λ K6=>by omega))),(λ q I Φ=>by (exact aQ2 (UN q I) (λ K7=>by (exact BI q K7 Φ)) (λ K7=>by omega))),(λ q I Φ=>by (exact aQ2 (UN q I) (λ Cm=>by (have:=Lx q Φ;(have:=AO q Cm;omega))) (λ Cm=>by (have:=Fc q Φ;omega))))⟩ (by omega) (.cons Z (.cons Z (.cons Z (.cons Z (.cons Z (.cons (b2 Z (by first | omega | rfl | (simp<;>omega))) .nil))))))
   ·have lu:k=L.length:=by rw [← j6.1];omega
    refine dN<|dL<|ed<|dK<|aV<|aj<|J (ao Z (cU.all c7 b3))<|vm Z<|st Z Z ah Z b3 Z Z Z λ aDz Qn ah=> ?_;have:=Qn.size;have YU:=Ext.mod kG Qn bw;refine va Z<|va Z<|ai<|rt<|bb (.cell Z (ah.all c7 b3) (.tmp Z (.tmp Z .nil)))<| ?_;have cZ:=cZ.mod Qn (λ q I h=>by have Φ:=aQJ.1 h;exfalso;(exact u1 q I Φ));have fY:=fY.mod Qn (λ q I h=>by have Φ:=aQJ.1 h;exfalso;(exact apP q I Φ));rw [lu,aRC] at lW GU Pg;exact ⟨0,oi,kn,cQ,hD,DF,Z, .inl ⟨Z,atO,lY,lW,GU,Pg⟩,fY.down (by omega),cZ,λ q I hf=>by exfalso;(exact D4 q I hf),YU⟩
end
section
inductive oc where
 | last (i:Nat) (bZ:List Nat)
 | two (i:Nat) (bZ:List Nat) (t1 t2:oc)
def oc.hd:oc→Nat
 | .last i _=>i
 | .two i _ _ _=>i
section
variable {P:Program} {n:Nat} {E:List (Nat×Value)} {w:World} {Q:Exit→Act→World→Prop} {ops:Array Oper} {aZ:Nat→Nat}
def RJ (P:Program) (ops:Array Oper) (Q:Exit→Act→World→Prop) (aZ:Nat→Nat):oc→Act→World→Prop
 | .last i bZ=>uo P ops (gW (Q .normal)) aZ (i::bZ)
 | .two i bZ t1 t2=>uo P ops (gW (λ a w=>RJ P ops Q aZ t1 a w∧RJ P ops Q aZ t2 a w)) aZ (i::bZ)
def akw (ops:Array Oper) (aZ:Nat→Nat):oc→Array Bool→Nat→Bool
 | .last i bZ,l,m=>Nat.blt 1 (aZ i) && j4 ops aZ bZ (l.setIfInBounds i true) && Nat.beq (bZ.length+1) m
 | .two i bZ t1 t2,l,m=>Nat.blt 1 (aZ i) && Ea ops aZ bZ (l.setIfInBounds i true) && (Region.ready .any ops (yZ bZ (l.setIfInBounds i true))== [t1.hd,t2.hd]) && Nat.ble (bZ.length+2) m && akw ops aZ t1 (yZ bZ (l.setIfInBounds i true)) (m - 1 - bZ.length) && akw ops aZ t2 (yZ bZ (l.setIfInBounds i true)) (m - 1 - bZ.length)
def aFt (P:Program) (ops:Array Oper) (Q:Exit→Act→World→Prop) (aZ:Nat→Nat) (t1 t2:oc):Exit→Act→World→Prop:=gW (λ a w=>RJ P ops Q aZ t1 a w∧RJ P ops Q aZ t2 a w)
end
end
section
def zg (D:Nat) (w w':World):Prop:=w.heap.size≤w'.heap.size∧(D≤w.heap.size→Below D w w')
theorem zg.t_ {D:Nat} {a b c:World} (h:zg D a b) (k:zg D b c):zg D a c:=⟨aRj h.1 k.1,λ hd=>Below.trans (h.2 hd) (k.2 (aRj hd h.1))⟩
theorem zg.at {a b:World} (h:zg a.heap.size a b):Ext a b:=h.2 (aQW _)
section
variable {D:Nat} {P:Program} {ops:Array Oper} {Q:Exit→Act→World→Prop} {aZ:Nat→Nat}
def aaZ (D:Nat) (P:Program) (ops:Array Oper) (w0:World) (o:Oper) (v:Value) (a:Act):Prop :=
  (Region.wanted o (yielded ops a.tmps)=true∧∀ w,zg D w0 w→yV P w v ((execOp a.eval o).run P w))∨
  (Region.wanted o (yielded ops a.tmps)=false∧v=undef)
def aB3 (D:Nat) (P:Program) (ops:Array Oper) (Q:Exit→Act→World→Prop) (aZ:Nat→Nat) (i:Nat) (K:Act→World→Prop) (a:Act) (w0:World):Prop :=
  ∃ o,ops[i]? =some o∧
    ((aZ i≤1∧∃ v,aaZ D P ops w0 o v a∧K (a.put o.dst v) w0)∨
     (1<aZ i∧∀ w,Ext w0 w→wpOp P ops Q i (λ a' w'=>(aZ i=2→zg D w0 w')∧K a' w') a w))
def an8 (D:Nat) (P:Program) (ops:Array Oper) (Q:Exit→Act→World→Prop) (aZ:Nat→Nat):Nat→Array Bool→Act→World→Prop
  | 0,l,a,w0=>Region.ready .any ops l= []∧∀ w,Ext w0 w→Q .normal a w
  | f+1,l,a,w0=>(Region.ready .any ops l= []→∀ w,Ext w0 w→Q .normal a w)∧∀ i∈Region.ready .any ops l,aB3 D P ops Q aZ i (an8 D P ops Q aZ f (l.setIfInBounds i true)) a w0
def Ih (D:Nat) (P:Program) (ops:Array Oper) (Q:Exit→Act→World→Prop) (aZ:Nat→Nat):List Nat→Act→World→Prop
  | [],a,w0=>∀ w,Ext w0 w→Q .normal a w
  | i::r,a,w0=>∃ o,ops[i]? =some o∧
      ((aZ i=0∧∃ v,aaZ D P ops w0 o v a∧Ih D P ops Q aZ r (a.put o.dst v) w0)∨
       (aZ i=1∧∃ v,Yields P ops o v a∧Ih D P ops Q aZ r (a.put o.dst v) w0)∨
       (1<aZ i∧∀ w,Ext w0 w→wpOp P ops Q i (λ a' w'=>(aZ i=2→zg D w0 w')∧Ih D P ops Q aZ r a' w') a w))
end
section
variable {D:Nat} {P:Program} {n:Nat} {E cR:List (Nat×Value)} {a:Act} {w w' w0 aP:World} {Q:Exit→Act→World→Prop} {ops:Array Oper} {v:Value} {aZ:Nat→Nat}
variable {d:Option Nat} {ty:TypeId} {pos:String} {af:Array Edge} {g:Option (Nat×Bool)} {x y z:Operand} {t:TypeId} {rest:List Oper} {bZ:List Nat} {i:Nat}
def aGj (D:Nat) (P:Program) (n:Nat) (ops:Array Oper) (Q:Exit→Act→World→Prop) (aZ:Nat→Nat) (bZ:List Nat) (E:List (Nat×Value)) (w0:World):Prop:=∀ a,ek n E a→Ih D P ops (gW (Q .normal)) aZ bZ a w0
end
end
section
section
variable {D:Nat} {P:Program} {n:Nat} {E:List (Nat×Value)} {w:World} {Q:Exit→Act→World→Prop} {ops:Array Oper} {aZ:Nat→Nat}
def RK (D:Nat) (P:Program) (ops:Array Oper) (Q:Exit→Act→World→Prop) (aZ:Nat→Nat):oc→Act→World→Prop
 | .last i bZ=>Ih D P ops (gW (Q .normal)) aZ (i::bZ)
 | .two i bZ t1 t2=>Ih D P ops (gW (λ a w=>RK D P ops Q aZ t1 a w∧RK D P ops Q aZ t2 a w)) aZ (i::bZ)
def aFu (D:Nat) (P:Program) (ops:Array Oper) (Q:Exit→Act→World→Prop) (aZ:Nat→Nat) (t1 t2:oc):Exit→Act→World→Prop:=gW (λ a w=>RK D P ops Q aZ t1 a w∧RK D P ops Q aZ t2 a w)
end
end
section
open Go.Proofs.YtlikikpgmmkjbaaGreat.eV
def uP (W:ag) (L:List (List aN)):Prop:=L.length≤200∧W.bn=0∧h5 W L=0
def aFs (W:ag) (L:List (List aN)) (n e:Int) (V:ag):Prop :=
 (e=0∧uP W L∧0≤n∧n≤(L.length:Int)∧V=lH W (L.take n.toNat))∨(e≠0∧¬(uP W L∧0≤n∧n≤(L.length:Int))∧V=ag.zero)
theorem DM.Q2 {W:ag} {L:List (List aN)} {e:Int} {V:ag} {ms:List (BitVec 64)} (h:DM W L e V ms):e=0↔uP W L :=
 ⟨λ aF=>by obtain ⟨γ,ab,aw,_,_⟩:=h.ok aF;exact ⟨γ,ab,aw⟩,λ ⟨γ,ab,aw⟩=>(h.zero γ ab aw).1⟩
theorem apq (a:ag.cc) (W:ag) (A:Option Addr) (c:Nat) (T:List gP) (L:List (List aN)) (w:World) (bP:ag.Has w a W) (b4:pT.aI 24 w A c T) (j6:p_ w T L):
  Calls prog 46 #[.agg #[.int .i64 W.field.wide, .int .i64 W.field.high, .slice a.P W.field.aW.length a.p, .slice a.B W.aU.length a.b, .slice a.S W.bj.length a.s, .slice a.M W.br.length a.m, .slice a.T W.ak.length a.t, .int .i64 W.next, .int .i64 W.now, .slice A T.length c]] w (λ e w'=>∃ e':Int,e= .returned (.int .i64 e')∧(e'=0↔uP W L)∧Ext w w'):=by
 have B9:=b4.d_;refine cd (n:=16) func46 Z Z Z ?_;refine aj<|cB Z Z Z Z λ cO bJ ba eb aa=> ?_;have:=ba.size;have bk:=κ (Ext.bI w) ba;have eh:=aa.lt;refine va Z<|ai<|aj<|J (au JI Z)<|J (ao Z (aa.par [.int .i64 W.field.wide, .int .i64 W.field.high, .slice a.P W.field.aW.length a.p, .slice a.B W.aU.length a.b, .slice a.S W.bj.length a.s, .slice a.M W.br.length a.m, .slice a.T W.ak.length a.t, .int .i64 W.next, .int .i64 W.now] c7 b3 Z))<|J (au u2 Z)<|J (ao Z (aa.one zW Z))<|ca JJ Z Z ((L4 a W _ _ T L _ (bP.keep bk) (b4.keep bk) (j6.keep bk)).mono ?_);rintro e y8 ⟨IH,Jj,anU,Ze,eG,aMo,rfl,Hc,IY,aaq,afc,l2⟩;refine ⟨_,Z, ?_⟩;have:=l2.size;have iB:=κ bk l2;have Yn:=λ q I=>(IY.lt q I).2;have ax3:=λ q I=>(IY.lt q I).1;have aCM:=λ q I=>(aaq.lt q I).2;have ax4:=λ q I=>(aaq.lt q I).1;have aIg:∀ q∈τ.ae Ze,q∈bq.b_ Jj→False:=afc;have aIy:∀ q∈bq.b_ Jj,q∈τ.ae Ze→False:=λ q γ ab=>afc q ab γ;refine vm Z<|J (ex Z Z)<|J (ex Z Z)<|J (ex Z Z)<|al Z mh Z Z λ xw aG9 lM axA Sd=> ?_;have:=lM.size;have kj:=κ iB lM;have ajl:=Sd.lt;refine st Z Z Sd Z b3 Z Z Z λ CZ k8 Sd=> ?_;have:=k8.size;have ll:=Ext.mod kj k8 bw;refine va Z<|va Z<|ai<|aj<|vm Z<|va Z<|ai<|rt<|bb (.tmp Z .nil)<| ?_;exact ⟨IH,Z,Hc.Q2,ll⟩
end
section
theorem awL (fa:FuncId) (cs:List Value) (p:aN→Bool) (A:Option Addr) (c:Nat) (l:List aN) (w:World) (az:aN.rep.aI 48 w A c l) (lW:Enters prog fa) (dI:∀ x∈l,∀ w',Ext w w'→Calls prog fa (([.agg #[.int .i64 x.by_, .int .i64 x.kind, .int .i64 x.aS, .int .i64 x.spot.x, .int .i64 x.spot.y, .int .i64 x.what]]:List Value)++cs).toArray w' λ e lg=>e= .returned (.bool (p x))∧Ext w' lg):
  Calls prog 114 #[.slice A l.length c, .func (.func fa) #[] cs.toArray] w (λ e w'=>e= .returned (.int .i64 (gb p l))∧Ext w w'):=by
 have pD:=az.d_;refine cd (n:=19) func114 Z Z Z ?_;refine aj<|va Z<|ai<|aB<|aj<|vm Z<|J (cu underlying44 Z)<|vm Z<|ai<|bR<| ?_;refine fg (λ cm cl a6=>∃ k:Nat,cl= [(0, .slice A l.length c),(1, .func (.func fa) #[] cs.toArray),(7, .int .i64 (l.length:Int)),(8, .int .i64 (k:Int))]∧cm=l.length - k∧Ext w a6∧(k≤l.length)∧(∀ i,i<k→p (l.getD i default)=false)) _ _ ⟨0,Z,Z,(Ext.bI w),by omega,λ i ar=>by omega⟩ (.cons Z (.cons Z (.cons Z (.cons (b2 Z (by first | omega | rfl | (simp<;>omega))) .nil)))) ?_;rintro LJ II cO ⟨k,rfl,rfl,bk,av,aM⟩;have:=bk.size;refine aj<|J (blt Z Z)<|ai<|aB<| ?_;refine ef Z (λ lx=> ?_) (λ lx=> ?_)
 ·refine bs<|aB<|bR<|aj<|vm Z<|va Z<|ai<|aj<|vm Z<|vm Z<|vm Z<|J (b5 k underlying44 fF Z Z ((az.keep bk).bL (a7 k)) Z (by omega))<|J (ao Z (τ.aI.hE Kp ((az.keep bk).cA (a7 k)) (df (l:=l) (u:=default) (by omega)) jc fF))<|Oo lW Z Z Z ((dI (l.getD k default) (jj (by omega)) _ bk).mono ?_);rintro e H' ⟨rfl,xF⟩;refine ⟨_,Z, ?_⟩;have:=xF.size;have l3:=κ bk xF;refine ai<| ?_;refine dT Z (λ ly=> ?_) (λ ly=> ?_)
  ·refine aj<|vm Z<|va Z<|ai<|rt<|ej<|bN<|lK<|ej<|bN<|bb (.tmp Z .nil)<| ?_;exact ⟨by have e:=P9 (p:=p) (l:=l) (d:=default) (k:=k) (by omega) ly aM;rw [e];rfl,l3⟩
  ·refine e6<|bX<|aV<|rg<|J (bad Z Z (bG (by omega)))<|vm Z<|nl<| ?_;exact c' _ _ ⟨k+1,Z,Z,l3,by omega,sq aM ly⟩ (by omega) (.cons Z (.cons Z (.cons Z (.cons (b2 Z (by first | omega | rfl | (simp<;>omega))) .nil))))
 ·refine dN<|dL<|ed<|dK<|aV<|aj<|va Z<|ai<|rt<|bb (.tmp Z .nil)<| ?_;exact ⟨by have e:=P8 (p:=p) (l:=l) (d:=default) (λ i ar=>aM i (by omega));rw [e];rfl,bk⟩
end
section
section
variable {P:Program} {n:Nat} {ops:Array Oper} {Q:Exit→Act→World→Prop} {E:List (Nat×Value)} {w:World} {v:Value} {ty:TypeId} {pos:String} {af:Array Edge} {x y z:Operand} {t:TypeId} {g:Option (Nat×Bool)} {rest:List Oper} {d:Option Nat}
theorem rH {d:Nat} {op:Op} {j:Nat} {q b c bW:Bool} {c9:Oper} {jq:Nat} (ay:ops[j]? =some c9) (mX:c9.dst=some jq) (Φ:look E jq=some (h0 bW (.bool b))) (hc:(bW && (b == q))=c)
  (hr:c=true→cN P E ⟨some d,op,ty,pos,af,some (j,q)⟩ w v w) (hd:Nat.blt d n=true) (h:cE P n ops Q rest ((d,h0 c v)::E) w):cE P n ops Q (⟨some d,op,ty,pos,af,some (j,q)⟩::rest) E w :=
 RI (c:=c) (λ a ha=>by
  have γ:=ha.g _ _ Φ;subst hc;cases bW with
  | true=>exact C3 (o:=⟨some d,op,ty,pos,af,some (j,q)⟩) rfl ay mX (b:=b) Φ ha
  | false =>
   simp only [h0,aRr,aRZ] at γ;simp [Region.wanted,yielded,ay,mX,γ,undef])
  (λ hc a ha=>by unfold Oper.wp;rw [hr hc n a ha];subst hc;exact h _ (ha.put hd v)) (λ hc a ha=>by subst hc;exact h _ (ha.put hd undef))
theorem azH {b c k:Bool} (av:k=true) (hx:ev E x=some (.bool b)) (aK:ev E y=some (.bool true)) (bB:ev E z=some (h0 (k && (b == false)) (.bool c))):cN P E ⟨d, .pick x y z,ty,pos,af,g⟩ w (.bool (b || c)) w:=by
 subst av;exact ez hx aK Z bB
theorem aiZ {b c k:Bool} (av:k=true) (hx:ev E x=some (.bool b)) (bB:ev E z=some (.bool false)) (aK:ev E y=some (h0 (k && (b == true)) (.bool c))):cN P E ⟨d, .pick x y z,ty,pos,af,g⟩ w (.bool (b && c)) w:=by
 subst av;exact di hx bB Z aK
end
end
section
open Go.Proofs.YtlikikpgmmkjbaaGreat.eV
structure bx where
 a:Option Addr
 n:Nat
 c:Nat
 late:Int
 gone:Bool
instance:Inhabited bx:=⟨⟨none,0,0,0,false⟩⟩
def bx.kc (v:bx):gP:=⟨v.a,v.n,v.c⟩
def bx.raw (j:Nat) (u:Value):Prop:=match j with
 | 0=>∃ a n c,u= .slice a n c
 | 1=>∃ n:Int,u= .int .i64 n
 | 2=>∃ b:Bool,u= .bool b
 | _=>True
def bx.cells (v:bx):List Value:= [.slice v.a v.n v.c, .int .i64 v.late, .bool v.gone]
def bx.rep:τ bx:=τ.flat 3 bx.cells (λ v=>eP v.late) bx.raw (λ _=>rfl) (by intro a u hu;simp [bx.cells] at hu;rcases hu with rfl | rfl | rfl<;>rfl) (by
 intro a j u hu
 match j,hu with
 | 0,hu=>exact ⟨_,_,_,(aQL hu).symm⟩
 | 1,hu=>exact ⟨_,(aQL hu).symm⟩
 | 2,hu=>exact ⟨_,(aQL hu).symm⟩
 | j+3,hu=>exact trivial)
theorem nM {w:World} {cs:List Value} {a:bx} (h:bx.rep.has w cs a):cs=a.cells:=aSO (show cs=a.cells∧eP a.late from h)
def bx.zero:Value:= .agg #[.slice none 0 0, .int .i64 0, .bool false]
theorem bx.iC:∀ (j:Nat) u,bx.zero.cells[j]? =some u→bx.rep.raw j u:=by
 intro j u hu;have hu:(#[(.slice none 0 0:Value),(.int .i64 0:Value),(.bool false:Value)]:Array Value)[j]? =some u:=hu
 match j,hu with
 | 0,hu=>exact ⟨_,_,_,(aQL hu).symm⟩
 | 1,hu=>exact ⟨_,(aQL hu).symm⟩
 | 2,hu=>exact ⟨_,(aQL hu).symm⟩
 | j+3,hu=>simp at hu
theorem bx.info:(prog.info? 90).map (λ i=>(i.zero,i.size,i.bytes))=some (some bx.zero,3,40):=by kernel_rfl
theorem bx.oh {by_:Nat} {w:World} {A:Option Addr} {c:Nat} {l:List bx} (h:bx.rep.aI by_ w A c l):∀ a∈l,eP a.late:=τ.aI.zL (R:=bx.rep) (Q:=λ a=>eP a.late) (fun {w cs a} (h:bx.rep.has w cs a)=>(show cs=a.cells∧eP a.late from h).2) h
structure cq where
 waits:List aN
 late:Int
 gone:Bool
 deriving DecidableEq
def o' (w:World) (T:List bx) (S:List cq):Prop:=p_ w (T.map bx.kc) (S.map cq.waits)∧T.map (λ v=>(v.late,v.gone))=S.map (λ s=>(s.late,s.gone))
section
variable {w w':World} {T jH:List bx} {S og:List cq} {k:Nat}
theorem o'.len (h:o' w T S):T.length=S.length:=by have:=h.1.1;simpa using this
theorem o'.keep (h:o' w T S) (x:Ext w w'):o' w' T S:=⟨h.1.keep x,h.2⟩
theorem o'.at_ (h:o' w T S) (av:k<T.length):∃ A c s,T[k]? =some ⟨A,s.waits.length,c,s.late,s.gone⟩∧S[k]? =some s∧aN.rep.aI 48 w A c s.waits:=by
 have fZ:k<S.length:=by rw [← h.len];exact av
 obtain ⟨A,c,l,γ,ab,aw⟩:=h.1.at_ (k:=k) (by simpa using av);rw [aQ4,aQN av] at γ;rw [aQ4,aQN fZ] at ab;have aX:=aRS (λ l=>l[k]?) h.2;simp only [aQ4,aQN av,aQN fZ,aSn,aTL,aVh] at aX;have γ:=aQL γ;have ab:=aQL ab;refine ⟨A,c,S[k], ?_,aQN fZ,by rw [ab];exact aw⟩;rw [aQN av,ab];generalize T[k]=t at γ aX;obtain ⟨a,n,bV,aLY,g⟩:=t;simp only [bx.kc,gP.mk.injEq] at γ;obtain ⟨rfl,rfl,rfl⟩:=γ;rw [← aX.1,← aX.2]
end
def cq.xn (p:Int) (s:cq):Bool:= !(decide (s.late<0) || decide (1000000<s.late) || (s.gone && (s.late != 0 || decide (0<(s.waits.length:Int))))) && !s.waits.any λ o=>o.by_ != p || o.bn != 0
def wo (S:List cq):Prop:=1≤S.length∧S.length≤8∧∀ (i:Nat) (s:cq),S[i]? =some s→s.waits.length≤50∧s.xn i=true
theorem aBs {S:List cq} {k:Nat} {bl:cq} (aM:∀ (i:Nat) (s:cq),i<k→S[i]? =some s→s.xn i=true) (hS:S[k]? =some bl) (hr:bl.xn k=true) {i:Nat} {s:cq} (ar:i<k+1) (hs:S[i]? =some s):s.xn i=true:=by
 rcases aRG i k with h | h
 ·exact aM i s h hs
 ·obtain rfl:i=k:=by omega
  rw [hS] at hs;obtain rfl:=aQL hs;exact hr
theorem aBp {w:World} {T:List bx} {S:List cq} (hS:o' w T S) (h:(T.any λ t=>decide (50<(t.n:Int)))=true):¬ wo S:=λ aF=>by
 obtain ⟨t,aD,Φ⟩:=aR6.1 h;obtain ⟨i,ar,rfl⟩:=aRM.1 aD;obtain ⟨A,c,s,γ,ab,_⟩:=hS.at_ ar;rw [aQN ar] at γ;rw [aQL γ] at Φ;have:=(aF.2.2 i s ab).1;simp at Φ;omega
theorem aBr {w:World} {T:List bx} {S:List cq} (hS:o' w T S) (h:(T.any λ t=>decide (50<(t.n:Int)))=false):∀ (i:Nat) (s:cq),S[i]? =some s→s.waits.length≤50:=λ i s hs=>by
 have ar:i<T.length:=by rw [hS.len];exact (aQM.1 hs).1
 obtain ⟨A,c,s',γ,ab,_⟩:=hS.at_ ar;rw [hs] at ab;obtain rfl:=aQL ab;rw [aQN ar] at γ;have:=aUJ.1 h T[i] (aRO ar);rw [aQL γ] at this;simp at this;omega
theorem aun (fa:FuncId) (cs:List Value) (p:aN→Bool) (A:Option Addr) (c:Nat) (l:List aN) (w:World) (az:aN.rep.aI 48 w A c l) (lW:Enters prog fa) (dI:∀ x∈l,∀ w',Ext w w'→Calls prog fa (([.agg #[.int .i64 x.by_, .int .i64 x.kind, .int .i64 x.aS, .int .i64 x.spot.x, .int .i64 x.spot.y, .int .i64 x.what]]:List Value)++cs).toArray w' λ e lg=>e= .returned (.bool (p x))∧Ext w' lg):
  Calls prog 172 #[.slice A l.length c, .func (.func fa) #[] cs.toArray] w (λ e w'=>e= .returned (.bool (l.any p))∧Ext w w'):=by
 refine cd (n:=9) func172 Z Z Z ?_;refine aj<|va Z<|ai<|aj<|vm Z<|vm Z<|ca arv Z Z ((awL fa cs p _ _ l _ (az.keep (Ext.bI w)) lW (λ x hx w' h=>dI x hx w' (κ (Ext.bI w) h))).mono ?_);rintro e cO ⟨rfl,e7⟩;refine ⟨_,Z, ?_⟩;have:=e7.size;have bk:=κ (Ext.bI w) e7;refine J (iI Z Z)<|va Z<|ai<|rt<|bb (.tmp Z .nil)<| ?_;exact ⟨by rw [K4];rfl,bk⟩
theorem awM (fa:FuncId) (cs:List Value) (p:bx→Bool) (A:Option Addr) (c:Nat) (l:List bx) (w:World) (az:bx.rep.aI 40 w A c l) (lW:Enters prog fa) (dI:∀ x∈l,∀ w',Ext w w'→Calls prog fa (([.agg #[.slice x.a x.n x.c, .int .i64 x.late, .bool x.gone]]:List Value)++cs).toArray w' λ e lg=>e= .returned (.bool (p x))∧Ext w' lg):
  Calls prog 171 #[.slice A l.length c, .func (.func fa) #[] cs.toArray] w (λ e w'=>e= .returned (.int .i64 (gb p l))∧Ext w w'):=by
 have pD:=az.d_;refine cd (n:=19) func171 Z Z Z ?_;refine aj<|va Z<|ai<|aB<|aj<|vm Z<|J (cu underlying80 Z)<|vm Z<|ai<|bR<| ?_;refine fg (λ cm cl a6=>∃ k:Nat,cl= [(0, .slice A l.length c),(1, .func (.func fa) #[] cs.toArray),(7, .int .i64 (l.length:Int)),(8, .int .i64 (k:Int))]∧cm=l.length - k∧Ext w a6∧(k≤l.length)∧(∀ i,i<k→p (l.getD i default)=false)) _ _ ⟨0,Z,Z,(Ext.bI w),by omega,λ i ar=>by omega⟩ (.cons Z (.cons Z (.cons Z (.cons (b2 Z (by first | omega | rfl | (simp<;>omega))) .nil)))) ?_;rintro LJ II cO ⟨k,rfl,rfl,bk,av,aM⟩;have:=bk.size;refine aj<|J (blt Z Z)<|ai<|aB<| ?_;refine ef Z (λ lx=> ?_) (λ lx=> ?_)
 ·refine bs<|aB<|bR<|aj<|vm Z<|va Z<|ai<|aj<|vm Z<|vm Z<|vm Z<|J (b5 k underlying80 kq Z Z ((az.keep bk).bL (a7 k)) Z (by omega))<|J (ao Z (τ.aI.hE nM ((az.keep bk).cA (a7 k)) (df (l:=l) (u:=default) (by omega)) BO kq))<|Oo lW Z Z Z ((dI (l.getD k default) (jj (by omega)) _ bk).mono ?_);rintro e H' ⟨rfl,xF⟩;refine ⟨_,Z, ?_⟩;have:=xF.size;have l3:=κ bk xF;refine ai<| ?_;refine dT Z (λ ly=> ?_) (λ ly=> ?_)
  ·refine aj<|vm Z<|va Z<|ai<|rt<|ej<|bN<|lK<|ej<|bN<|bb (.tmp Z .nil)<| ?_;exact ⟨by have e:=P9 (p:=p) (l:=l) (d:=default) (k:=k) (by omega) ly aM;rw [e];rfl,l3⟩
  ·refine e6<|bX<|aV<|rg<|J (bad Z Z (bG (by omega)))<|vm Z<|nl<| ?_;exact c' _ _ ⟨k+1,Z,Z,l3,by omega,sq aM ly⟩ (by omega) (.cons Z (.cons Z (.cons Z (.cons (b2 Z (by first | omega | rfl | (simp<;>omega))) .nil))))
 ·refine dN<|dL<|ed<|dK<|aV<|aj<|va Z<|ai<|rt<|bb (.tmp Z .nil)<| ?_;exact ⟨by have e:=P8 (p:=p) (l:=l) (d:=default) (λ i ar=>aM i (by omega));rw [e];rfl,bk⟩
theorem auo (fa:FuncId) (cs:List Value) (p:bx→Bool) (A:Option Addr) (c:Nat) (l:List bx) (w:World) (az:bx.rep.aI 40 w A c l) (lW:Enters prog fa) (dI:∀ x∈l,∀ w',Ext w w'→Calls prog fa (([.agg #[.slice x.a x.n x.c, .int .i64 x.late, .bool x.gone]]:List Value)++cs).toArray w' λ e lg=>e= .returned (.bool (p x))∧Ext w' lg):
  Calls prog 141 #[.slice A l.length c, .func (.func fa) #[] cs.toArray] w (λ e w'=>e= .returned (.bool (l.any p))∧Ext w w'):=by
 refine cd (n:=9) func141 Z Z Z ?_;refine aj<|va Z<|ai<|aj<|vm Z<|vm Z<|ca arw Z Z ((awM fa cs p _ _ l _ (az.keep (Ext.bI w)) lW (λ x hx w' h=>dI x hx w' (κ (Ext.bI w) h))).mono ?_);rintro e cO ⟨rfl,e7⟩;refine ⟨_,Z, ?_⟩;have:=e7.size;have bk:=κ (Ext.bI w) e7;refine J (iI Z Z)<|va Z<|ai<|rt<|bb (.tmp Z .nil)<| ?_;exact ⟨by rw [K4];rfl,bk⟩
theorem aBU (o:aN) (p:Int) (b:Nat) (w:World) (aL:aQ w b [.int .i64 p] 3 (0,0)):
  Calls prog 173 #[.agg #[.int .i64 o.by_, .int .i64 o.kind, .int .i64 o.aS, .int .i64 o.spot.x, .int .i64 o.spot.y, .int .i64 o.what], .pointer (some ⟨b,0,none⟩)] w (λ e w'=>e= .returned (.bool (o.by_ != p || o.bn != 0))∧Ext w w'):=by
 have sB:=aL.lt;refine cd (n:=13) func173 Z Z Z ?_;refine aj<|cB Z Z Z Z λ cO bJ ba eb aa=> ?_;have:=ba.size;have bk:=κ (Ext.bI w) ba;have eh:=aa.lt;refine va Z<|ai<|aj<|J (au tx Z)<|J (ao Z (aa.one bd Z))<| ?_;have aL:=aL.later ba;refine J (ao Z (aL.one bd Z))<|J (bne Z Z)<|vm Z<|aO Z Z Z Z (λ hc=>ao Z (aa.all jc fF)) Z<|pV Z Z Z Z TS (λ hc=>fp (gt hc Z) Z) (λ hc=>Xd o _) Z λ eA cF=> ?_;have:=cF.size;have bO:=κ bk cF;refine aO Z Z Z Z (λ hc=>bne (gt hc Z) Z) Z<|J (ez Z Z Z Z)<|va Z<|ai<|rt<|bb (.tmp Z .nil)<| ?_;exact ⟨Z,bO⟩
theorem aBV (A:Option Addr) (c:Nat) (s:cq) (p:Int) (w:World) (az:aN.rep.aI 48 w A c s.waits):
  Calls prog 143 #[.agg #[.slice A s.waits.length c, .int .i64 s.late, .bool s.gone], .int .i64 p] w (λ e w'=>e= .returned (.bool (s.xn p))∧Ext w w'):=by
 refine cd (n:=33) func143 Z Z Z ?_;refine aj<|cB Z Z Z Z λ cO bJ ba eb aa=> ?_;have:=ba.size;have bk:=κ (Ext.bI w) ba;have eh:=aa.lt;refine cB Z Z Z Z λ eA cC bm hT ah=> ?_;have:=bm.size;have bO:=κ bk bm;have hI:=ah.lt;refine va Z<|ai<|aB<|aj<|J (au Gu Z)<| ?_;have aa:=aa.later bm;refine J (ao Z (aa.one bd Z))<|J (blt Z Z)<|vm Z<|aO Z Z Z Z (λ hc=>au Gu Z) Z<|aO Z Z Z Z (λ hc=>ao (gt hc Z) (aa.one bd Z)) Z<|aO Z Z Z Z (λ hc=>iu (gt hc Z) Z) Z<|J (ez Z Z Z Z)<|vm Z<|aO Z Z Z Z (λ hc=>au JK Z) Z<|aO Z Z Z Z (λ hc=>ao (gt hc Z) (aa.one Gy Z)) Z<|aO Z Z Z Z (λ hc=>aH (gt hc Z)) Z<|rH Z Z Z Z (λ hc=>au Gu Z) Z<|rH Z Z Z Z (λ hc=>ao (gt hc Z) (aa.one bd Z)) Z<|rH Z Z Z Z (λ hc=>bne (gt hc Z) Z) Z<|rH Z Z Z Z (λ hc=>aH (gt hc Z)) Z<|rH Z Z Z Z (λ hc=>au q2 Z) Z<|rH Z Z Z Z (λ hc=>ao (gt hc Z) (aa.one pj Z)) Z<|rH Z Z Z Z (λ hc=>cu underlying44 (gt hc Z)) Z<|rH Z Z Z Z (λ hc=>iu (gt hc Z) Z) Z<|rH Z Z Z Z (λ hc=>azH hc (gt hc Z) Z Z) Z<|aO Z Z Z Z (λ hc=>aiZ hc (gt hc Z) Z Z) Z<|J (ez Z Z Z Z)<|ai<| ?_;refine dT Z (λ ib=> ?_) (λ ib=> ?_)
 ·refine aj<|va Z<|ai<|rt<|bN<|bb (.tmp Z .nil)<| ?_;exact ⟨by unfold cq.xn;rw [ib];rfl,bO⟩
 ·refine bs<|aj<|J (au q2 Z)<|J (ao Z (aa.one pj Z))<|J (LM Z Z)<|ca ary Z Z ((aun 173 [.pointer (some ⟨cC,0,none⟩)] (λ o=>o.by_ != p || o.bn != 0) _ _ s.waits _ (az.keep bO) arx (λ x hx w' h=>aBU x p cC w' (ah.later h))).mono ?_);rintro e xw ⟨rfl,b7⟩;refine ⟨_,Z, ?_⟩;have:=b7.size;have kj:=κ bO b7;refine J (eg Z)<|va Z<|ai<|rt<|bb (.tmp Z .nil)<| ?_;exact ⟨by unfold cq.xn;rw [ib];rfl,kj⟩
theorem aBm (t:bx) (w:World):
  Calls prog 142 #[.agg #[.slice t.a t.n t.c, .int .i64 t.late, .bool t.gone]] w (λ e w'=>e= .returned (.bool (decide (50<(t.n:Int))))∧Ext w w'):=by
 refine cd (n:=7) func142 Z Z Z ?_;refine aj<|cB Z Z Z Z λ cO bJ ba eb aa=> ?_;have:=ba.size;have bk:=κ (Ext.bI w) ba;have eh:=aa.lt;refine va Z<|ai<|aj<|J (au q2 Z)<|J (ao Z (aa.one pj Z))<|J (cu underlying44 Z)<|J (iu Z Z)<|va Z<|ai<|rt<|bb (.tmp Z .nil)<| ?_;exact ⟨Z,bk⟩
theorem QW (A:Option Addr) (c:Nat) (T:List bx) (S:List cq) (w:World) (b4:bx.rep.aI 40 w A c T) (hS:o' w T S):
  Calls prog 102 #[.slice A T.length c] w (λ e w'=>∃ e':Int,e= .returned (.int .i64 e')∧(e'=0↔wo S)∧Ext w w'):=by
 have B9:=b4.d_;refine cd (n:=27) func102 Z Z Z ?_;refine aj<|va Z<|ai<|aB<|aj<|vm Z<|J (cu underlying80 Z)<|J (blt Z Z)<|vm Z<|aO Z Z Z Z (λ hc=>aH Z) Z<|aO Z Z Z Z (λ hc=>cu underlying80 (gt hc Z)) Z<|aO Z Z Z Z (λ hc=>iu (gt hc Z) Z) Z<|J (ez Z Z Z Z)<|ai<| ?_;refine dT Z (λ jQ=> ?_) (λ jQ=> ?_)
 ·simp only [cv] at jQ;refine aj<|va Z<|ai<|rt<|bN<|bb (.tmp Z .nil)<| ?_;exact ⟨1,Z,⟨λ bf=>absurd bf (by decide),λ bf=>absurd bf (by rintro ⟨γ,ab,_⟩;have:=hS.len;omega)⟩,(Ext.bI w)⟩
 ·simp only [cv] at jQ;refine bs<|aB<|aj<|vm Z<|ca arB Z Z ((auo 142 [] (λ t=>decide (50<(t.n:Int))) _ _ T _ (b4.keep (Ext.bI w)) arA (λ x hx w' h=>aBm x w')).mono ?_);rintro e ke ⟨rfl,ba⟩;refine ⟨_,Z, ?_⟩;have:=ba.size;have cS:=κ (Ext.bI w) ba;refine ai<| ?_;refine dT Z (λ lx=> ?_) (λ lx=> ?_)
  ·refine aj<|va Z<|ai<|rt<|bN<|bb (.tmp Z .nil)<| ?_;exact ⟨2,Z,⟨λ bf=>absurd bf (by decide),λ bf=>absurd bf (λ bf=>aBp hS lx bf)⟩,cS⟩
  ·have awk:=aBr hS lx;refine bs<|aB<|aj<|vm Z<|J (cu underlying80 Z)<|vm Z<|ai<|bR<| ?_;refine fg (λ cm cl a6=>∃ k:Nat,cl= [(15, .slice A T.length c),(16, .int .i64 (T.length:Int)),(17, .int .i64 (k:Int))]∧cm=T.length - k∧Ext w a6∧(k≤T.length)∧(∀ (i:Nat) (s:cq),i<k→S[i]? =some s→s.xn i=true)) _ _ ⟨0,Z,Z,cS,by omega,λ i s ar=>by omega⟩ (.cons Z (.cons Z (.cons (b2 Z (by first | omega | rfl | (simp<;>omega))) .nil))) ?_;rintro W0 aGh H' ⟨k,rfl,rfl,l3,av,aM⟩;have:=l3.size;refine aj<|J (blt Z Z)<|ai<|aB<| ?_;refine ef Z (λ j7=> ?_) (λ j7=> ?_)
   ·obtain ⟨e3,dH,bl,gB,jP,hx⟩:=hS.at_ (k:=k) (by omega);refine bs<|aB<|bR<|aj<|vm Z<|J (b5 k underlying80 kq Z Z ((b4.keep l3).bL (a7 k)) Z (by omega))<|J (ao Z (τ.aI.hE nM ((b4.keep l3).cA (a7 k)) gB BO kq))<|al Z OK Z Z λ uj yb dm Lq fS=> ?_;have:=dm.size;have jB:=κ l3 dm;have QL:=fS.lt;refine va Z<|st (new:= [.slice ((⟨e3,bl.waits.length,dH,bl.late,bl.gone⟩:bx).a) ((⟨e3,bl.waits.length,dH,bl.late,bl.gone⟩:bx).n) ((⟨e3,bl.waits.length,dH,bl.late,bl.gone⟩:bx).c), .int .i64 ((⟨e3,bl.waits.length,dH,bl.late,bl.gone⟩:bx).late), .bool ((⟨e3,bl.waits.length,dH,bl.late,bl.gone⟩:bx).gone)]) Z Z fS Z kq Z Z Z λ uk rz fS=> ?_;have:=rz.size;have hY:=Ext.mod jB rz bw;refine ai<|aj<|J (ao Z (fS.all BO kq))<|vm Z<|ca arC Z Z ((aBV e3 dH bl (k:Int) _ (hx.keep hY)).mono ?_);rintro e nr ⟨rfl,eB⟩;refine ⟨_,Z, ?_⟩;have:=eB.size;have fu:=κ hY eB;refine J (eg Z)<|ai<| ?_;refine dT Z (λ se=> ?_) (λ se=> ?_)
    ·refine aj<|va Z<|ai<|rt<|ej<|bN<|lK<|ej<|bN<|bb (.tmp Z .nil)<| ?_;exact ⟨4,Z,⟨λ bf=>absurd bf (by decide),λ bf=>absurd bf (λ bf=>by have u9:=(bf.2.2 k bl jP).2;rw [u9] at se;cases se)⟩,fu⟩
    ·have awg:bl.xn k=true:=by simpa using se
     refine e6<|bX<|aV<|rg<|J (bad Z Z (bG (by omega)))<|vm Z<|nl<| ?_;exact c' _ _ ⟨k+1,Z,Z,fu,by omega,λ i s ar hs=>aBs aM jP awg ar hs⟩ (by omega) (.cons Z (.cons Z (.cons (b2 Z (by first | omega | rfl | (simp<;>omega))) .nil)))
   ·refine dN<|dL<|ed<|dK<|aV<|aj<|va Z<|ai<|rt<|bb (.tmp Z .nil)<| ?_;exact ⟨0,Z,⟨λ _=>⟨by have:=hS.len;have Vq:=jQ;omega,by have:=hS.len;have Vq:=jQ;omega,λ i s hs=>⟨awk i s hs,aM i s (by have:=(aQM.1 hs).1;have:=hS.len;omega) hs⟩⟩,λ _=>Z⟩,l3⟩
end
section
theorem Um {w:World}:∀ {ess:List (List Value)} {l:List Int},c0 (λ es a=>bK.has w es a) ess l→ess.flatten=l.map (Value.int .i64)
 | [], [],_=>rfl
 | es::ess,a::l,h=>by
  obtain ⟨γ,ab⟩:=h;rw [aRB,gl γ,Um ab];rfl
 | [],_::_,h=>h.elim
 | _::_, [],h=>h.elim
theorem SZ {w:World}:∀ {l:List Int},(∀ a∈l,eP a)→c0 (λ es a=>bK.has w es a) (l.map λ a=> [Value.int .i64 a]) l
 | [],_=>trivial
 | a::l,h=>⟨⟨rfl,h a aRa⟩,SZ λ b Φ=>h b (aQ1 _ Φ)⟩
end
end Go.Proofs.YtlikikpgmmkjbaaGreat
namespace Go.Proofs.YtlikikpgmmkjbaaGreat.eu
open Tryz
open Go.Proofs.YtlikikpgmmkjbaaGreat.eV
def step (n:BitVec 32):BitVec 32:=n >>> 1 ^^^ (3988292384#32 &&& -(n &&& 1#32))
def steps:Nat→BitVec 32→BitVec 32
 | 0,n=>n
 | k+1,n=>steps k (step n)
def take (n:BitVec 32) (b:UInt8):BitVec 32:=steps 8 (n ^^^ b.toBitVec.setWidth 32)
def fold (n:BitVec 32) (l:List UInt8):BitVec 32:=l.foldl take n
def more (n:BitVec 32) (l:List UInt8):BitVec 32:= ~~~(fold (~~~n) l)
def of (l:List UInt8):BitVec 32:=more 0#32 l

theorem aD9 (n:Int) (agp:0≤n) (h₁:n<2 ^ 32):IntKind.u32.wrap n=n:=by rw [IntKind.wrap_u32];omega
theorem alF (a b c d:BitVec 32):a ^^^ b ^^^ (c ^^^ d)=a ^^^ c ^^^ (b ^^^ d):=by
 rw [aSg,aSg,← aSg b c d,BitVec.xor_comm b c,aSg c b d]
theorem spread (n:BitVec 32): -(n &&& 1#32)=if n.getLsbD 0 then BitVec.allOnes 32 else 0#32:=by
 have h:n &&& 1#32=if n.getLsbD 0 then 1#32 else 0#32:=by
  apply aTg;intro i ar;rw [aVS];cases i with
  | zero=>cases aF:n.getLsbD 0<;>simp
  | succ j=>cases aF:n.getLsbD 0<;>simp
 rw [h];split<;>decide
theorem step_eq (n:BitVec 32):step n=n >>> 1 ^^^ (if n.getLsbD 0 then 3988292384#32 else 0#32):=by
 unfold step;rw [spread];split<;>simp
theorem aB9 (a b:BitVec 32):step (a ^^^ b)=step a ^^^ step b:=by
 simp only [step_eq,BitVec.ushiftRight_xor_distrib,aTC];generalize (3988292384#32:BitVec 32)=c;have h:a >>> 1 ^^^ c ^^^ (b >>> 1 ^^^ c)=a >>> 1 ^^^ b >>> 1:=by rw [alF,aT6,aTb]
 cases a.getLsbD 0<;>cases b.getLsbD 0
 ·simp
 ·simp only [Bool.false_xor,aSk,aRr,aRZ,aTb];ac_rfl
 ·simp only [Bool.xor_false,aSk,aRr,aRZ,aTb];ac_rfl
 ·simp only [Bool.xor_true,aSP,aSk,aRr,aRZ,aTb,h]
theorem aCa:step 0#32=0#32:=by decide
theorem Q6 (k:Nat) (a b:BitVec 32):steps k (a ^^^ b)=steps k a ^^^ steps k b:=by
 induction k generalizing a b with
 | zero=>rfl
 | succ k bt=>simp only [steps,aB9,bt]
theorem aCe (k:Nat):steps k 0#32=0#32:=by
 induction k with
 | zero=>rfl
 | succ k bt=>simp only [steps,aCa,bt]
theorem HX (j k:Nat) (a:BitVec 32):steps (j+k) a=steps k (steps j a):=by
 induction j generalizing a with
 | zero=>rw [aRQ];rfl
 | succ j bt=>rw [aVt];simp only [steps,bt]
theorem aB8 (a:BitVec 32):(step a).getLsbD 31=a.getLsbD 0:=by
 rw [step_eq,aTC,aTD];cases h:a.getLsbD 0<;>simp
theorem aB7 {a:BitVec 32} (h:step a=0#32):a=0#32:=by
 have aF:a.getLsbD 0=false:=by rw [← aB8,h];simp
 rw [step_eq,aF] at h;simp at h;apply aTg;intro i ar;cases i with
 | zero=>rw [aF];simp
 | succ j =>
  have:=aRS (fun x:BitVec 32=>x.getLsbD j) h;simp only [aTD,BitVec.getLsbD_zero] at this;rw [aTW 1 j] at this;rw [this];simp
theorem aCd {k:Nat} {a:BitVec 32} (h:steps k a=0#32):a=0#32:=by
 induction k generalizing a with
 | zero=>exact h
 | succ k bt=>exact aB7 (bt h)
theorem aCp (a b:BitVec 32) (x y:UInt8):take (a ^^^ b) (x ^^^ y)=take a x ^^^ take b y:=by
 unfold take;rw [← Q6,UInt8.toBitVec_xor,BitVec.setWidth_xor,alF]
theorem take_zero (a b:BitVec 32) (x:UInt8):take (a ^^^ b) x=take a x ^^^ steps 8 b:=by
 unfold take;rw [← Q6,aSg,aSg,BitVec.xor_comm b]

theorem not_xor (a:BitVec 32): ~~~a=a ^^^ BitVec.allOnes 32:=by rw [aUz]
theorem ad2 (n:BitVec 32) (l m:List UInt8):fold n (l++m)=fold (fold n l) m:=by
 unfold fold;rw [aSD]
theorem asY (n:BitVec 32) (l:List UInt8) (b:UInt8):fold n (l++ [b])=take (fold n l) b:=by
 rw [ad2];rfl

theorem X' (m:BitVec 32):bits BinOp.xor IntKind.u32 (U m / 2) (bits BinOp.and IntKind.u32 3988292384 (-bits BinOp.and IntKind.u32 (U m) 1 % 4294967296))=U (step m):=by
 refine OU (N4 _ _ _) (N3 _ _ _) ?_;have γ:=aiO (n:=32) (U m) 1 (NP m) (by have:=anO m;omega);rw [Xh,aiK,azj,azm,aiK,vx];rw [show (U m / 2:Int)=U m / 2 ^ 1 by rfl,γ,vx];rfl
theorem awU (x y:Int) (aF:0≤y) (γ:y<256):bits BinOp.xor IntKind.u32 x y=U (BitVec.ofInt 32 x ^^^ (BitVec.ofInt 8 y).setWidth 32):=by
 refine OU (N4 _ _ _) (N3 _ _ _) ?_;rw [Xh];obtain ⟨m,rfl⟩:=aSH aF;congr 1;rw [aRN,aRN];apply aUe;simp only [aSw,aVB];omega
end Go.Proofs.YtlikikpgmmkjbaaGreat.eu
namespace Go.Proofs.YtlikikpgmmkjbaaGreat
open Tryz
end Go.Proofs.YtlikikpgmmkjbaaGreat
namespace Go.Proofs.YtlikikpgmmkjbaaGreat.eu
open Tryz
open Go.RowKit Go.Proofs.YtlikikpgmmkjbaaGreat.eV

theorem ajD {a b:Int} (h:a=b):Ending.returned (.int .u32 a)= .returned (.int .u32 b):=by rw [h]

theorem aCk (m:BitVec 32) (x y:Int) (aF:0≤x) (γ:x≤4294967295) (ab:0≤y) (aw:y≤255) (hm:m=BitVec.ofInt 32 x ^^^ (BitVec.ofInt 8 y).setWidth 32) (w:World):
  Calls prog 215 #[.int .u32 x, .int .u8 y] w fun e w'=>e= .returned (.int .u32 (U (steps 8 m)))∧w=w':=by
 have lS:=aQO (awU x y ab (by omega));rw [← hm] at lS;clear hm;go_enter func215,ntmps215;go_wp2
 go_loop [0,9] (fun x i=>∃ (k:Nat) (q:BitVec 32),k≤8∧i= .int .i64 k∧x= .int .u32 (U q)∧Hid (steps (8 - k) q=steps 8 m)) (fun _ i=>8 - (intOf i).toNat)
 case atStart=>exact ⟨0,m,by omega,rfl,by rw [lS.out],rfl⟩
 case round =>
  obtain ⟨k,q,av,rfl,rfl,I⟩:=hrel;by_cases bA:k<8
  ·go_wp2
   go_round
   case rel =>
    refine ⟨k+1,step q,by omega,by go_num,by rw [X'], ?_⟩;have h:=I.out;rw [show 8 - k=(8 - (k+1))+1 by omega] at h;exact h
   case measure=>simp [intOf];omega
  ·have afu:k=8:=by omega
   have h:=I.out;rw [afu] at h;clear I afu;have bT:=aQO h;clear h;go_wp2
   go_ret;exact ⟨ajD (by rw [← bT.out];rfl),Z⟩
theorem aCi (n:BitVec 32) (b:UInt8) (x y:Int) (hx:x=U n) (aK:y=(b.toNat:Int)) (w:World):
  Calls prog 215 #[.int .u32 x, .int .u8 y] w fun e w'=>e= .returned (.int .u32 (U (take n b)))∧w=w':=by
 subst hx aK;have Φ:=b.toNat_lt;refine aCk _ _ _ (NP _) (anN _) (by omega) (by omega) ?_ w;rw [vx];congr 2;rw [aRN];exact (aTf 8 b.toBitVec).trans (aTe _) |>.symm

theorem aiB (x:Int):bits BinOp.xor IntKind.u32 IntKind.u32.max x=U (~~~(BitVec.ofInt 32 x)):=by
 refine OU (N4 _ _ _) (N3 _ _ _) ?_;rw [Xh];exact BitVec.allOnes_xor

theorem aCo (s:ByteArray) (k:Nat) (h:k<s.size):s.data.toList.take (k+1)=s.data.toList.take k++ [s[k]]:=by
 rw [aRh (by simpa using h)];rfl
theorem W' (x:Int) (s:ByteArray) (aF:0≤x) (γ:x≤4294967295) (hs:s.size≤9223372036854775807) (w:World):
  Calls prog 189 #[.int .u32 x, .string s] w fun e w'=>e= .returned (.int .u32 (U (more (BitVec.ofInt 32 x) s.data.toList)))∧w=w':=by
 obtain ⟨n,kJ⟩:∃ n,Hid (n=BitVec.ofInt 32 x):=⟨_,rfl⟩;have ew:=aQO (aiB x);rw [← kJ.out] at ew;rw [← kJ.out];clear aF γ;go_enter func189,ntmps189;go_wp2
 go_loop [0,10] (fun x i=>∃ k:Nat,k≤s.size∧i= .int .i64 k∧x= .int .u32 (U (fold (~~~n) (s.data.toList.take k)))) (fun _ i=>s.size - (intOf i).toNat)
 case atStart=>exact ⟨0,aRE _,rfl,by rw [ew.out];rfl⟩
 case round =>
  obtain ⟨k,av,rfl,rfl⟩:=hrel;by_cases bA:k<s.size
  ·go_wp2_with (go_at_call 215;refine (aCi _ s[k] _ _ rfl rfl _).mono ?_;rintro e w' ⟨rfl,rfl⟩)
   go_round
   case rel =>
    refine ⟨k+1,by omega,by go_num, ?_⟩;rw [aCo s k bA,asY]
   case measure=>simp [intOf];omega
  ·go_wp2
   go_ret;have avc:k=s.size:=by omega
   exact ⟨ajD (by rw [aiB,vx,avc,aRb (by simp)];rfl),Z⟩
theorem Xf (s:ByteArray) (hs:s.size≤9223372036854775807) (w:World):
  Calls prog 154 #[.string s] w fun e w'=>e= .returned (.int .u32 (U (of s.data.toList)))∧w=w':=by
 go_enter func154,ntmps154;go_wp2_with (go_at_call 189;refine (W' _ s (by decide) (by decide) hs _).mono ?_;rintro e w' ⟨rfl,rfl⟩)
 go_ret;exact ⟨Z,Z⟩

end Go.Proofs.YtlikikpgmmkjbaaGreat.eu
namespace Go.Proofs.YtlikikpgmmkjbaaGreat
open Tryz
end Go.Proofs.YtlikikpgmmkjbaaGreat
