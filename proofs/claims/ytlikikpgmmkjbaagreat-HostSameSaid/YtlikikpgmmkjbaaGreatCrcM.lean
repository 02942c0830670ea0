import Derived.Test.YtlikikpgmmkjbaaGreatSvO
set_option linter.unusedVariables false
set_option linter.unusedSimpArgs false
set_option maxRecDepth 100000
set_option maxHeartbeats 4000000
open Go.RowKit
namespace Go.Proofs.YtlikikpgmmkjbaaGreat
open Tryz
section
theorem aoY:eN prog bQ 22 3 8:=eN.k_ (z:= .int .i64 0) (k:=1) underlying22 CY rfl rfl (by decide) (λ j u h=>Ix j u h)
theorem TM:eN prog qb 38 41 8:=eN.k_ (z:= .int .u64 0) (k:=1) underlying38 ahx rfl rfl (by decide) (λ j u h=>akF j u h)
open Go.Proofs.YtlikikpgmmkjbaaGreat.fy
theorem HW (l:List Int) (A:Option Addr) (c:Nat) (w:World) (aB:bQ.aJ 8 w A c l):
  Calls prog 57 #[.slice A l.length c] w (λ e w'=>e= .returned (.int .u64 (U (qL l)))∧Ext w w'):=by
 refine cd (n:=12) func57 Z Z Z ?_;refine aj<|va Z<|ai<|aj<|vm Z<|ca aes Z Z ((aA1 l _ _ _ (aB.keep (Ext.bI w))).mono ?_);rintro e kv ⟨⟨aLD,rfl⟩,a7⟩;refine ⟨_,Z, ?_⟩;have:=a7.size;have cW:=γ (Ext.bI w) a7;refine vm Z<|J (ex Z Z)<|J (ex Z Z)<|va Z<|va Z<|ai<|aj<|vm Z<|ca asN Z Z ((ay5 (Ip l) (aA0 _) _).mono ?_);rintro e aE0 ⟨rfl,amN⟩;refine ⟨_,Z, ?_⟩;have:=amN.size;have Ge:=γ cW amN;refine va Z<|ai<|rt<|a8 (.tmp Z .nil)<| ?_;exact ⟨Z,Ge⟩
theorem azM (a:ah.bZ) (W:ah) (w:World) (bN:ah.Has w a W) (hc:W.bp≠0):
  Calls prog 20 #[.agg ((ah.cells a W).toArray)] w (λ e w'=>e= .returned (.tuple #[.int .u64 (U (r4 W)), .int .i64 W.bp])∧Ext w w'):=by
 have XA:(W.bp != 0)=true:=by simpa using hc
 refine cd (n:=107) func20 Z Z Z ?_;refine aj<|cw Z Z Z Z λ cI bJ a7 dY ab=> ?_;have:=a7.size;have bk:=γ (Ext.bI w) a7;have ed:=ab.lt;refine va Z<|va Z<|ai<|az<|aj<|J (ak Z (ab.all cL bU))<|ca G_ Z Z ((Ch a W _ (bN.keep bk)).mono ?_);rintro e er ⟨rfl,cD⟩;refine ⟨_,Z, ?_⟩;have:=cD.size;have bK:=γ bk cD;refine va Z<|ai<|aj<|vm Z<|J (bne Z Z)<|ai<|fB (gN Z XA)<|aj<|vm Z<|va Z<|va Z<|ai<|rt<|bO<|a8 (.tmp Z (.tmp Z .nil))<| ?_;exact ⟨by unfold r4;rw [aR0 hc];rfl,bK⟩
theorem azN (a:ah.bZ) (W:ah) (w:World) (bN:ah.Has w a W) (hc:W.bp=0):
  Calls prog 20 #[.agg ((ah.cells a W).toArray)] w (λ e w'=>e= .returned (.tuple #[.int .u64 (U (r4 W)), .int .i64 W.bp])∧Ext w w'):=by
 have XA:(W.bp != 0)=false:=by simpa using hc
 have bB:=Good.A8 hc;have aJ5:=bB.kr;have aJ6:=bB.eg;have aJ7:=bB.sl;have aJ4:=bB.xI;have aJ0:=aD.dU bB.field;obtain ⟨Fy,uA,p8,r5⟩:=bN.nums;have XH:=bN.B.dU;have ai0:=bN.M.dU;have uj:=bN.T.dU;refine cd (n:=107) func20 Z Z Z ?_;refine aj<|cw Z Z Z Z λ cI bJ a7 dY ab=> ?_;have:=a7.size;have bk:=γ (Ext.bI w) a7;have ed:=ab.lt;refine va Z<|va Z<|ai<|az<|aj<|J (ak Z (ab.all cL bU))<|ca G_ Z Z ((Ch a W _ (bN.keep bk)).mono ?_);rintro e er ⟨rfl,cD⟩;refine ⟨_,Z, ?_⟩;have:=cD.size;have bK:=γ bk cD;refine va Z<|ai<|aj<|vm Z<|J (bne Z Z)<|ai<|hM (gN Z XA)<|bt<|aj<|J (au qy Z)<|J (au Kp Z)<| ?_;have ab:=ab.later cD;refine J (ak Z (ab.one ba Z))<|J (au qy Z)<|J (au UL Z)<|J (ak Z (ab.one ba Z))<|J (au EB Z)<|J (ak Z (ab.one ba Z))<|J (au ED Z)<|J (ak Z (ab.one ba Z))<|cV (e:= 3) (cs:= [.int .i64 1, .int .i64 W.field.wide, .int .i64 W.field.high, .int .i64 W.next, .int .i64 W.now]) Z (λ _=>by kernel_rfl) Z λ wg yz dm Ma fY=> ?_;have:=dm.size;have kB:=γ bK dm;have Rx:=fY.lt;refine J (au qy Z)<|J (au xf Z)<| ?_;have ab:=ab.later dm;refine J (ak Z (ab.one fQ Z))<| ?_;have JX:=aP.vY (R:=bQ) (by_:=8) (B:=w.heap.size) (k:= [1,W.field.wide,W.field.high,W.next,W.now]) fY [[.int .i64 1], [.int .i64 W.field.wide], [.int .i64 W.field.high], [.int .i64 W.next], [.int .i64 W.now]] rfl (⟨⟨rfl,bG.2 (by decide)⟩,⟨⟨rfl,Fy⟩,⟨⟨rfl,uA⟩,⟨⟨rfl,p8⟩,⟨⟨rfl,r5⟩,trivial⟩⟩⟩⟩⟩) (by simp) (by simp) (by decide) (by omega);have alU:=λ q I=>(JX.lt q I).2;have Q3:∀ q∈τ.ag (some ⟨yz,0,none⟩),yz≤q:=λ q I=>aTu (aRP.1 I).symm;refine ap aoY τ.dt JX (bN.P.keep kB) Z Z (by simp only [aRW,aR2];omega) (by simp only [aRW,aR2];omega) kB.size Z λ zz DR Uo lB tK Hk aAb=> ?_;have:=lB.size;have kC:=Ext.mod kB lB (λ q I=>(JX.lt q I).1);have R7:=λ q I=>(tK.lt q I).2;have:=lB.size;refine ca Pt Z Z ((HW ([1,W.field.wide,W.field.high,W.next,W.now]++W.field.aS) _ _ _ tK.has).mono ?_);rintro e uL ⟨rfl,df⟩;refine ⟨_,Z, ?_⟩;have:=df.size;have jl:=γ kC df;refine cV (e:= 41) (cs:= [.int .u64 (U (qL ([1,W.field.wide,W.field.high,W.next,W.now]++W.field.aS)))]) Z (λ _=>by kernel_rfl) Z λ FU T5 jU aMB aaP=> ?_;have:=jU.size;have q4:=γ jl jU;have aO7:=aaP.lt;refine va Z<|ai<|az<|aj<|J (au rC Z)<| ?_;have arj:∀ q∈τ.ag (some ⟨yz,0,none⟩),q=bJ→False:=λ q I Φ=>by (have:=Q3 q I;omega)
 have ab:=ab.mod lB (λ I=>arj _ I rfl);have ab:=ab.later (γ df jU);refine J (ak Z (ab.one vy Z))<|J (cm underlying25 Z)<|vm Z<|ai<|bS<| ?_;have JP:=aP.vY (R:=qb) (by_:=8) (B:=w.heap.size) (k:= [Rf W]) aaP [[.int .u64 (U (Rf W))]] rfl (⟨⟨rfl,trivial⟩,trivial⟩) (by simp) (by simp) (by decide) (by omega);have xh:∀ q∈τ.ag (some ⟨T5,0,none⟩),q=T5:=λ q I=>aRP.1 I;refine fk (λ cn cl a1=>∃ ec:Nat,∃ Ec:List (BitVec 64),∃ Gr:Option Addr,∃ O2:Nat,cl= [(1, .pointer (some ⟨bJ,0,none⟩)),(2, .int .u64 0),(3, .int .i64 0),(5, .slice Gr Ec.length O2),(35, .slice a.B W.aU.length a.b),(36, .int .i64 (W.aU.length:Int)),(37, .int .i64 (ec:Int))]∧cn=W.aU.length - ec∧Ext w a1∧aP a1 bJ (ah.cells a W) 28 (0,0)∧qb.aF 41 8 a1 w.heap.size (τ.ag Gr) Gr O2 Ec∧(ec≤W.aU.length)∧(Ec=A4 W ec)∧(∀ q∈τ.ag Gr,q=bJ→False)) _ _ ⟨0, [Rf W],some ⟨T5,0,none⟩,1,Z,Z,q4,ab,JP,by omega,rfl,(λ q I Φ=>by (have:=xh q I;omega))⟩ (.cons Z (.cons Z (.cons Z (.cons Z (.cons Z (.cons Z (.cons (b2 Z (by first | omega | rfl | (simp<;>omega))) .nil))))))) ?_;rintro l1 aHj wk ⟨ec,Ec,Gr,O2,rfl,rfl,jm,ab,yl,pW,V0,G1⟩;have:=jm.size;have aPb:=ab.lt;have R9:=λ q I=>(yl.lt q I).2;refine aj<|J (blt Z Z)<|ai<|az<| ?_;refine en Z (λ avn=> ?_) (λ avn=> ?_)
 ·obtain ⟨c,mL⟩:∃ c,W.aU.getD ec default=c:=⟨_,rfl⟩;obtain ⟨kt,Xb⟩:∃ kt,W.bh.getD ec 0=kt:=⟨_,rfl⟩;have ajW:c.ok:=ax.mF bN.B c (by rw [← mL];exact jd (by omega));have Yo:fN kt:=Iz bN.S kt (by rw [← Xb];exact jd (by omega));have awM:Re W ec=qL [2,(ec:Int),c.x,c.y,kt]:=by unfold Re;rw [mL,Xb]
  have afD:Ec.length=ec+1:=by rw [V0,X9]
  refine bt<|az<|bS<|aj<|vm Z<|J (b_ ec underlying25 bT Z Z ((bN.B.keep jm).bP (bb ec)) Z (by omega))<|J (ak Z (τ.aJ.hq xp ((bN.B.keep jm).cB (bb ec)) (show W.aU[ec]? =some c by rw [← mL];exact dn (u:=default) (by omega)) cg bT))<|al Z xe Z Z λ Bp u' iB XJ wG=> ?_;have:=iB.size;have lN:=γ jm iB;have Iv:=wG.lt;refine va Z<|st (new:= [.int .i64 c.x, .int .i64 c.y]) Z Z wG Z bT Z Z Z λ qd k9 wG=> ?_;have:=k9.size;have hI:=Ext.mod lN k9 bs;refine ai<| ?_;refine rd [(3,0),(5,0),(7,0),(10,0),(11,2),(12,0),(13,2),(14,3)] [0,1,2,3,4,5,6,7,8,9,10,11,12,13,14,15] (by kernel_rfl) (by kernel_rfl) ?_;refine aq Z (λ _=>aH Z)<|aq Z (λ _=>aH Z)<|aq Z (λ _=>au iJ Z)<|bA Z (λ _ x=>ak Z ((wG.later x).one ba Z))<|aq Z (λ _=>au iK Z)<|bA Z (λ _ x=>ak Z ((wG.later x).one ba Z))<|aq Z (λ _=>au tZ Z)<| ?_;have ab:=ab.later iB;have ab:=ab.mod k9 aN;refine bA Z (λ _ x=>ak Z ((ab.later x).one fQ Z))<|aq Z (λ _=>aH Z)<|aq Z (λ _=>b_ ec underlying22 dr Z Z ((bN.S.keep hI).bP (bb ec)) Z (by omega))<|bA Z (λ _ x=>ak Z (τ.aJ.fX gx ((bN.S.keep (γ hI x)).cB (bb ec)) (show W.bh[ec]? =some kt by rw [← Xb];exact dn (u:=0) (by omega)) Z ba))<|e8 Z Z Z λ Ng tl Q hK=>cV (e:= 3) (cs:= [.int .i64 2, .int .i64 (ec:Int), .int .i64 c.x, .int .i64 c.y, .int .i64 kt]) Z (λ _=>by kernel_rfl) Z λ IY acA jV ajb nc=>hK _ _ ⟨γ tl jV, ?_⟩;have:=tl.size;have sq:=γ hI tl;have:=jV.size;have pd:=γ sq jV;have akA:=nc.lt;refine pN Z Z Pt Z (λ _ x=>HW ([2,(ec:Int),c.x,c.y,kt]) _ _ _ ((aP.K0 (R:=bQ) (by_:=8) (k:= [2,(ec:Int),c.x,c.y,kt]) nc [[.int .i64 2], [.int .i64 (ec:Int)], [.int .i64 c.x], [.int .i64 c.y], [.int .i64 kt]] Z (⟨⟨Z,bG.2 (by decide)⟩,⟨⟨Z,bG.2 (by omega)⟩,⟨⟨Z,ajW.1⟩,⟨⟨Z,ajW.2⟩,⟨⟨Z,Yo⟩,trivial⟩⟩⟩⟩⟩) (by simp) (by simp)).keep x)) Z<|e8 Z Z Z λ ZC iC Q hK=>cV (e:= 41) (cs:= [.int .u64 (U (qL ([2,(ec:Int),c.x,c.y,kt])))]) Z (λ _=>by kernel_rfl) Z λ Nj aIG gJ aMS aaV=>hK _ _ ⟨γ iC gJ, ?_⟩;have:=iC.size;have BB:=γ pd iC;have:=gJ.size;have uY:=γ BB gJ;have aB3:=aaV.lt;have yl:=yl.later iB;have yl:=yl.mod k9 (bD R9);have yl:=yl.later (γ tl (γ jV (γ iC gJ)));refine eo Z Z Z λ ZG hW Q hK=>ap TM τ.dt (yl.later hW) ((aP.gC (R:=qb) (by_:=8) (q:=(qL ([2,(ec:Int),c.x,c.y,kt]))) aaV ⟨Z,trivial⟩ (by decide)).keep hW) Z Z (by simp only [aRW,aR2];omega) (by simp only [aRW,aR2];omega) (by have:=hW.size;omega) Z λ I2 anj aqp vU Ou auv aN8=>hK _ _ ?_;have:=hW.size;have u0:=γ uY hW;have:=vU.size;have pe:=Ext.mod u0 vU (λ q I=>aSn (by omega) ((yl.later hW).lt q I).1);have aQE:=λ q I=>(Ou.lt q I).2;have:=vU.size;refine aq Z (λ _=>ew Z)<|fn λ F1 ih=> ?_;have:=ih.size;have q6:=γ pe ih;refine bY<|aV<|rg<|J (bad Z Z (bH (by omega)))<|vm Z<|nl<| ?_;have ab:=ab.later (γ tl (γ jV (γ iC (γ gJ hW))));have ab:=ab.mod vU (λ I=>G1 _ I rfl);have ab:=ab.later ih;have Ou:=Ou.later ih;exact c' _ _ ⟨ec+1,Ec++ [(qL ([2,(ec:Int),c.x,c.y,kt]))],anj,aqp,Z,Z,q6,ab,Ou,by omega,by rw [azO,V0,awM],(λ q I Φ=>by (exact aR4 (auv q I) (λ aiS=>by (exact G1 q aiS Φ)) (λ aiS=>by omega)))⟩ (by omega) (.cons Z (.cons Z (.cons Z (.cons Z (.cons Z (.cons Z (.cons (b2 Z (by first | omega | rfl | (simp<;>omega))) .nil)))))))
 ·refine dK<|dJ<|ei<|dI<|aV<|az<|aj<|J (au yN Z)<|J (ak Z (ab.one fQ Z))<|J (cm underlying22 Z)<|vm Z<|ai<|bS<| ?_;refine fk (λ cn cl a1=>∃ eD:Nat,∃ BU:List (BitVec 64),∃ jY:Option Addr,∃ tQ:Nat,cl= [(1, .pointer (some ⟨bJ,0,none⟩)),(2, .int .u64 0),(3, .int .i64 0),(5, .slice jY BU.length tQ),(59, .slice a.M W.br.length a.m),(60, .int .i64 (W.br.length:Int)),(61, .int .i64 (eD:Int))]∧cn=W.br.length - eD∧Ext w a1∧aP a1 bJ (ah.cells a W) 28 (0,0)∧qb.aF 41 8 a1 w.heap.size (τ.ag jY) jY tQ BU∧(eD≤W.br.length)∧(BU=A4 W W.aU.length++A5 W eD)∧(∀ q∈τ.ag jY,q=bJ→False)) _ _ ⟨0,Ec,Gr,O2,Z,Z,jm,ab,yl,by omega,by rw [A5,aSu,V0,show ec=W.aU.length by omega],(λ q I Φ=>by (exact G1 q I Φ))⟩ (.cons Z (.cons Z (.cons Z (.cons Z (.cons Z (.cons Z (.cons (b2 Z (by first | omega | rfl | (simp<;>omega))) .nil))))))) ?_;rintro xE aG2 Nl ⟨eD,BU,jY,tQ,rfl,rfl,q7,ab,ik,gl,P4,G5⟩;have:=q7.size;have aks:=ab.lt;have aP6:=λ q I=>(ik.lt q I).2;refine aj<|J (blt Z Z)<|ai<|az<| ?_;refine en Z (λ au5=> ?_) (λ au5=> ?_)
  ·obtain ⟨oc,Qx⟩:∃ oc,W.br.getD eD 0=oc:=⟨_,rfl⟩;have Yo:fN oc:=Iz bN.M oc (by rw [← Qx];exact jd (by omega));have afD:BU.length≤W.aU.length+1+eD:=by rw [P4,aRX,X9];have:=Yb W eD;omega
   refine bt<|az<|bS<|aj<|vm Z<|J (b_ eD underlying22 dr Z Z ((bN.M.keep q7).bP (bb eD)) Z (by omega))<|J (ak Z (τ.aJ.fX gx ((bN.M.keep q7).cB (bb eD)) (show W.br[eD]? =some oc by rw [← Qx];exact dn (u:=0) (by omega)) Z ba))<|va Z<|va Z<|ai<|aj<|vm Z<|J (bne Z Z)<|ai<| ?_;refine ey Z (λ EP=> ?_) (λ EP=> ?_)
   ·have E4:oc≠0:=by simpa using EP
    refine rg<|vm Z<|vm Z<|vm Z<|cV (e:= 3) (cs:= [.int .i64 3, .int .i64 (eD:Int), .int .i64 oc]) Z (λ _=>by kernel_rfl) Z λ Sm apq jT ayJ Jn=> ?_;have:=jT.size;have zD:=γ q7 jT;have aBI:=Jn.lt;refine ca Pt Z Z ((HW ([3,(eD:Int),oc]) _ _ _ (aP.K0 (R:=bQ) (by_:=8) (k:= [3,(eD:Int),oc]) Jn [[.int .i64 3], [.int .i64 (eD:Int)], [.int .i64 oc]] Z (⟨⟨Z,bG.2 (by decide)⟩,⟨⟨Z,bG.2 (by omega)⟩,⟨⟨Z,Yo⟩,trivial⟩⟩⟩) (by simp) (by simp))).mono ?_);rintro e ame ⟨rfl,SG⟩;refine ⟨_,Z, ?_⟩;have:=SG.size;have Nw:=γ zD SG;refine cV (e:= 41) (cs:= [.int .u64 (U (qL ([3,(eD:Int),oc])))]) Z (λ _=>by kernel_rfl) Z λ aEH aH8 SI aMb aaA=> ?_;have:=SI.size;have ZW:=γ Nw SI;have aBJ:=aaA.lt;have ik:=ik.later (γ jT (γ SG SI));refine ap TM τ.dt ik (aP.gC (R:=qb) (by_:=8) (q:=(qL ([3,(eD:Int),oc]))) aaA ⟨Z,trivial⟩ (by decide)) Z Z (by simp only [aRW,aR2];omega) (by simp only [aRW,aR2];omega) (by omega) Z λ aEK am5 aqc Q9 abO auq aNH=> ?_;have:=Q9.size;have SP:=Ext.mod ZW Q9 (λ q I=>aSn (by omega) (ik.lt q I).1);have aQb:=λ q I=>(abO.lt q I).2;have:=Q9.size;refine va Z<|nl<|bY<|aV<|rg<|J (bad Z Z (bH (by omega)))<|vm Z<|nl<| ?_;have ab:=ab.later (γ jT (γ SG SI));have ab:=ab.mod Q9 (λ I=>G5 _ I rfl);exact c' _ _ ⟨eD+1,BU++ [(qL ([3,(eD:Int),oc]))],am5,aqc,Z,Z,SP,ab,abO,by omega,by rw [P4,A5,Qx,aR0 E4];simp,(λ q I Φ=>by (exact aR4 (auq q I) (λ LX=>by (exact G5 q LX Φ)) (λ LX=>by omega)))⟩ (by omega) (.cons Z (.cons Z (.cons Z (.cons Z (.cons Z (.cons Z (.cons (b2 Z (by first | omega | rfl | (simp<;>omega))) .nil)))))))
   ·have E4:oc=0:=by simpa using EP
    refine fo<|bY<|aV<|rg<|J (bad Z Z (bH (by omega)))<|vm Z<|nl<| ?_;exact c' _ _ ⟨eD+1,BU,jY,tQ,Z,Z,q7,ab,ik,by omega,by rw [P4,A5,Qx,aR5 E4];simp,(λ q I Φ=>by (exact G5 q I Φ))⟩ (by omega) (.cons Z (.cons Z (.cons Z (.cons Z (.cons Z (.cons Z (.cons (b2 Z (by first | omega | rfl | (simp<;>omega))) .nil)))))))
  ·refine dK<|dJ<|ei<|dI<|aV<|az<|aj<|J (au j5 Z)<|J (ak Z (ab.one lT Z))<|J (cm underlying26 Z)<|vm Z<|ai<|bS<| ?_;refine fk (λ cn cl a1=>∃ kP:Nat,∃ Ed:List (BitVec 64),∃ NP:Option Addr,∃ Uk:Nat,cl= [(2, .int .u64 0),(3, .int .i64 0),(5, .slice NP Ed.length Uk),(77, .slice a.T W.ao.length a.t),(78, .int .i64 (W.ao.length:Int)),(79, .int .i64 (kP:Int))]∧cn=W.ao.length - kP∧Ext w a1∧qb.aF 41 8 a1 w.heap.size (τ.ag NP) NP Uk Ed∧(kP≤W.ao.length)∧(Ed=A4 W W.aU.length++A5 W W.br.length++(W.ao.take kP).map Mw)) _ _ ⟨0,BU,jY,tQ,Z,Z,q7,ik,by omega,by rw [P4,show eD=W.br.length by omega];simp⟩ (.cons Z (.cons Z (.cons Z (.cons Z (.cons Z (.cons (b2 Z (by first | omega | rfl | (simp<;>omega))) .nil)))))) ?_;rintro aNl aG8 amh ⟨kP,Ed,NP,Uk,rfl,rfl,Bz,ym,WN,V1⟩;have:=Bz.size;have alS:=λ q I=>(ym.lt q I).2;refine aj<|J (blt Z Z)<|ai<|az<| ?_;refine en Z (λ avd=> ?_) (λ avd=> ?_)
   ·obtain ⟨t,E_⟩:∃ t,W.ao.getD kP default=t:=⟨_,rfl⟩;obtain ⟨o4,l2,nI,od,p_,Ii,My⟩:fN t.id∧fN t.owner∧fN t.kind∧fN t.spot.x∧fN t.spot.y∧fN t.c7∧fN t.load:=bf.mF bN.T t (by rw [← E_];exact jd (by omega));have afD:Ed.length≤W.aU.length+1+W.br.length+kP:=by rw [V1,aRX,aRX,X9,aSp,aRU];have:=Yb W W.br.length;omega
    refine bt<|az<|bS<|aj<|J (b_ kP underlying26 kk Z Z ((bN.T.keep Bz).bP (bb kP)) Z (by omega))<|J (ak Z (τ.aJ.hq jD ((bN.T.keep Bz).cB (bb kP)) (show W.ao[kP]? =some t by rw [← E_];exact dn (u:=default) (by omega)) yM kk))<|al Z Kq Z Z λ aEO aIg F8 aMk yd=> ?_;have:=F8.size;have Z0:=γ Bz F8;have aOO:=yd.lt;refine st (new:= [.int .i64 t.id, .int .i64 t.owner, .int .i64 t.kind, .int .i64 t.spot.x, .int .i64 t.spot.y, .int .i64 t.c7, .int .i64 t.load]) Z Z yd Z kk Z Z Z λ amj AZ yd=> ?_;have:=AZ.size;have Jj:=Ext.mod Z0 AZ bs;refine ai<|rg<|vm Z<|J (au G' Z)<|J (ak Z (yd.one ba Z))<|J (au EH Z)<|J (ak Z (yd.one ba Z))<|J (au PC Z)<|J (ak Z (yd.one ba Z))<|J (au tY Z)<|J (au iJ Z)<|J (ak Z (yd.one ba Z))<|J (au tY Z)<|J (au iK Z)<|J (ak Z (yd.one ba Z))<|J (au PG Z)<|J (ak Z (yd.one ba Z))<|J (au Ap Z)<|J (ak Z (yd.one ba Z))<|cV (e:= 3) (cs:= [.int .i64 4, .int .i64 t.id, .int .i64 t.owner, .int .i64 t.kind, .int .i64 t.spot.x, .int .i64 t.spot.y, .int .i64 t.c7, .int .i64 t.load]) Z (λ _=>by kernel_rfl) Z λ amk aps lL ayL Jo=> ?_;have:=lL.size;have Nz:=γ Jj lL;have aBL:=Jo.lt;refine ca Pt Z Z ((HW ([4,t.id,t.owner,t.kind,t.spot.x,t.spot.y,t.c7,t.load]) _ _ _ (aP.K0 (R:=bQ) (by_:=8) (k:= [4,t.id,t.owner,t.kind,t.spot.x,t.spot.y,t.c7,t.load]) Jo [[.int .i64 4], [.int .i64 t.id], [.int .i64 t.owner], [.int .i64 t.kind], [.int .i64 t.spot.x], [.int .i64 t.spot.y], [.int .i64 t.c7], [.int .i64 t.load]] Z (⟨⟨Z,bG.2 (by decide)⟩,⟨⟨Z,o4⟩,⟨⟨Z,l2⟩,⟨⟨Z,nI⟩,⟨⟨Z,od⟩,⟨⟨Z,p_⟩,⟨⟨Z,Ii⟩,⟨⟨Z,My⟩,trivial⟩⟩⟩⟩⟩⟩⟩⟩) (by simp) (by simp))).mono ?_);rintro e aET ⟨rfl,ZP⟩;refine ⟨_,Z, ?_⟩;have:=ZP.size;have Z5:=γ Nz ZP;refine cV (e:= 41) (cs:= [.int .u64 (U (qL ([4,t.id,t.owner,t.kind,t.spot.x,t.spot.y,t.c7,t.load])))]) Z (λ _=>by kernel_rfl) Z λ aQ9 aIk sf aMp aaJ=> ?_;have:=sf.size;have aF1:=γ Z5 sf;have aOT:=aaJ.lt;have ym:=ym.later F8;have ym:=ym.mod AZ (bD alS);have ym:=ym.later (γ lL (γ ZP sf));refine ap TM τ.dt ym (aP.gC (R:=qb) (by_:=8) (q:=(qL ([4,t.id,t.owner,t.kind,t.spot.x,t.spot.y,t.c7,t.load]))) aaJ ⟨Z,trivial⟩ (by decide)) Z Z (by simp only [aRW,aR2];omega) (by simp only [aRW,aR2];omega) (by omega) Z λ aEV ana aqh X2 abU aJ1 aNR=> ?_;have:=X2.size;have Z8:=Ext.mod aF1 X2 (λ q I=>aSn (by omega) (ym.lt q I).1);have aQi:=λ q I=>(abU.lt q I).2;have:=X2.size;refine va Z<|nl<|bY<|aV<|rg<|J (bad Z Z (bH (by omega)))<|vm Z<|nl<| ?_;exact c' _ _ ⟨kP+1,Ed++ [(qL ([4,t.id,t.owner,t.kind,t.spot.x,t.spot.y,t.c7,t.load]))],ana,aqh,Z,Z,Z8,abU,by omega,by rw [V1,azZ (by omega) E_,aSw];rfl⟩ (by omega) (.cons Z (.cons Z (.cons Z (.cons Z (.cons Z (.cons (b2 Z (by first | omega | rfl | (simp<;>omega))) .nil))))))
   ·refine dK<|dJ<|ei<|dI<|aV<|aj<|vm Z<|ca asO Z Z ((aAC Ed _ _ _ ym.has).mono ?_);rintro e aRg ⟨rfl,amK⟩;refine ⟨_,Z, ?_⟩;have:=amK.size;have aF8:=γ Bz amK;refine va Z<|va Z<|ai<|rt<|a8 (.tmp Z (.tmp Z .nil))<| ?_;exact ⟨by unfold r4;rw [aR5 hc,hc,V1,show kP=W.ao.length by omega,aSA];rfl,aF8⟩
theorem ajy (a:ah.bZ) (W:ah) (w:World) (bN:ah.Has w a W):Calls prog 20 #[.agg (ah.cells a W).toArray] w (λ e w'=>e= .returned (.tuple #[.int .u64 (U (r4 W)), .int .i64 W.bp])∧Ext w w'):=by
 by_cases hc:W.bp=0
 ·exact azN a W w bN hc
 ·exact azM a W w bN hc
end
section
theorem aoX:eN prog qb 38 41 8:=eN.k_ (z:= .int .u64 0) (k:=1) underlying38 ahx rfl rfl (by decide) (λ j u h=>akF j u h)
open Go.Proofs.YtlikikpgmmkjbaaGreat.fy
theorem FH (a:ah.bZ) (W:ah) (A:Option Addr) (c:Nat) (T:List gL) (L:List (List aL)) (w:World) (bN:ah.Has w a W) (b6:o7.aJ 24 w A c T) (lx:nk w T L):
  Calls prog 47 #[.agg ((ah.cells a W).toArray), .slice A T.length c] w (λ e w'=>∃ e' a' V bM b8 ms,e= .returned (.tuple #[.agg (ah.cells a' V).toArray, .slice bM (ms:List (BitVec 64)).length b8, .int .i64 e'])∧B6 W L e' V ms∧bq w' w.heap.size a' V∧qb.aF 41 8 w' w.heap.size (τ.ag bM) bM b8 ms∧(∀ q,q∈τ.ag bM→q∈bq.b1 a'→False)∧Ext w w'):=by
 refine cd (n:=64) func47 Z Z Z ?_;refine aj<|cw Z Z Z Z λ cI bJ a7 dY ab=> ?_;have:=a7.size;have bk:=γ (Ext.bI w) a7;have ed:=ab.lt;refine al Z kK Z Z λ er cu bj ht ae=> ?_;have:=bj.size;have bK:=γ bk bj;have hk:=ae.lt;refine va Z<|va Z<|ai<|az<|aj<|vm Z<|J (cm underlying29 Z)<|J (h0 Z Z)<|ai<| ?_;refine en Z (λ ir=> ?_) (λ ir=> ?_)
 ·refine aj<|J (v:= .agg #[.int .i64 0, .int .i64 0, .slice none 0 0, .slice none 0 0, .slice none 0 0, .slice none 0 0, .slice none 0 0, .int .i64 0, .int .i64 0]) (cE Z (by kernel_rfl))<|st (new:= [.int .i64 0, .int .i64 0, .slice none 0 0, .slice none 0 0, .slice none 0 0, .slice none 0 0, .slice none 0 0, .int .i64 0, .int .i64 0]) Z Z ae Z bU Z Z Z λ wh p3 ae=> ?_;have:=p3.size;have jk:=Ext.mod bK p3 bs;refine va Z<|va Z<|ai<|rt<|bO<|a8 (.cell Z (ae.all cL bU) (.tmp Z (.tmp Z .nil)))<| ?_;exact ⟨2,⟨none,none,none,none,none,0,0,0,0,0⟩,ah.zero,none,0, [],Z, .inr ⟨by decide, .inl (by rw [← lx.1];omega),rfl,rfl⟩,bq.zero _ _,τ.aF.nil _,λ q I=>by simp [τ.ag] at I,jk⟩
 ·have auZ:L.length≤200:=by rw [← lx.1];omega
  refine bt<|aj<| ?_;have ab:=ab.later bj;refine J (ak Z (ab.all cL bU))<|ca aer Z Z ((alu ([]:List di) _ _ a W _ (bN.keep bK) (τ.aJ.nil _)).mono ?_);rintro e sb ⟨a20,Jl,apY,rfl,sy,abu,K8,cx⟩;refine ⟨_,Z, ?_⟩;have:=cx.size;have iR:=γ bK cx;have alV:=λ q I=>(sy.lt q I).2;have Fg:=λ q I=>(sy.lt q I).1;have FO:=λ q I=>(abu.lt q I).2;have Me:=λ q I=>(abu.lt q I).1;have art:∀ q∈τ.ag Jl,q∈bq.b1 a20→False:=K8;have ase:∀ q∈bq.b1 a20,q∈τ.ag Jl→False:=λ q κ aa=>K8 q aa κ;refine vm Z<|J (ex Z Z)<|J (ex Z Z)<|J (ex Z Z)<| ?_;have ab:=ab.later cx;refine st Z Z ab Z bU Z Z Z λ Bm oa ab=> ?_;have:=oa.size;have lj:=Ext.mod iR oa bs;refine va Z<|va Z<|ai<|az<|aj<|vm Z<|J (bne Z Z)<|ai<| ?_;refine ey Z (λ n7=> ?_) (λ n7=> ?_)
  ·have AJ:W.bp≠0:=λ bd=>n7 (Ub bd (by simp));refine aj<|J (v:= .agg #[.int .i64 0, .int .i64 0, .slice none 0 0, .slice none 0 0, .slice none 0 0, .slice none 0 0, .slice none 0 0, .int .i64 0, .int .i64 0]) (cE Z (by kernel_rfl))<|vm Z<| ?_;have ae:=ae.later cx;have ae:=ae.mod oa aN;refine st (new:= [.int .i64 0, .int .i64 0, .slice none 0 0, .slice none 0 0, .slice none 0 0, .slice none 0 0, .slice none 0 0, .int .i64 0, .int .i64 0]) Z Z ae Z bU Z Z Z λ FT A0 ae=> ?_;have:=A0.size;have uU:=Ext.mod lj A0 bs;refine va Z<|va Z<|ai<|rt<|bO<|a8 (.cell Z (ae.all cL bU) (.tmp Z (.tmp Z .nil)))<| ?_;exact ⟨mh W ([]:List di),⟨none,none,none,none,none,0,0,0,0,0⟩,ah.zero,none,0, [],Z, .inr ⟨n7, .inr (.inl AJ),Z,Z⟩,bq.zero _ _,τ.aF.nil _,λ q I=>by simp [τ.ag] at I,uU⟩
  ·have mL:W.bp=0:=(OT (by first | exact n7 | simpa using n7)).1;have E9:=alv mL;refine bt<|aj<|J (ak Z (ab.all cL bU))<| ?_;have sy:=sy.mod oa (bu Fg);refine ca aet Z Z ((ajy a20 (gH W ([]:List di)) _ sy.has).mono ?_);rintro e Bo ⟨rfl,gX⟩;refine ⟨_,Z, ?_⟩;have:=gX.size;have kZ:=γ lj gX;refine vm Z<|J (ex Z Z)<|J (ex Z Z)<|va Z<|va Z<|ai<|aj<|vm Z<|cV (e:= 41) (cs:= [.int .u64 (U (r4 (gH W ([]:List di))))]) Z (λ _=>by kernel_rfl) Z λ Na T7 iA aMF aaQ=> ?_;have:=iA.size;have q5:=γ kZ iA;have aPa:=aaQ.lt;refine va Z<|ai<|az<|aj<|vm Z<|J (cm underlying29 Z)<|vm Z<|ai<|bS<| ?_;have JP:=aP.vY (R:=qb) (by_:=8) (B:=w.heap.size) (k:= [r4 (gH W ([]:List di))]) aaQ [[.int .u64 (U (r4 (gH W ([]:List di))))]] rfl (⟨⟨rfl,trivial⟩,trivial⟩) (by simp) (by simp) (by decide) (by omega);have xh:∀ q∈τ.ag (some ⟨T7,0,none⟩),q=T7:=λ q I=>aRP.1 I;have ab:=ab.later (γ gX iA);have sy:=sy.later (γ gX iA);have ae:=ae.later cx;have ae:=ae.mod oa aN;have ae:=ae.later (γ gX iA);refine fk (λ cn cl a1=>∃ k:Nat,∃ Ef:List (BitVec 64),∃ cT:Option Addr,∃ hN:Nat,∃ oJ:ah.bZ,∃ kG:ah,cl= [(2, .pointer (some ⟨bJ,0,none⟩)),(4, .pointer (some ⟨cu,0,none⟩)),(11, .slice cT Ef.length hN),(35, .slice A T.length c),(36, .int .i64 (T.length:Int)),(37, .int .i64 (k:Int))]∧cn=T.length - k∧Ext w a1∧aP a1 cu [.int .i64 0, .int .i64 0, .slice none 0 0, .slice none 0 0, .slice none 0 0, .slice none 0 0, .slice none 0 0, .int .i64 0, .int .i64 0] 28 (0,0)∧qb.aF 41 8 a1 w.heap.size (τ.ag cT) cT hN Ef∧aP a1 bJ (ah.cells oJ kG) 28 (0,0)∧bq a1 w.heap.size oJ kG∧(k≤T.length)∧(ks W (L.take k)=0)∧(kG=lG W (L.take k))∧(Ef=xU W (L.take k))∧(∀ q∈bq.b1 oJ,q=bJ→False)∧(∀ q∈bq.b1 oJ,q=cu→False)∧(∀ q∈τ.ag cT,q=cu→False)∧(∀ q∈τ.ag cT,q=bJ→False)∧(∀ q∈τ.ag cT,q∈bq.b1 oJ→False)) _ _ ⟨0, [r4 (gH W ([]:List di))],some ⟨T7,0,none⟩,1,a20,gH W ([]:List di),Z,Z,q5,ae,JP,ab,(sy.down (by omega)),by omega,rfl,E9.1,(by rw [E9.1];rfl),(λ q I Φ=>by exfalso;(have:=Fg q I;omega)),(λ q I Φ=>by exfalso;(have:=Fg q I;omega)),(λ q I Φ=>by (have:=xh q I;omega)),(λ q I Φ=>by (have:=xh q I;omega)),(λ q I Φ=>by (have:=xh q I;(have:=alV q Φ;omega)))⟩ (.cons Z (.cons Z (.cons Z (.cons Z (.cons Z (.cons (b2 Z (by first | omega | rfl | (simp<;>omega))) .nil)))))) ?_;rintro aNo aHm Bp ⟨k,Ef,cT,hN,oJ,kG,rfl,rfl,lN,ae,c8,b0,gj,av,nv,Hu,P5,aq4,aq5,vq,Co,EA⟩;have:=lN.size;have akx:=ae.lt;have Bh:=λ q I=>(c8.lt q I).2;have Iv:=b0.lt;have Bi:=λ q I=>(gj.lt q I).2;have aKd:Ef.length≤k+1:=by rw [P5,akO,aRU];omega
   refine aj<|J (blt Z Z)<|ai<|az<| ?_;refine en Z (λ KV=> ?_) (λ KV=> ?_)
   ·obtain ⟨e2,dL,iv,gO,yU,hx⟩:=lx.at_ (k:=k) (by omega);refine bt<|az<|bS<|aj<|J (b_ k underlying29 Ar Z Z ((b6.keep lN).bP (bb k)) Z (by omega))<|J (v:= .slice e2 iv.length dL) (ak Z (τ.aJ.fX Wr ((b6.keep lN).cB (bb k)) gO Z pM))<|va Z<|ai<|az<|aj<|J (ak Z (b0.all cL bU))<|vm Z<|ca UT Z Z ((MZ oJ kG _ _ iv _ gj.has (hx.keep lN)).mono ?_);rintro e amp ⟨a59,aae,aI1,aaf,aI2,aag,aI3,rfl,yi,abE,abF,abG,Ww,Gb⟩;refine ⟨_,Z, ?_⟩;have:=Gb.size;have NH:=γ lN Gb;have FP:=λ q I=>(yi.lt q I).2;have Mg:=λ q I=>(yi.lt q I).1;have M6:=λ q I=>(abE.lt q I).2;have aNd:=λ q I=>(abE.lt q I).1;have Sb:=λ q I=>(abF.lt q I).2;have aNe:=λ q I=>(abF.lt q I).1;have aQx:=λ q I=>(abG.lt q I).2;have aNf:=λ q I=>(abG.lt q I).1;have arA:∀ q∈τ.ag aae,q∈bq.b1 a59→False:=λ q I=>Ww q (.inl I);have aJC:∀ q∈bq.b1 a59,q∈τ.ag aae→False:=λ q κ aa=>arA q aa κ;have arB:∀ q∈τ.ag aaf,q∈bq.b1 a59→False:=λ q I=>Ww q (.inr (.inl I));have aJD:∀ q∈bq.b1 a59,q∈τ.ag aaf→False:=λ q κ aa=>arB q aa κ;have arC:∀ q∈τ.ag aag,q∈bq.b1 a59→False:=λ q I=>Ww q (.inr (.inr I));have aJE:∀ q∈bq.b1 a59,q∈τ.ag aag→False:=λ q κ aa=>arC q aa κ;refine vm Z<|J (ex Z Z)<|J (ex Z Z)<|J (ex Z Z)<| ?_;have b0:=b0.later Gb;refine st Z Z b0 Z bU Z Z Z λ ZC mm b0=> ?_;have:=mm.size;have BB:=Ext.mod NH mm bs;refine va Z<|ai<|aj<|vm Z<|J (bne Z Z)<|ai<| ?_;refine ey Z (λ sN=> ?_) (λ sN=> ?_)
    ·refine aj<|J (v:= .agg #[.int .i64 0, .int .i64 0, .slice none 0 0, .slice none 0 0, .slice none 0 0, .slice none 0 0, .slice none 0 0, .int .i64 0, .int .i64 0]) (cE Z (by kernel_rfl))<|vm Z<| ?_;have ae:=ae.later Gb;have ae:=ae.mod mm aN;refine st (new:= [.int .i64 0, .int .i64 0, .slice none 0 0, .slice none 0 0, .slice none 0 0, .slice none 0 0, .slice none 0 0, .int .i64 0, .int .i64 0]) Z Z ae Z bU Z Z Z λ ZE mR ae=> ?_;have:=mR.size;have Gh:=Ext.mod BB mR bs;refine va Z<|va Z<|ai<|rt<|bO<|eF<|bO<|mq<|eF<|bO<|a8 (.cell Z (ae.all cL bU) (.tmp Z (.tmp Z .nil)))<| ?_;exact ⟨h5 kG iv,⟨none,none,none,none,none,0,0,0,0,0⟩,ah.zero,none,0, [],Z, .inr ⟨sN, .inr (.inr (RI (k:=k+1) (by rw [RJ nv yU,← Hu];exact sN))),Z,Z⟩,bq.zero _ _,τ.aF.nil _,λ q I=>by simp [τ.ag] at I,Gh⟩
    ·have auS:ks W (L.take (k+1))=0:=by rw [RJ nv yU,← Hu];first | exact sN | simpa using sN
     refine bt<|aj<|J (ak Z (b0.all cL bU))<| ?_;have yi:=yi.mod mm (bu Mg);refine ca aet Z Z ((ajy a59 (oo kG iv) _ yi.has).mono ?_);rintro e Dz ⟨rfl,hV⟩;refine ⟨_,Z, ?_⟩;have:=hV.size;have qm:=γ BB hV;refine vm Z<|J (ex Z Z)<|J (ex Z Z)<|va Z<|ai<|rg<|vm Z<|vm Z<|cV (e:= 41) (cs:= [.int .u64 (U (r4 (oo kG iv)))]) Z (λ _=>by kernel_rfl) Z λ I2 aIK iP aMW aaY=> ?_;have:=iP.size;have pe:=γ qm iP;have aPs:=aaY.lt;have c8:=c8.later Gb;have c8:=c8.mod mm (λ q I h=>by have Φ:=aRP.1 h;exfalso;(exact Co q I Φ));have c8:=c8.later (γ hV iP);refine ap aoX τ.dt c8 (aP.gC (R:=qb) (by_:=8) (q:=(r4 (oo kG iv))) aaY ⟨Z,trivial⟩ (by decide)) Z Z (by simp only [aRW,aR2];omega) (by simp only [aRW,aR2];omega) (by omega) Z λ I3 anl aqu Fv ab6 VK aOb=> ?_;have:=Fv.size;have u1:=Ext.mod pe Fv (λ q I=>aSn (by omega) (c8.lt q I).1);have aD6:=λ q I=>(ab6.lt q I).2;have:=Fv.size;refine va Z<|nl<|bY<|aV<|rg<|J (bad Z Z (bH (by omega)))<|vm Z<|nl<| ?_;have ae:=ae.later Gb;have ae:=ae.mod mm aN;have ae:=ae.later (γ hV iP);have ae:=ae.mod Fv (λ I=>vq _ I rfl);have b0:=b0.later (γ hV iP);have b0:=b0.mod Fv (λ I=>Co _ I rfl);have gj:=gj.later Gb;have gj:=gj.mod mm (λ q I h=>by have Φ:=aRP.1 h;exfalso;(exact aq4 q I Φ));have gj:=gj.later (γ hV iP);have gj:=gj.mod Fv (λ q I h=>by exfalso;(exact EA q h I));have yi:=yi.later (γ hV iP);have yi:=yi.mod Fv (λ q I h=>by exfalso;(have:=Mg q I;(have:=Bh q h;omega)));exact c' _ _ ⟨k+1,Ef++ [(r4 (oo kG iv))],anl,aqu,a59,oo kG iv,Z,Z,u1,ae,ab6,b0,(yi.down (by omega)),by omega,auS,by rw [Dj yU,akN,Hu];rfl,by rw [P5,Dj yU,akP,Hu],(λ q I Φ=>by exfalso;(have:=Mg q I;omega)),(λ q I Φ=>by exfalso;(have:=Mg q I;omega)),(λ q I Φ=>by (exact aR4 (VK q I) (λ LO=>by (exact vq q LO Φ)) (λ LO=>by omega))),(λ q I Φ=>by (exact aR4 (VK q I) (λ LP=>by (exact Co q LP Φ)) (λ LP=>by omega))),(λ q I Φ=>by (exact aR4 (VK q I) (λ CZ=>by (have:=Mg q Φ;(have:=Bh q CZ;omega))) (λ CZ=>by (have:=FP q Φ;omega))))⟩ (by omega) (.cons Z (.cons Z (.cons Z (.cons Z (.cons Z (.cons (b2 Z (by first | omega | rfl | (simp<;>omega))) .nil))))))
   ·have lU:k=L.length:=by rw [← lx.1];omega
    refine dK<|dJ<|ei<|dI<|aV<|aj<|J (ak Z (b0.all cL bU))<|vm Z<|st Z Z ae Z bU Z Z Z λ aQO Q8 ae=> ?_;have:=Q8.size;have aFI:=Ext.mod lN Q8 bs;refine va Z<|va Z<|ai<|rt<|a8 (.cell Z (ae.all cL bU) (.tmp Z (.tmp Z .nil)))<| ?_;have c8:=c8.mod Q8 (λ q I h=>by have Φ:=aRP.1 h;exfalso;(exact vq q I Φ));have gj:=gj.mod Q8 (λ q I h=>by have Φ:=aRP.1 h;exfalso;(exact aq5 q I Φ));rw [lU,aSA] at nv Hu P5;exact ⟨0,oJ,kG,cT,hN,Ef,Z, .inl ⟨Z,auZ,mL,nv,Hu,P5⟩,gj.down (by omega),c8,λ q I hf=>by exfalso;(exact EA q I hf),aFI⟩
end
section
inductive BX where
 | last (i:Nat) (b5:List Nat)
 | two (i:Nat) (b5:List Nat) (t1 t2:BX)
def BX.hd:BX→Nat
 | .last i _=>i
 | .two i _ _ _=>i
section
variable {P:Program} {n:Nat} {E:List (Nat×Value)} {w:World} {Q:Exit→Act→World→Prop} {ops:Array Oper} {aZ:Nat→Nat}
def Sz (P:Program) (ops:Array Oper) (Q:Exit→Act→World→Prop) (aZ:Nat→Nat):BX→Act→World→Prop
 | .last i b5=>uO P ops (hj (Q .normal)) aZ (i::b5)
 | .two i b5 t1 t2=>uO P ops (hj (λ a w=>Sz P ops Q aZ t1 a w∧Sz P ops Q aZ t2 a w)) aZ (i::b5)
def alE (ops:Array Oper) (aZ:Nat→Nat):BX→Array Bool→Nat→Bool
 | .last i b5,l,m=>Nat.blt 1 (aZ i) && kl ops aZ b5 (l.setIfInBounds i true) && Nat.beq (b5.length+1) m
 | .two i b5 t1 t2,l,m=>Nat.blt 1 (aZ i) && EI ops aZ b5 (l.setIfInBounds i true) && (Region.ready .any ops (zk b5 (l.setIfInBounds i true))== [t1.hd,t2.hd]) && Nat.ble (b5.length+2) m && alE ops aZ t1 (zk b5 (l.setIfInBounds i true)) (m - 1 - b5.length) && alE ops aZ t2 (zk b5 (l.setIfInBounds i true)) (m - 1 - b5.length)
def aGC (P:Program) (ops:Array Oper) (Q:Exit→Act→World→Prop) (aZ:Nat→Nat) (t1 t2:BX):Exit→Act→World→Prop:=hj (λ a w=>Sz P ops Q aZ t1 a w∧Sz P ops Q aZ t2 a w)
end
end
section
def DW (D:Nat) (w w':World):Prop:=w.heap.size≤w'.heap.size∧(D≤w.heap.size→Below D w w')
theorem DW.wa {D:Nat} {a b c:World} (h:DW D a b) (k:DW D b c):DW D a c:=⟨aSn h.1 k.1,λ hd=>Below.trans (h.2 hd) (k.2 (aSn hd h.1))⟩
section
variable {D:Nat} {P:Program} {ops:Array Oper} {Q:Exit→Act→World→Prop} {aZ:Nat→Nat}
def ab8 (D:Nat) (P:Program) (ops:Array Oper) (w0:World) (o:Oper) (v:Value) (a:Act):Prop :=
  (Region.wanted o (yielded ops a.tmps)=true∧∀ w,DW D w0 w→zg P w v ((execOp a.eval o).run P w))∨
  (Region.wanted o (yielded ops a.tmps)=false∧v=undef)
def aDk (D:Nat) (P:Program) (ops:Array Oper) (Q:Exit→Act→World→Prop) (aZ:Nat→Nat) (i:Nat) (K:Act→World→Prop) (a:Act) (w0:World):Prop :=
  ∃ o,ops[i]? =some o∧
    ((aZ i≤1∧∃ v,ab8 D P ops w0 o v a∧K (a.put o.dst v) w0)∨
     (1<aZ i∧∀ w,Ext w0 w→wpOp P ops Q i (λ a' w'=>(aZ i=2→DW D w0 w')∧K a' w') a w))
def apm (D:Nat) (P:Program) (ops:Array Oper) (Q:Exit→Act→World→Prop) (aZ:Nat→Nat):Nat→Array Bool→Act→World→Prop
  | 0,l,a,w0=>Region.ready .any ops l= []∧∀ w,Ext w0 w→Q .normal a w
  | f+1,l,a,w0=>(Region.ready .any ops l= []→∀ w,Ext w0 w→Q .normal a w)∧∀ i∈Region.ready .any ops l,aDk D P ops Q aZ i (apm D P ops Q aZ f (l.setIfInBounds i true)) a w0
def I4 (D:Nat) (P:Program) (ops:Array Oper) (Q:Exit→Act→World→Prop) (aZ:Nat→Nat):List Nat→Act→World→Prop
  | [],a,w0=>∀ w,Ext w0 w→Q .normal a w
  | i::r,a,w0=>∃ o,ops[i]? =some o∧
      ((aZ i=0∧∃ v,ab8 D P ops w0 o v a∧I4 D P ops Q aZ r (a.put o.dst v) w0)∨
       (aZ i=1∧∃ v,Yields P ops o v a∧I4 D P ops Q aZ r (a.put o.dst v) w0)∨
       (1<aZ i∧∀ w,Ext w0 w→wpOp P ops Q i (λ a' w'=>(aZ i=2→DW D w0 w')∧I4 D P ops Q aZ r a' w') a w))
end
section
variable {D:Nat} {P:Program} {n:Nat} {E cU:List (Nat×Value)} {a:Act} {w w' w0 aW:World} {Q:Exit→Act→World→Prop} {ops:Array Oper} {v:Value} {aZ:Nat→Nat}
variable {d:Option Nat} {ty:TypeId} {pos:String} {af:Array Edge} {g:Option (Nat×Bool)} {x y z:Operand} {t:TypeId} {rest:List Oper} {b5:List Nat} {i:Nat}
def aHx (D:Nat) (P:Program) (n:Nat) (ops:Array Oper) (Q:Exit→Act→World→Prop) (aZ:Nat→Nat) (b5:List Nat) (E:List (Nat×Value)) (w0:World):Prop:=∀ a,et n E a→I4 D P ops (hj (Q .normal)) aZ b5 a w0
end
end
section
section
variable {D:Nat} {P:Program} {n:Nat} {E:List (Nat×Value)} {w:World} {Q:Exit→Act→World→Prop} {ops:Array Oper} {aZ:Nat→Nat}
def SA (D:Nat) (P:Program) (ops:Array Oper) (Q:Exit→Act→World→Prop) (aZ:Nat→Nat):BX→Act→World→Prop
 | .last i b5=>I4 D P ops (hj (Q .normal)) aZ (i::b5)
 | .two i b5 t1 t2=>I4 D P ops (hj (λ a w=>SA D P ops Q aZ t1 a w∧SA D P ops Q aZ t2 a w)) aZ (i::b5)
def aGD (D:Nat) (P:Program) (ops:Array Oper) (Q:Exit→Act→World→Prop) (aZ:Nat→Nat) (t1 t2:BX):Exit→Act→World→Prop:=hj (λ a w=>SA D P ops Q aZ t1 a w∧SA D P ops Q aZ t2 a w)
end
end
section
open Go.Proofs.YtlikikpgmmkjbaaGreat.fy
def lS (W:ah) (L:List (List aL)):Prop:=L.length≤200∧W.bp=0∧ks W L=0
def NQ (W:ah) (L:List (List aL)) (n e:Int) (V:ah):Prop :=
 (e=0∧lS W L∧0≤n∧n≤(L.length:Int)∧V=lG W (L.take n.toNat))∨(e≠0∧¬(lS W L∧0≤n∧n≤(L.length:Int))∧V=ah.zero)
theorem B6.RT {W:ah} {L:List (List aL)} {e:Int} {V:ah} {ms:List (BitVec 64)} (h:B6 W L e V ms):e=0↔lS W L :=
 ⟨λ aG=>by obtain ⟨κ,aa,aw,_,_⟩:=h.ok aG;exact ⟨κ,aa,aw⟩,λ ⟨κ,aa,aw⟩=>(h.zero κ aa aw).1⟩
theorem lS.take {W:ah} {L:List (List aL)} (h:lS W L) (k:Nat):lS W (L.take k):=
 ⟨by have:=h.1;rw [aRU];omega,h.2.1,aTi λ aG=>RI aG h.2.2⟩
theorem lS.at_ {W:ah} {L:List (List aL)} {n e:Int} {V:ah} {ms:List (BitVec 64)} (h:lS W L) (hr:B6 W (L.take n.toNat) e V ms) (aG:0≤n) (κ:n≤(L.length:Int)):e=0∧lS W L∧0≤n∧n≤(L.length:Int)∧V=lG W (L.take n.toNat):=by
 have aa:=h.take n.toNat;have aw:=hr.zero aa.1 aa.2.1 aa.2.2;exact ⟨aw.1,h,aG,κ,aw.2.1⟩
theorem nk.take {w:World} {T:List gL} {L:List (List aL)} (h:nk w T L) (k:Nat):nk w (T.take k) (L.take k):=
 ⟨by rw [aRU,aRU,h.1],λ i v ar=>by
  rw [aSy] at ar;split at ar
  ·next κ =>
   obtain ⟨l,aa,aw,a6⟩:=h.2 i v ar;exact ⟨l,by rw [aSy,aR5 κ];exact aa,aw,a6⟩
  ·exact absurd ar (by simp)⟩
theorem ac9 (a:ah.bZ) (W:ah) (A:Option Addr) (c:Nat) (T:List gL) (L:List (List aL)) (w:World) (bN:ah.Has w a W) (b6:o7.aJ 24 w A c T) (lx:nk w T L):
  Calls prog 46 #[.agg #[.int .i64 W.field.wide, .int .i64 W.field.high, .slice a.P W.field.aS.length a.p, .slice a.B W.aU.length a.b, .slice a.S W.bh.length a.s, .slice a.M W.br.length a.m, .slice a.T W.ao.length a.t, .int .i64 W.next, .int .i64 W.now, .slice A T.length c]] w (λ e w'=>∃ e':Int,e= .returned (.int .i64 e')∧(e'=0↔lS W L)∧Ext w w'):=by
 have AM:=b6.dU;refine cd (n:=16) func46 Z Z Z ?_;refine aj<|cw Z Z Z Z λ cI bJ a7 dY ab=> ?_;have:=a7.size;have bk:=γ (Ext.bI w) a7;have ed:=ab.lt;refine va Z<|ai<|aj<|J (au G8 Z)<|J (ak Z (ab.par [.int .i64 W.field.wide, .int .i64 W.field.high, .slice a.P W.field.aS.length a.p, .slice a.B W.aU.length a.b, .slice a.S W.bh.length a.s, .slice a.M W.br.length a.m, .slice a.T W.ao.length a.t, .int .i64 W.next, .int .i64 W.now] cL bU Z))<|J (au rz Z)<|J (ak Z (ab.one vt Z))<|ca EF Z Z ((FH a W _ _ T L _ (bN.keep bk) (b6.keep bk) (lx.keep bk)).mono ?_);rintro e zy ⟨Jv,OD,aHY,aai,eJ,aNw,rfl,W9,aba,aby,agi,kx⟩;refine ⟨_,Z, ?_⟩;have:=kx.size;have iQ:=γ bk kx;have al1:=λ q I=>(aba.lt q I).2;have aM4:=λ q I=>(aba.lt q I).1;have aDQ:=λ q I=>(aby.lt q I).2;have azj:=λ q I=>(aby.lt q I).1;have aJn:∀ q∈τ.ag aai,q∈bq.b1 OD→False:=agi;have aJG:∀ q∈bq.b1 OD,q∈τ.ag aai→False:=λ q κ aa=>agi q aa κ;refine vm Z<|J (ex Z Z)<|J (ex Z Z)<|J (ex Z Z)<|al Z kK Z Z λ wh aIm l7 ayN Tb=> ?_;have:=l7.size;have jk:=γ iQ l7;have aku:=Tb.lt;refine st Z Z Tb Z bU Z Z Z λ Bl lB Tb=> ?_;have:=lB.size;have ke:=Ext.mod jk lB bs;refine va Z<|va Z<|ai<|aj<|vm Z<|va Z<|ai<|rt<|a8 (.tmp Z .nil)<| ?_;exact ⟨Jv,Z,W9.RT,ke⟩
theorem TY (a:ah.bZ) (W:ah) (A:Option Addr) (c:Nat) (T:List gL) (L:List (List aL)) (n:Int) (w:World) (bN:ah.Has w a W) (b6:o7.aJ 24 w A c T) (lx:nk w T L):
  Calls prog 13 #[.agg #[.int .i64 W.field.wide, .int .i64 W.field.high, .slice a.P W.field.aS.length a.p, .slice a.B W.aU.length a.b, .slice a.S W.bh.length a.s, .slice a.M W.br.length a.m, .slice a.T W.ao.length a.t, .int .i64 W.next, .int .i64 W.now, .slice A T.length c], .int .i64 n] w (λ e w'=>∃ e' a' V,e= .returned (.tuple #[.agg (ah.cells a' V).toArray, .int .i64 e'])∧NQ W L n e' V∧bq w' w.heap.size a' V∧Ext w w'):=by
 have AM:=b6.dU;refine cd (n:=39) func13 Z Z Z ?_;refine aj<|cw Z Z Z Z λ cI bJ a7 dY ab=> ?_;have:=a7.size;have bk:=γ (Ext.bI w) a7;have ed:=ab.lt;refine al Z kK Z Z λ er cu bj ht ae=> ?_;have:=bj.size;have bK:=γ bk bj;have hk:=ae.lt;refine va Z<|ai<|az<|aj<| ?_;have ab:=ab.later bj;refine J (ak Z (ab.all vu n6))<|ca aeu Z Z ((ac9 a W _ _ T L _ (bN.keep bK) (b6.keep bK) (lx.keep bK)).mono ?_);rintro e wh ⟨wI,rfl,K5,b4⟩;refine ⟨_,Z, ?_⟩;have:=b4.size;have jk:=γ bK b4;refine va Z<|ai<|aj<|vm Z<|J (bne Z Z)<|ai<| ?_;refine ey Z (λ ly=> ?_) (λ ly=> ?_)
 ·refine aj<|J (v:= .agg #[.int .i64 0, .int .i64 0, .slice none 0 0, .slice none 0 0, .slice none 0 0, .slice none 0 0, .slice none 0 0, .int .i64 0, .int .i64 0]) (cE Z (by kernel_rfl))<|vm Z<| ?_;have ae:=ae.later b4;refine st (new:= [.int .i64 0, .int .i64 0, .slice none 0 0, .slice none 0 0, .slice none 0 0, .slice none 0 0, .slice none 0 0, .int .i64 0, .int .i64 0]) Z Z ae Z bU Z Z Z λ wj vP ae=> ?_;have:=vP.size;have jW:=Ext.mod jk vP bs;refine va Z<|ai<|rt<|bO<|a8 (.cell Z (ae.all cL bU) (.tmp Z .nil))<| ?_;exact ⟨wI,⟨none,none,none,none,none,0,0,0,0,0⟩,ah.zero,Z, .inr ⟨(by simpa using ly),λ bd=>(show ¬ wI=0 by simpa using ly) (K5.2 bd.1),Z⟩,bq.zero _ _,jW⟩
 ·have dM:lS W L:=K5.1 (by simpa using ly);have agC:=lx.1;refine bt<|az<|aj<|vm Z<|J (blt Z Z)<|vm Z<|aT Z Z Z Z (λ hc=>aH Z) Z<|aT Z Z Z Z (λ hc=>au rz Z) Z<| ?_;have ab:=ab.later b4;refine aT Z Z Z Z (λ hc=>ak (gt hc Z) (ab.one vt Z)) Z<|aT Z Z Z Z (λ hc=>cm underlying29 (gt hc Z)) Z<|aT Z Z Z Z (λ hc=>h0 (gt hc Z) (gt hc Z)) Z<|J (eE Z Z Z Z)<|ai<| ?_;refine dE Z (λ AG=> ?_) (λ AG=> ?_)
  ·simp only [cy] at AG;refine aj<|J (v:= .agg #[.int .i64 0, .int .i64 0, .slice none 0 0, .slice none 0 0, .slice none 0 0, .slice none 0 0, .slice none 0 0, .int .i64 0, .int .i64 0]) (cE Z (by kernel_rfl))<| ?_;have ae:=ae.later b4;refine st (new:= [.int .i64 0, .int .i64 0, .slice none 0 0, .slice none 0 0, .slice none 0 0, .slice none 0 0, .slice none 0 0, .int .i64 0, .int .i64 0]) Z Z ae Z bU Z Z Z λ sb y7 ae=> ?_;have:=y7.size;have iR:=Ext.mod jk y7 bs;refine va Z<|ai<|rt<|bO<|a8 (.cell Z (ae.all cL bU) (.tmp Z .nil))<| ?_;exact ⟨1,⟨none,none,none,none,none,0,0,0,0,0⟩,ah.zero,Z, .inr ⟨(by decide),λ bd=>by have agC:=lx.1;have:=bd.2;have K3:=AG;omega,rfl⟩,bq.zero _ _,iR⟩
  ·simp only [cy] at AG;have agR:0≤n∧n≤(T.length:Int):=by have K3:=AG;omega
   refine bt<|az<| ?_;refine YN [(1,0),(3,0),(6,2),(11,2),(12,3)] [0,1,2,3,4,5] 6 [7,8,9,10,11,12,13,14] 11 [6,7,8,9,10,12,13,14] (by kernel_rfl) (by kernel_rfl) ?_;refine aq Z (λ _=>au G8 Z)<|bA Z (λ _ x=>ak Z ((ab.later x).par [.int .i64 W.field.wide, .int .i64 W.field.high, .slice a.P W.field.aS.length a.p, .slice a.B W.aU.length a.b, .slice a.S W.bh.length a.s, .slice a.M W.br.length a.m, .slice a.T W.ao.length a.t, .int .i64 W.next, .int .i64 W.now] cL bU Z))<|aq Z (λ _=>au rz Z)<|bA Z (λ _ x=>ak Z ((ab.later x).one vt Z))<|aq Z (λ _=>aH Z)<|aq Z (λ _=>RL ((n).toNat) (T.take ((n).toNat)).length underlying29 Ar Z Z (by omega) (by have:=b6.1;omega) (by rw [aRU];omega))<|fn λ se eB=> ?_;have:=eB.size;have gy:=γ jk eB;refine Vr ?_ ?_
   ·refine e8 Z Z Z λ xZ gh Q hK=>ca EF Z Z ((FH a W _ _ (T.take ((n).toNat)) (L.take ((n).toNat)) _ (bN.keep (γ gy gh)) ((b6.keep (γ gy gh)).pre ((n).toNat)) ((lx.take ((n).toNat)).keep (γ gy gh))).mono ?_);rintro e uM ⟨anC,TQ,ao5,aac,aI0,aNu,rfl,axk,wO,abw,agf,ej⟩;refine ⟨_,Z,hK _ _ ⟨γ gh ej, ?_⟩⟩;have:=gh.size;have lM:=γ gy gh;have:=ej.size;have ll:=γ lM ej;have alX:=λ q I=>(wO.lt q I).2;have azn:=λ q I=>(wO.lt q I).1;have Bf:=λ q I=>(abw.lt q I).2;have qN:=λ q I=>(abw.lt q I).1;have aJj:∀ q∈τ.ag aac,q∈bq.b1 TQ→False:=agf;have aJt:∀ q∈bq.b1 TQ,q∈τ.ag aac→False:=λ q κ aa=>agf q aa κ;refine aq Z (λ _=>aH Z)<|aq Z (λ _=>ex Z Z)<|aq Z (λ _=>ex Z Z)<|aq Z (λ _=>ex Z Z)<|e8 Z Z Z λ wk ee Q hK=>al Z kK Z Z λ Dy sD l9 ayS zK=>hK _ _ ⟨γ ee l9, ?_⟩;have:=ee.size;have jm:=γ ll ee;have:=l9.size;have qj:=γ jm l9;have YD:=zK.lt;refine eo Z Z Z λ IU h6 Q hK=>st Z Z (zK.later h6) Z bU Z Z Z λ ZA ux zK=>hK _ _ ?_;have:=h6.size;have uW:=γ qj h6;have:=ux.size;have DO:=Ext.mod uW ux bs;refine aq Z (λ _=>ew Z)<|aq Z (λ _=>ew Z)<|fn λ IW gI=> ?_;have:=gI.size;have uX:=γ DO gI;refine aV<|aj<| ?_;have zK:=zK.later gI;refine J (ak Z (zK.all cL bU))<|vm Z<| ?_;have ae:=ae.later (γ b4 (γ eB (γ gh (γ ej (γ ee (γ l9 h6))))));have ae:=ae.mod ux aN;have ae:=ae.later gI;refine st Z Z ae Z bU Z Z Z λ IY Ra ae=> ?_;have:=Ra.size;have pd:=Ext.mod uX Ra bs;refine va Z<|ai<|rt<|a8 (.cell Z (ae.all cL bU) (.tmp Z .nil))<| ?_;have wO:=wO.later (γ ee (γ l9 h6));have wO:=wO.mod ux (bD alX);have wO:=wO.later gI;have wO:=wO.mod Ra (bu azn);exact ⟨anC,TQ,ao5,Z, .inl (dM.at_ axk agR.1 (by omega)),wO.down (by omega),pd⟩
   ·refine e8 Z Z Z λ aE2 hU Q hK=>al Z kK Z Z λ Sr aIE mZ aMP BM=>hK _ _ ⟨γ hU mZ, ?_⟩;have:=hU.size;have SU:=γ gy hU;have:=mZ.size;have wz:=γ SU mZ;have aB2:=BM.lt;refine e8 Z Z Z λ FZ cG Q hK=>ca EF Z Z ((FH a W _ _ (T.take ((n).toNat)) (L.take ((n).toNat)) _ (bN.keep (γ wz cG)) ((b6.keep (γ wz cG)).pre ((n).toNat)) ((lx.take ((n).toNat)).keep (γ wz cG))).mono ?_);rintro e ZH ⟨anE,TR,ao7,aah,aI4,aNv,rfl,axn,wQ,abx,agh,iP⟩;refine ⟨_,Z,hK _ _ ⟨γ cG iP, ?_⟩⟩;have:=cG.size;have na:=γ wz cG;have:=iP.size;have Gi:=γ na iP;have aD4:=λ q I=>(wQ.lt q I).2;have ajk:=λ q I=>(wQ.lt q I).1;have aQB:=λ q I=>(abx.lt q I).2;have aNg:=λ q I=>(abx.lt q I).1;have aJm:∀ q∈τ.ag aah,q∈bq.b1 TR→False:=agh;have aJF:∀ q∈bq.b1 TR,q∈τ.ag aah→False:=λ q κ aa=>agh q aa κ;refine aq Z (λ _=>aH Z)<|aq Z (λ _=>ex Z Z)<|aq Z (λ _=>ex Z Z)<|aq Z (λ _=>ex Z Z)<| ?_;have BM:=BM.later (γ cG iP);refine eo Z Z Z λ St jj Q hK=>st Z Z (BM.later jj) Z bU Z Z Z λ I3 r0 BM=>hK _ _ ?_;have:=jj.size;have BD:=γ Gi jj;have:=r0.size;have u1:=Ext.mod BD r0 bs;refine aq Z (λ _=>ew Z)<|aq Z (λ _=>ew Z)<|fn λ Sv tr=> ?_;have:=tr.size;have BF:=γ u1 tr;refine aV<|aj<| ?_;have BM:=BM.later tr;refine J (ak Z (BM.all cL bU))<|vm Z<| ?_;have ae:=ae.later (γ b4 (γ eB (γ hU (γ mZ (γ cG (γ iP jj))))));have ae:=ae.mod r0 aN;have ae:=ae.later tr;refine st Z Z ae Z bU Z Z Z λ Sw qP ae=> ?_;have:=qP.size;have BG:=Ext.mod BF qP bs;refine va Z<|ai<|rt<|a8 (.cell Z (ae.all cL bU) (.tmp Z .nil))<| ?_;have wQ:=wQ.later jj;have wQ:=wQ.mod r0 (bu ajk);have wQ:=wQ.later tr;have wQ:=wQ.mod qP (bu ajk);exact ⟨anE,TR,ao7,Z, .inl (dM.at_ axn agR.1 (by omega)),wQ.down (by omega),BG⟩
end
section
theorem ax3 (fe:FuncId) (cs:List Value) (p:aL→Bool) (A:Option Addr) (c:Nat) (l:List aL) (w:World) (aB:aL.rep.aJ 48 w A c l) (nv:Enters prog fe) (dX:∀ x∈l,∀ w',Ext w w'→Calls prog fe (([.agg #[.int .i64 x.by_, .int .i64 x.kind, .int .i64 x.aQ, .int .i64 x.spot.x, .int .i64 x.spot.y, .int .i64 x.what]]:List Value)++cs).toArray w' λ e lH=>e= .returned (.bool (p x))∧Ext w' lH):
  Calls prog 114 #[.slice A l.length c, .func (.func fe) #[] cs.toArray] w (λ e w'=>e= .returned (.int .i64 (gm p l))∧Ext w w'):=by
 have oT:=aB.dU;refine cd (n:=19) func114 Z Z Z ?_;refine aj<|va Z<|ai<|az<|aj<|vm Z<|J (cm underlying44 Z)<|vm Z<|ai<|bS<| ?_;refine fk (λ cn cl a1=>∃ k:Nat,cl= [(0, .slice A l.length c),(1, .func (.func fe) #[] cs.toArray),(7, .int .i64 (l.length:Int)),(8, .int .i64 (k:Int))]∧cn=l.length - k∧Ext w a1∧(k≤l.length)∧(∀ i,i<k→p (l.getD i default)=false)) _ _ ⟨0,Z,Z,(Ext.bI w),by omega,λ i ar=>by omega⟩ (.cons Z (.cons Z (.cons Z (.cons (b2 Z (by first | omega | rfl | (simp<;>omega))) .nil)))) ?_;rintro Ms Jw cI ⟨k,rfl,rfl,bk,av,aO⟩;have:=bk.size;refine aj<|J (blt Z Z)<|ai<|az<| ?_;refine en Z (λ lW=> ?_) (λ lW=> ?_)
 ·refine bt<|az<|bS<|aj<|vm Z<|va Z<|ai<|aj<|vm Z<|vm Z<|vm Z<|J (b_ k underlying44 fC Z Z ((aB.keep bk).bP (bb k)) Z (by omega))<|J (ak Z (τ.aJ.hq K6 ((aB.keep bk).cB (bb k)) (dn (l:=l) (u:=default) (by omega)) iZ fC))<|O' nv Z Z Z ((dX (l.getD k default) (jd (by omega)) _ bk).mono ?_);rintro e IV ⟨rfl,x3⟩;refine ⟨_,Z, ?_⟩;have:=x3.size;have mv:=γ bk x3;refine ai<| ?_;refine dE Z (λ lX=> ?_) (λ lX=> ?_)
  ·refine aj<|vm Z<|va Z<|ai<|rt<|eF<|bO<|mq<|eF<|bO<|a8 (.tmp Z .nil)<| ?_;exact ⟨by have e:=QS (p:=p) (l:=l) (d:=default) (k:=k) (by omega) lX aO;rw [e];rfl,mv⟩
  ·refine fo<|bY<|aV<|rg<|J (bad Z Z (bH (by omega)))<|vm Z<|nl<| ?_;exact c' _ _ ⟨k+1,Z,Z,mv,by omega,sU aO lX⟩ (by omega) (.cons Z (.cons Z (.cons Z (.cons (b2 Z (by first | omega | rfl | (simp<;>omega))) .nil))))
 ·refine dK<|dJ<|ei<|dI<|aV<|aj<|va Z<|ai<|rt<|a8 (.tmp Z .nil)<| ?_;exact ⟨by have e:=QR (p:=p) (l:=l) (d:=default) (λ i ar=>aO i (by omega));rw [e];rfl,bk⟩
end
section
section
variable {P:Program} {n:Nat} {ops:Array Oper} {Q:Exit→Act→World→Prop} {E:List (Nat×Value)} {w:World} {v:Value} {ty:TypeId} {pos:String} {af:Array Edge} {x y z:Operand} {t:TypeId} {g:Option (Nat×Bool)} {rest:List Oper} {d:Option Nat}
theorem r_ {d:Nat} {op:Op} {j:Nat} {q b c bX:Bool} {de:Oper} {jM:Nat} (ay:ops[j]? =some de) (nx:de.dst=some jM) (Φ:look E jM=some (h' bX (.bool b))) (hc:(bX && (b == q))=c)
  (hr:c=true→cY P E ⟨some d,op,ty,pos,af,some (j,q)⟩ w v w) (hd:Nat.blt d n=true) (h:cK P n ops Q rest ((d,h' c v)::E) w):cK P n ops Q (⟨some d,op,ty,pos,af,some (j,q)⟩::rest) E w :=
 Sy (c:=c) (λ a ha=>by
  have κ:=ha.g _ _ Φ;subst hc;cases bX with
  | true=>exact DA (o:=⟨some d,op,ty,pos,af,some (j,q)⟩) rfl ay nx (b:=b) Φ ha
  | false =>
   simp only [h',aSK,aTf] at κ;simp [Region.wanted,yielded,ay,nx,κ,undef])
  (λ hc a ha=>by unfold Oper.wp;rw [hr hc n a ha];subst hc;exact h _ (ha.put hd v)) (λ hc a ha=>by subst hc;exact h _ (ha.put hd undef))
theorem aAZ {b c k:Bool} (av:k=true) (hx:ev E x=some (.bool b)) (aK:ev E y=some (.bool true)) (bE:ev E z=some (h' (k && (b == false)) (.bool c))):cY P E ⟨d, .pick x y z,ty,pos,af,g⟩ w (.bool (b || c)) w:=by
 subst av;exact eE hx aK Z bE
theorem aj5 {b c k:Bool} (av:k=true) (hx:ev E x=some (.bool b)) (bE:ev E z=some (.bool false)) (aK:ev E y=some (h' (k && (b == true)) (.bool c))):cY P E ⟨d, .pick x y z,ty,pos,af,g⟩ w (.bool (b && c)) w:=by
 subst av;exact dH hx bE Z aK
end
end
section
open Go.Proofs.YtlikikpgmmkjbaaGreat.fy
structure bx where
 a:Option Addr
 n:Nat
 c:Nat
 late:Int
 gone:Bool
instance:Inhabited bx:=⟨⟨none,0,0,0,false⟩⟩
def bx.kt (v:bx):gL:=⟨v.a,v.n,v.c⟩
def bx.raw (j:Nat) (u:Value):Prop:=match j with
 | 0=>∃ a n c,u= .slice a n c
 | 1=>∃ n:Int,u= .int .i64 n
 | 2=>∃ b:Bool,u= .bool b
 | _=>True
def bx.cells (v:bx):List Value:= [.slice v.a v.n v.c, .int .i64 v.late, .bool v.gone]
def bx.rep:τ bx:=τ.flat 3 bx.cells (λ v=>fN v.late) bx.raw (λ _=>rfl) (by intro a u hu;simp [bx.cells] at hu;rcases hu with rfl | rfl | rfl<;>rfl) (by
 intro a j u hu
 match j,hu with
 | 0,hu=>exact ⟨_,_,_,(aRR hu).symm⟩
 | 1,hu=>exact ⟨_,(aRR hu).symm⟩
 | 2,hu=>exact ⟨_,(aRR hu).symm⟩
 | j+3,hu=>exact trivial)
theorem n9 {w:World} {cs:List Value} {a:bx} (h:bx.rep.has w cs a):cs=a.cells:=aTQ (show cs=a.cells∧fN a.late from h)
def bx.zero:Value:= .agg #[.slice none 0 0, .int .i64 0, .bool false]
theorem bx.iE:∀ (j:Nat) u,bx.zero.cells[j]? =some u→bx.rep.raw j u:=by
 intro j u hu;have hu:(#[(.slice none 0 0:Value),(.int .i64 0:Value),(.bool false:Value)]:Array Value)[j]? =some u:=hu
 match j,hu with
 | 0,hu=>exact ⟨_,_,_,(aRR hu).symm⟩
 | 1,hu=>exact ⟨_,(aRR hu).symm⟩
 | 2,hu=>exact ⟨_,(aRR hu).symm⟩
 | j+3,hu=>simp at hu
theorem bx.info:(prog.info? 90).map (λ i=>(i.zero,i.size,i.bytes))=some (some bx.zero,3,40):=by kernel_rfl
theorem bx.mF {by_:Nat} {w:World} {A:Option Addr} {c:Nat} {l:List bx} (h:bx.rep.aJ by_ w A c l):∀ a∈l,fN a.late:=τ.aJ.yx (R:=bx.rep) (Q:=λ a=>fN a.late) (fun {w cs a} (h:bx.rep.has w cs a)=>(show cs=a.cells∧fN a.late from h).2) h
structure cr where
 waits:List aL
 late:Int
 gone:Bool
 deriving DecidableEq
def pF (w:World) (T:List bx) (S:List cr):Prop:=nk w (T.map bx.kt) (S.map cr.waits)∧T.map (λ v=>(v.late,v.gone))=S.map (λ s=>(s.late,s.gone))
section
variable {w w':World} {T j2:List bx} {S oI:List cr} {k:Nat}
theorem pF.len (h:pF w T S):T.length=S.length:=by have:=h.1.1;simpa using this
theorem pF.keep (h:pF w T S) (x:Ext w w'):pF w' T S:=⟨h.1.keep x,h.2⟩
theorem pF.at_ (h:pF w T S) (av:k<T.length):∃ A c s,T[k]? =some ⟨A,s.waits.length,c,s.late,s.gone⟩∧S[k]? =some s∧aL.rep.aJ 48 w A c s.waits:=by
 have gl:k<S.length:=by rw [← h.len];exact av
 obtain ⟨A,c,l,κ,aa,aw⟩:=h.1.at_ (k:=k) (by simpa using av);rw [aSa,aRT av] at κ;rw [aSa,aRT gl] at aa;have a6:=aS4 (λ l=>l[k]?) h.2;simp only [aSa,aRT av,aRT gl,aTr,aUH,aV8] at a6;have κ:=aRR κ;have aa:=aRR aa;refine ⟨A,c,S[k], ?_,aRT gl,by rw [aa];exact aw⟩;rw [aRT av,aa];generalize T[k]=t at κ a6;obtain ⟨a,n,b8,aM2,g⟩:=t;simp only [bx.kt,gL.mk.injEq] at κ;obtain ⟨rfl,rfl,rfl⟩:=κ;rw [← a6.1,← a6.2]
end
def cr.xT (p:Int) (s:cr):Bool:= !(decide (s.late<0) || decide (1000000<s.late) || (s.gone && (s.late != 0 || decide (0<(s.waits.length:Int))))) && !s.waits.any λ o=>o.by_ != p || o.bp != 0
def wX (S:List cr):Prop:=1≤S.length∧S.length≤8∧∀ (i:Nat) (s:cr),S[i]? =some s→s.waits.length≤50∧s.xT i=true
theorem aCK {S:List cr} {k:Nat} {bm:cr} (aO:∀ (i:Nat) (s:cr),i<k→S[i]? =some s→s.xT i=true) (hS:S[k]? =some bm) (hr:bm.xT k=true) {i:Nat} {s:cr} (ar:i<k+1) (hs:S[i]? =some s):s.xT i=true:=by
 rcases aSU i k with h | h
 ·exact aO i s h hs
 ·obtain rfl:i=k:=by omega
  rw [hS] at hs;obtain rfl:=aRR hs;exact hr
theorem aCH {w:World} {T:List bx} {S:List cr} (hS:pF w T S) (h:(T.any λ t=>decide (50<(t.n:Int)))=true):¬ wX S:=λ aG=>by
 obtain ⟨t,aE,Φ⟩:=aTa.1 h;obtain ⟨i,ar,rfl⟩:=aSP.1 aE;obtain ⟨A,c,s,κ,aa,_⟩:=hS.at_ ar;rw [aRT ar] at κ;rw [aRR κ] at Φ;have:=(aG.2.2 i s aa).1;simp at Φ;omega
theorem aCJ {w:World} {T:List bx} {S:List cr} (hS:pF w T S) (h:(T.any λ t=>decide (50<(t.n:Int)))=false):∀ (i:Nat) (s:cr),S[i]? =some s→s.waits.length≤50:=λ i s hs=>by
 have ar:i<T.length:=by rw [hS.len];exact (aRS.1 hs).1
 obtain ⟨A,c,s',κ,aa,_⟩:=hS.at_ ar;rw [hs] at aa;obtain rfl:=aRR aa;rw [aRT ar] at κ;have:=aVB.1 h T[i] (aS0 ar);rw [aRR κ] at this;simp at this;omega
theorem avy (fe:FuncId) (cs:List Value) (p:aL→Bool) (A:Option Addr) (c:Nat) (l:List aL) (w:World) (aB:aL.rep.aJ 48 w A c l) (nv:Enters prog fe) (dX:∀ x∈l,∀ w',Ext w w'→Calls prog fe (([.agg #[.int .i64 x.by_, .int .i64 x.kind, .int .i64 x.aQ, .int .i64 x.spot.x, .int .i64 x.spot.y, .int .i64 x.what]]:List Value)++cs).toArray w' λ e lH=>e= .returned (.bool (p x))∧Ext w' lH):
  Calls prog 172 #[.slice A l.length c, .func (.func fe) #[] cs.toArray] w (λ e w'=>e= .returned (.bool (l.any p))∧Ext w w'):=by
 refine cd (n:=9) func172 Z Z Z ?_;refine aj<|va Z<|ai<|aj<|vm Z<|vm Z<|ca asQ Z Z ((ax3 fe cs p _ _ l _ (aB.keep (Ext.bI w)) nv (λ x hx w' h=>dX x hx w' (γ (Ext.bI w) h))).mono ?_);rintro e cI ⟨rfl,e_⟩;refine ⟨_,Z, ?_⟩;have:=e_.size;have bk:=γ (Ext.bI w) e_;refine J (j3 Z Z)<|va Z<|ai<|rt<|a8 (.tmp Z .nil)<| ?_;exact ⟨by rw [LM];rfl,bk⟩
theorem ax4 (fe:FuncId) (cs:List Value) (p:bx→Bool) (A:Option Addr) (c:Nat) (l:List bx) (w:World) (aB:bx.rep.aJ 40 w A c l) (nv:Enters prog fe) (dX:∀ x∈l,∀ w',Ext w w'→Calls prog fe (([.agg #[.slice x.a x.n x.c, .int .i64 x.late, .bool x.gone]]:List Value)++cs).toArray w' λ e lH=>e= .returned (.bool (p x))∧Ext w' lH):
  Calls prog 171 #[.slice A l.length c, .func (.func fe) #[] cs.toArray] w (λ e w'=>e= .returned (.int .i64 (gm p l))∧Ext w w'):=by
 have oT:=aB.dU;refine cd (n:=19) func171 Z Z Z ?_;refine aj<|va Z<|ai<|az<|aj<|vm Z<|J (cm underlying80 Z)<|vm Z<|ai<|bS<| ?_;refine fk (λ cn cl a1=>∃ k:Nat,cl= [(0, .slice A l.length c),(1, .func (.func fe) #[] cs.toArray),(7, .int .i64 (l.length:Int)),(8, .int .i64 (k:Int))]∧cn=l.length - k∧Ext w a1∧(k≤l.length)∧(∀ i,i<k→p (l.getD i default)=false)) _ _ ⟨0,Z,Z,(Ext.bI w),by omega,λ i ar=>by omega⟩ (.cons Z (.cons Z (.cons Z (.cons (b2 Z (by first | omega | rfl | (simp<;>omega))) .nil)))) ?_;rintro Ms Jw cI ⟨k,rfl,rfl,bk,av,aO⟩;have:=bk.size;refine aj<|J (blt Z Z)<|ai<|az<| ?_;refine en Z (λ lW=> ?_) (λ lW=> ?_)
 ·refine bt<|az<|bS<|aj<|vm Z<|va Z<|ai<|aj<|vm Z<|vm Z<|vm Z<|J (b_ k underlying80 kJ Z Z ((aB.keep bk).bP (bb k)) Z (by omega))<|J (ak Z (τ.aJ.hq n9 ((aB.keep bk).cB (bb k)) (dn (l:=l) (u:=default) (by omega)) Ct kJ))<|O' nv Z Z Z ((dX (l.getD k default) (jd (by omega)) _ bk).mono ?_);rintro e IV ⟨rfl,x3⟩;refine ⟨_,Z, ?_⟩;have:=x3.size;have mv:=γ bk x3;refine ai<| ?_;refine dE Z (λ lX=> ?_) (λ lX=> ?_)
  ·refine aj<|vm Z<|va Z<|ai<|rt<|eF<|bO<|mq<|eF<|bO<|a8 (.tmp Z .nil)<| ?_;exact ⟨by have e:=QS (p:=p) (l:=l) (d:=default) (k:=k) (by omega) lX aO;rw [e];rfl,mv⟩
  ·refine fo<|bY<|aV<|rg<|J (bad Z Z (bH (by omega)))<|vm Z<|nl<| ?_;exact c' _ _ ⟨k+1,Z,Z,mv,by omega,sU aO lX⟩ (by omega) (.cons Z (.cons Z (.cons Z (.cons (b2 Z (by first | omega | rfl | (simp<;>omega))) .nil))))
 ·refine dK<|dJ<|ei<|dI<|aV<|aj<|va Z<|ai<|rt<|a8 (.tmp Z .nil)<| ?_;exact ⟨by have e:=QR (p:=p) (l:=l) (d:=default) (λ i ar=>aO i (by omega));rw [e];rfl,bk⟩
theorem avz (fe:FuncId) (cs:List Value) (p:bx→Bool) (A:Option Addr) (c:Nat) (l:List bx) (w:World) (aB:bx.rep.aJ 40 w A c l) (nv:Enters prog fe) (dX:∀ x∈l,∀ w',Ext w w'→Calls prog fe (([.agg #[.slice x.a x.n x.c, .int .i64 x.late, .bool x.gone]]:List Value)++cs).toArray w' λ e lH=>e= .returned (.bool (p x))∧Ext w' lH):
  Calls prog 141 #[.slice A l.length c, .func (.func fe) #[] cs.toArray] w (λ e w'=>e= .returned (.bool (l.any p))∧Ext w w'):=by
 refine cd (n:=9) func141 Z Z Z ?_;refine aj<|va Z<|ai<|aj<|vm Z<|vm Z<|ca asR Z Z ((ax4 fe cs p _ _ l _ (aB.keep (Ext.bI w)) nv (λ x hx w' h=>dX x hx w' (γ (Ext.bI w) h))).mono ?_);rintro e cI ⟨rfl,e_⟩;refine ⟨_,Z, ?_⟩;have:=e_.size;have bk:=γ (Ext.bI w) e_;refine J (j3 Z Z)<|va Z<|ai<|rt<|a8 (.tmp Z .nil)<| ?_;exact ⟨by rw [LM];rfl,bk⟩
theorem aDb (o:aL) (p:Int) (b:Nat) (w:World) (aM:aP w b [.int .i64 p] 3 (0,0)):
  Calls prog 173 #[.agg #[.int .i64 o.by_, .int .i64 o.kind, .int .i64 o.aQ, .int .i64 o.spot.x, .int .i64 o.spot.y, .int .i64 o.what], .pointer (some ⟨b,0,none⟩)] w (λ e w'=>e= .returned (.bool (o.by_ != p || o.bp != 0))∧Ext w w'):=by
 have s6:=aM.lt;refine cd (n:=13) func173 Z Z Z ?_;refine aj<|cw Z Z Z Z λ cI bJ a7 dY ab=> ?_;have:=a7.size;have bk:=γ (Ext.bI w) a7;have ed:=ab.lt;refine va Z<|ai<|aj<|J (au tW Z)<|J (ak Z (ab.one ba Z))<| ?_;have aM:=aM.later a7;refine J (ak Z (aM.one ba Z))<|J (bne Z Z)<|vm Z<|aT Z Z Z Z (λ hc=>ak Z (ab.all iZ fC)) Z<|o9 Z Z Z Z UN (λ hc=>e7 (gt hc Z) Z) (λ hc=>Yi o _) Z λ er cD=> ?_;have:=cD.size;have bK:=γ bk cD;refine aT Z Z Z Z (λ hc=>bne (gt hc Z) Z) Z<|J (eE Z Z Z Z)<|va Z<|ai<|rt<|a8 (.tmp Z .nil)<| ?_;exact ⟨Z,bK⟩
theorem aDc (A:Option Addr) (c:Nat) (s:cr) (p:Int) (w:World) (aB:aL.rep.aJ 48 w A c s.waits):
  Calls prog 143 #[.agg #[.slice A s.waits.length c, .int .i64 s.late, .bool s.gone], .int .i64 p] w (λ e w'=>e= .returned (.bool (s.xT p))∧Ext w w'):=by
 refine cd (n:=33) func143 Z Z Z ?_;refine aj<|cw Z Z Z Z λ cI bJ a7 dY ab=> ?_;have:=a7.size;have bk:=γ (Ext.bI w) a7;have ed:=ab.lt;refine cw Z Z Z Z λ er cu bj ht ae=> ?_;have:=bj.size;have bK:=γ bk bj;have hk:=ae.lt;refine va Z<|ai<|az<|aj<|J (au G9 Z)<| ?_;have ab:=ab.later bj;refine J (ak Z (ab.one ba Z))<|J (blt Z Z)<|vm Z<|aT Z Z Z Z (λ hc=>au G9 Z) Z<|aT Z Z Z Z (λ hc=>ak (gt hc Z) (ab.one ba Z)) Z<|aT Z Z Z Z (λ hc=>h0 (gt hc Z) Z) Z<|J (eE Z Z Z Z)<|vm Z<|aT Z Z Z Z (λ hc=>au Kn Z) Z<|aT Z Z Z Z (λ hc=>ak (gt hc Z) (ab.one Ha Z)) Z<|aT Z Z Z Z (λ hc=>aH (gt hc Z)) Z<|r_ Z Z Z Z (λ hc=>au G9 Z) Z<|r_ Z Z Z Z (λ hc=>ak (gt hc Z) (ab.one ba Z)) Z<|r_ Z Z Z Z (λ hc=>bne (gt hc Z) Z) Z<|r_ Z Z Z Z (λ hc=>aH (gt hc Z)) Z<|r_ Z Z Z Z (λ hc=>au rA Z) Z<|r_ Z Z Z Z (λ hc=>ak (gt hc Z) (ab.one pM Z)) Z<|r_ Z Z Z Z (λ hc=>cm underlying44 (gt hc Z)) Z<|r_ Z Z Z Z (λ hc=>h0 (gt hc Z) Z) Z<|r_ Z Z Z Z (λ hc=>aAZ hc (gt hc Z) Z Z) Z<|aT Z Z Z Z (λ hc=>aj5 hc (gt hc Z) Z Z) Z<|J (eE Z Z Z Z)<|ai<| ?_;refine dE Z (λ ir=> ?_) (λ ir=> ?_)
 ·refine aj<|va Z<|ai<|rt<|bO<|a8 (.tmp Z .nil)<| ?_;exact ⟨by unfold cr.xT;rw [ir];rfl,bK⟩
 ·refine bt<|aj<|J (au rA Z)<|J (ak Z (ab.one pM Z))<|J (Mv Z Z)<|ca asU Z Z ((avy 173 [.pointer (some ⟨cu,0,none⟩)] (λ o=>o.by_ != p || o.bp != 0) _ _ s.waits _ (aB.keep bK) asT (λ x hx w' h=>aDb x p cu w' (ae.later h))).mono ?_);rintro e wh ⟨rfl,b4⟩;refine ⟨_,Z, ?_⟩;have:=b4.size;have jk:=γ bK b4;refine J (eg Z)<|va Z<|ai<|rt<|a8 (.tmp Z .nil)<| ?_;exact ⟨by unfold cr.xT;rw [ir];rfl,jk⟩
theorem aCE (t:bx) (w:World):
  Calls prog 142 #[.agg #[.slice t.a t.n t.c, .int .i64 t.late, .bool t.gone]] w (λ e w'=>e= .returned (.bool (decide (50<(t.n:Int))))∧Ext w w'):=by
 refine cd (n:=7) func142 Z Z Z ?_;refine aj<|cw Z Z Z Z λ cI bJ a7 dY ab=> ?_;have:=a7.size;have bk:=γ (Ext.bI w) a7;have ed:=ab.lt;refine va Z<|ai<|aj<|J (au rA Z)<|J (ak Z (ab.one pM Z))<|J (cm underlying44 Z)<|J (h0 Z Z)<|va Z<|ai<|rt<|a8 (.tmp Z .nil)<| ?_;exact ⟨Z,bk⟩
theorem RN (A:Option Addr) (c:Nat) (T:List bx) (S:List cr) (w:World) (b6:bx.rep.aJ 40 w A c T) (hS:pF w T S):
  Calls prog 102 #[.slice A T.length c] w (λ e w'=>∃ e':Int,e= .returned (.int .i64 e')∧(e'=0↔wX S)∧Ext w w'):=by
 have AM:=b6.dU;refine cd (n:=27) func102 Z Z Z ?_;refine aj<|va Z<|ai<|az<|aj<|vm Z<|J (cm underlying80 Z)<|J (blt Z Z)<|vm Z<|aT Z Z Z Z (λ hc=>aH Z) Z<|aT Z Z Z Z (λ hc=>cm underlying80 (gt hc Z)) Z<|aT Z Z Z Z (λ hc=>h0 (gt hc Z) Z) Z<|J (eE Z Z Z Z)<|ai<| ?_;refine dE Z (λ j_=> ?_) (λ j_=> ?_)
 ·simp only [cy] at j_;refine aj<|va Z<|ai<|rt<|bO<|a8 (.tmp Z .nil)<| ?_;exact ⟨1,Z,⟨λ bd=>absurd bd (by decide),λ bd=>absurd bd (by rintro ⟨κ,aa,_⟩;have:=hS.len;omega)⟩,(Ext.bI w)⟩
 ·simp only [cy] at j_;refine bt<|az<|aj<|vm Z<|ca asW Z Z ((avz 142 [] (λ t=>decide (50<(t.n:Int))) _ _ T _ (b6.keep (Ext.bI w)) asV (λ x hx w' h=>aCE x w')).mono ?_);rintro e kv ⟨rfl,a7⟩;refine ⟨_,Z, ?_⟩;have:=a7.size;have cW:=γ (Ext.bI w) a7;refine ai<| ?_;refine dE Z (λ lW=> ?_) (λ lW=> ?_)
  ·refine aj<|va Z<|ai<|rt<|bO<|a8 (.tmp Z .nil)<| ?_;exact ⟨2,Z,⟨λ bd=>absurd bd (by decide),λ bd=>absurd bd (λ bd=>aCH hS lW bd)⟩,cW⟩
  ·have axy:=aCJ hS lW;refine bt<|az<|aj<|vm Z<|J (cm underlying80 Z)<|vm Z<|ai<|bS<| ?_;refine fk (λ cn cl a1=>∃ k:Nat,cl= [(15, .slice A T.length c),(16, .int .i64 (T.length:Int)),(17, .int .i64 (k:Int))]∧cn=T.length - k∧Ext w a1∧(k≤T.length)∧(∀ (i:Nat) (s:cr),i<k→S[i]? =some s→s.xT i=true)) _ _ ⟨0,Z,Z,cW,by omega,λ i s ar=>by omega⟩ (.cons Z (.cons Z (.cons (b2 Z (by first | omega | rfl | (simp<;>omega))) .nil))) ?_;rintro X5 aHv IV ⟨k,rfl,rfl,mv,av,aO⟩;have:=mv.size;refine aj<|J (blt Z Z)<|ai<|az<| ?_;refine en Z (λ kn=> ?_) (λ kn=> ?_)
   ·obtain ⟨e2,dL,bm,gO,j9,hx⟩:=hS.at_ (k:=k) (by omega);refine bt<|az<|bS<|aj<|vm Z<|J (b_ k underlying80 kJ Z Z ((b6.keep mv).bP (bb k)) Z (by omega))<|J (ak Z (τ.aJ.hq n9 ((b6.keep mv).cB (bb k)) gO Ct kJ))<|al Z Pu Z Z λ wg yz dm Ma fY=> ?_;have:=dm.size;have kB:=γ mv dm;have Rx:=fY.lt;refine va Z<|st (new:= [.slice ((⟨e2,bm.waits.length,dL,bm.late,bm.gone⟩:bx).a) ((⟨e2,bm.waits.length,dL,bm.late,bm.gone⟩:bx).n) ((⟨e2,bm.waits.length,dL,bm.late,bm.gone⟩:bx).c), .int .i64 ((⟨e2,bm.waits.length,dL,bm.late,bm.gone⟩:bx).late), .bool ((⟨e2,bm.waits.length,dL,bm.late,bm.gone⟩:bx).gone)]) Z Z fY Z kJ Z Z Z λ uK rY fY=> ?_;have:=rY.size;have h8:=Ext.mod kB rY bs;refine ai<|aj<|J (ak Z (fY.all Ct kJ))<|vm Z<|ca asX Z Z ((aDc e2 dL bm (k:Int) _ (hx.keep h8)).mono ?_);rintro e nP ⟨rfl,eG⟩;refine ⟨_,Z, ?_⟩;have:=eG.size;have fx:=γ h8 eG;refine J (eg Z)<|ai<| ?_;refine dE Z (λ sM=> ?_) (λ sM=> ?_)
    ·refine aj<|va Z<|ai<|rt<|eF<|bO<|mq<|eF<|bO<|a8 (.tmp Z .nil)<| ?_;exact ⟨4,Z,⟨λ bd=>absurd bd (by decide),λ bd=>absurd bd (λ bd=>by have vB:=(bd.2.2 k bm j9).2;rw [vB] at sM;cases sM)⟩,fx⟩
    ·have axu:bm.xT k=true:=by simpa using sM
     refine fo<|bY<|aV<|rg<|J (bad Z Z (bH (by omega)))<|vm Z<|nl<| ?_;exact c' _ _ ⟨k+1,Z,Z,fx,by omega,λ i s ar hs=>aCK aO j9 axu ar hs⟩ (by omega) (.cons Z (.cons Z (.cons (b2 Z (by first | omega | rfl | (simp<;>omega))) .nil)))
   ·refine dK<|dJ<|ei<|dI<|aV<|aj<|va Z<|ai<|rt<|a8 (.tmp Z .nil)<| ?_;exact ⟨0,Z,⟨λ _=>⟨by have:=hS.len;have K3:=j_;omega,by have:=hS.len;have K3:=j_;omega,λ i s hs=>⟨axy i s hs,aO i s (by have:=(aRS.1 hs).1;have:=hS.len;omega) hs⟩⟩,λ _=>Z⟩,mv⟩
end
section
theorem Vi {w:World}:∀ {ess:List (List Value)} {l:List Int},c_ (λ es a=>bQ.has w es a) ess l→ess.flatten=l.map (Value.int .i64)
 | [], [],_=>rfl
 | es::ess,a::l,h=>by
  obtain ⟨κ,aa⟩:=h;rw [aSN,gx κ,Vi aa];rfl
 | [],_::_,h=>h.elim
 | _::_, [],h=>h.elim
theorem TT {w:World}:∀ {l:List Int},(∀ a∈l,fN a)→c_ (λ es a=>bQ.has w es a) (l.map λ a=> [Value.int .i64 a]) l
 | [],_=>trivial
 | a::l,h=>⟨⟨rfl,h a aSe⟩,TT λ b Φ=>h b (aR7 _ Φ)⟩
end
end Go.Proofs.YtlikikpgmmkjbaaGreat
namespace Go.Proofs.YtlikikpgmmkjbaaGreat.kD
open Tryz
open Go.Proofs.YtlikikpgmmkjbaaGreat.fy
def step (n:BitVec 32):BitVec 32:=n >>> 1 ^^^ (3988292384#32 &&& -(n &&& 1#32))
def steps:Nat→BitVec 32→BitVec 32
 | 0,n=>n
 | k+1,n=>steps k (step n)
def take (n:BitVec 32) (b:UInt8):BitVec 32:=steps 8 (n ^^^ b.toBitVec.setWidth 32)
def fold (n:BitVec 32) (l:List UInt8):BitVec 32:=l.foldl take n
def more (n:BitVec 32) (l:List UInt8):BitVec 32:= ~~~(fold (~~~n) l)
def of (l:List UInt8):BitVec 32:=more 0#32 l

theorem at9 (n:BitVec 32) (l m:List UInt8):fold n (l++m)=fold (fold n l) m:=by
 unfold fold;rw [aTo]
theorem aua (n:BitVec 32) (l:List UInt8) (b:UInt8):fold n (l++ [b])=take (fold n l) b:=by
 rw [at9];rfl

theorem Zd (m:BitVec 32):bits BinOp.xor IntKind.u32 (U m / 2) (bits BinOp.and IntKind.u32 3988292384 (-bits BinOp.and IntKind.u32 (U m) 1 % 4294967296))=U (step m):=by
 refine PH (OQ _ _ _) (OP _ _ _) ?_;have κ:=ajU (n:=32) (U m) 1 (TN m) (by have:=ao0 m;omega);rw [Ym,ajQ,aAB,aAE,ajQ,vW];rw [show (U m / 2:Int)=U m / 2 ^ 1 by rfl,κ,vW];rfl
theorem ayc (x y:Int) (aG:0≤y) (κ:y<256):bits BinOp.xor IntKind.u32 x y=U (BitVec.ofInt 32 x ^^^ (BitVec.ofInt 8 y).setWidth 32):=by
 refine PH (OQ _ _ _) (OP _ _ _) ?_;rw [Ym];obtain ⟨m,rfl⟩:=aTJ aG;congr 1;rw [aSS,aSS];apply aWp;simp only [aTx,BitVec.toNat_setWidth];omega
end Go.Proofs.YtlikikpgmmkjbaaGreat.kD
namespace Go.Proofs.YtlikikpgmmkjbaaGreat
open Tryz
end Go.Proofs.YtlikikpgmmkjbaaGreat
