import Derived.Test.YtmeeljmapailnaaGreatSvO
set_option linter.unusedVariables false
set_option linter.unusedSimpArgs false
set_option maxRecDepth 100000
set_option maxHeartbeats 4000000
open Go.RowKit
namespace Go.Proofs.YtmeeljmapailnaaGreat
open Tryz
section
theorem apx:eX prog bQ 22 3 8:=eX.lV (z:= .int .i64 0) (k:=1) underlying22 DQ rfl rfl (by decide) (λ j u h=>Jc j u h)
theorem Un:eX prog qq 92 130 8:=eX.lV (z:= .int .u64 0) (k:=1) underlying92 ahP rfl rfl (by decide) (λ j u h=>ale j u h)
open Go.Proofs.YtmeeljmapailnaaGreat.fu
theorem IG (l:List Int) (A:Option Addr) (c:Nat) (w:World) (ay:bQ.aJ 8 w A c l):
  Calls prog 86 #[.slice A l.length c] w (λ e w'=>e= .returned (.int .u64 (U (q3 l)))∧Ext w w'):=by
 refine cl (n:=12) func86 Z Z Z ?_;refine aj<|va Z<|ai<|aj<|vm Z<|ca aeK Z Z ((aBc l _ _ _ (ay.keep (Ext.bN w))).mono ?_);rintro e l0 ⟨⟨aLE,rfl⟩,a8⟩;refine ⟨_,Z, ?_⟩;have:=a8.size;have fJ:=γ (Ext.bN w) a8;refine vm Z<|J (ex Z Z)<|J (ex Z Z)<|va Z<|va Z<|ai<|aj<|vm Z<|ca as6 Z Z ((azl (I7 l) (aBb _) _).mono ?_);rintro e aE9 ⟨rfl,anr⟩;refine ⟨_,Z, ?_⟩;have:=anr.size;have G4:=γ fJ anr;refine va Z<|ai<|rt<|bd (.tmp Z .nil)<| ?_;exact ⟨Z,G4⟩
theorem az1 (a:ae.b2) (W:ae) (w:World) (bG:ae.Has w a W) (hc:W.bm≠0):
  Calls prog 50 #[.agg ((ae.cells a W).toArray)] w (λ e w'=>e= .returned (.tuple #[.int .u64 (U (sr W)), .int .i64 W.bm])∧Ext w w'):=by
 have X2:(W.bm != 0)=true:=by simpa using hc
 refine cl (n:=107) func50 Z Z Z ?_;refine aj<|cA Z Z Z Z λ cC bF a8 ef aa=> ?_;have:=a8.size;have bj:=γ (Ext.bN w) a8;have ei:=aa.lt;refine va Z<|va Z<|ai<|aA<|aj<|J (ao Z (aa.all dc b3))<|ca FE Z Z ((A8 a W _ (bG.keep bj)).mono ?_);rintro e ew ⟨rfl,cz⟩;refine ⟨_,Z, ?_⟩;have:=cz.size;have bO:=γ bj cz;refine va Z<|ai<|aj<|vm Z<|J (bne Z Z)<|ai<|fi (gD Z X2)<|aj<|vm Z<|va Z<|va Z<|ai<|rt<|bT<|bd (.tmp Z (.tmp Z .nil))<| ?_;exact ⟨by unfold sr;rw [aR5 hc];rfl,bO⟩
theorem az2 (a:ae.b2) (W:ae) (w:World) (bG:ae.Has w a W) (hc:W.bm=0):
  Calls prog 50 #[.agg ((ae.cells a W).toArray)] w (λ e w'=>e= .returned (.tuple #[.int .u64 (U (sr W)), .int .i64 W.bm])∧Ext w w'):=by
 have X2:(W.bm != 0)=false:=by simpa using hc
 have br:=Good.q_ hc;have aJ5:=br.kg;have aJ6:=br.dV;have aJ7:=br.sl;have aJ4:=br.tD;have aJ0:=aE.eE br.field;obtain ⟨B4,ss,qk,su⟩:=bG.nums;have X8:=bG.B.eE;have ajk:=bG.M.eE;have uJ:=bG.T.eE;refine cl (n:=107) func50 Z Z Z ?_;refine aj<|cA Z Z Z Z λ cC bF a8 ef aa=> ?_;have:=a8.size;have bj:=γ (Ext.bN w) a8;have ei:=aa.lt;refine va Z<|va Z<|ai<|aA<|aj<|J (ao Z (aa.all dc b3))<|ca FE Z Z ((A8 a W _ (bG.keep bj)).mono ?_);rintro e ew ⟨rfl,cz⟩;refine ⟨_,Z, ?_⟩;have:=cz.size;have bO:=γ bj cz;refine va Z<|ai<|aj<|vm Z<|J (bne Z Z)<|ai<|gZ (gD Z X2)<|bu<|aj<|J (av s5 Z)<|J (av Vv Z)<| ?_;have aa:=aa.later cz;refine J (ao Z (aa.one bc Z))<|J (av s5 Z)<|J (av as7 Z)<|J (ao Z (aa.one bc Z))<|J (av KX Z)<|J (ao Z (aa.one bc Z))<|J (av KZ Z)<|J (ao Z (aa.one bc Z))<|cX (e:= 3) (cs:= [.int .i64 1, .int .i64 W.field.wide, .int .i64 W.field.high, .int .i64 W.next, .int .i64 W.now]) Z (λ _=>by kernel_rfl) Z λ wP zh dv MQ ib=> ?_;have:=dv.size;have kU:=γ bO dv;have R6:=ib.lt;refine J (av s5 Z)<|J (av Bh Z)<| ?_;have aa:=aa.later dv;refine J (ao Z (aa.one gu Z))<| ?_;have Kt:=aP.wI (R:=bQ) (by_:=8) (B:=w.heap.size) (k:= [1,W.field.wide,W.field.high,W.next,W.now]) ib [[.int .i64 1], [.int .i64 W.field.wide], [.int .i64 W.field.high], [.int .i64 W.next], [.int .i64 W.now]] rfl (⟨⟨rfl,bM.2 (by decide)⟩,⟨⟨rfl,B4⟩,⟨⟨rfl,ss⟩,⟨⟨rfl,qk⟩,⟨⟨rfl,su⟩,trivial⟩⟩⟩⟩⟩) (by simp) (by simp) (by decide) (by omega);have amt:=λ q I=>(Kt.lt q I).2;have RB:∀ q∈τ.ah (some ⟨zh,0,none⟩),zh≤q:=λ q I=>aTy (aRT.1 I).symm;refine ap apx τ.dI Kt (bG.P.keep kU) Z Z (by simp only [aR0,aR6];omega) (by simp only [aR0,aR6];omega) kU.size Z λ Al EL UW lS uf H4 aAp=> ?_;have:=lS.size;have lJ:=Ext.mod kU lS (λ q I=>(Kt.lt q I).1);have SH:=λ q I=>(uf.lt q I).2;have:=lS.size;refine ca P6 Z Z ((IG ([1,W.field.wide,W.field.high,W.next,W.now]++W.field.aW) _ _ _ uf.has).mono ?_);rintro e vd ⟨rfl,dh⟩;refine ⟨_,Z, ?_⟩;have:=dh.size;have jI:=γ lJ dh;refine cX (e:= 130) (cs:= [.int .u64 (U (q3 ([1,W.field.wide,W.field.high,W.next,W.now]++W.field.aW)))]) Z (λ _=>by kernel_rfl) Z λ GI Pm kQ azd Hf=> ?_;have:=kQ.size;have rr:=γ jI kQ;have aB5:=Hf.lt;refine va Z<|ai<|aA<|aj<|J (av uC Z)<| ?_;have arJ:∀ q∈τ.ah (some ⟨zh,0,none⟩),q=bF→False:=λ q I Φ=>by (have:=RB q I;omega)
 have aa:=aa.mod lS (λ I=>arJ _ I rfl);have aa:=aa.later (γ dh kQ);refine J (ao Z (aa.one zw Z))<|J (cG underlying25 Z)<|vm Z<|ai<|bL<| ?_;have Kl:=aP.wI (R:=qq) (by_:=8) (B:=w.heap.size) (k:= [RO W]) Hf [[.int .u64 (U (RO W))]] rfl (⟨⟨rfl,trivial⟩,trivial⟩) (by simp) (by simp) (by decide) (by omega);have xI:∀ q∈τ.ah (some ⟨Pm,0,none⟩),q=Pm:=λ q I=>aRT.1 I;refine eL (λ cg cf aQ=>∃ dU:Nat,∃ E6:List (BitVec 64),∃ He:Option Addr,∃ PD:Nat,cf= [(1, .pointer (some ⟨bF,0,none⟩)),(2, .int .u64 0),(3, .int .i64 0),(5, .slice He E6.length PD),(35, .slice a.B W.aV.length a.b),(36, .int .i64 (W.aV.length:Int)),(37, .int .i64 (dU:Int))]∧cg=W.aV.length - dU∧Ext w aQ∧aP aQ bF (ae.cells a W) 28 (0,0)∧qq.aF 130 8 aQ w.heap.size (τ.ah He) He PD E6∧(dU≤W.aV.length)∧(E6=B2 W dU)∧(∀ q∈τ.ah He,q=bF→False)) _ _ ⟨0, [RO W],some ⟨Pm,0,none⟩,1,Z,Z,rr,aa,Kl,by omega,rfl,(λ q I Φ=>by (have:=xI q I;omega))⟩ (.cons Z (.cons Z (.cons Z (.cons Z (.cons Z (.cons Z (.cons (bW Z) .nil))))))) ?_;rintro mm aHn wR ⟨dU,E6,He,PD,rfl,rfl,jJ,aa,y5,p_,Wo,HK⟩;have:=jJ.size;have aO9:=aa.lt;have SI:=λ q I=>(y5.lt q I).2;refine aj<|J (blt Z Z)<|ai<|aA<| ?_;refine dY Z (λ avQ=> ?_) (λ avQ=> ?_)
 ·obtain ⟨c,m7⟩:∃ c,W.aV.getD dU default=c:=⟨_,rfl⟩;obtain ⟨kN,XC⟩:∃ kN,W.ba.getD dU 0=kN:=⟨_,rfl⟩;have akt:c.ok:=ax.nF bG.B c (by rw [← m7];exact jC (by omega));have YN:fQ kN:=Jd bG.S kN (by rw [← XC];exact jC (by omega));have axd:RN W dU=q3 [2,(dU:Int),c.x,c.y,kN]:=by unfold RN;rw [m7,XC]
  have afW:E6.length=dU+1:=by rw [Wo,Yw]
  refine bu<|aA<|bL<|aj<|vm Z<|J (b9 dU underlying25 bU Z Z ((bG.B.keep jJ).bP (bb dU)) Z (by omega))<|J (ao Z (τ.aJ.ik BA ((bG.B.keep jJ).cw (bb dU)) (show W.aV[dU]? =some c by rw [← m7];exact c8 (u:=default) (by omega)) cm bU))<|al Z xG Z Z λ Ao vF iX X_ xd=> ?_;have:=iX.size;have lq:=γ jJ iX;have Ja:=xd.lt;refine va Z<|st (new:= [.int .i64 c.x, .int .i64 c.y]) Z Z xd Z bU Z Z Z λ sB lF xd=> ?_;have:=lF.size;have i_:=Ext.mod lq lF bt;refine ai<| ?_;refine rd [(3,0),(5,0),(7,0),(10,0),(11,2),(12,0),(13,2),(14,3)] [0,1,2,3,4,5,6,7,8,9,10,11,12,13,14,15] (by kernel_rfl) (by kernel_rfl) ?_;refine au Z (λ _=>aK Z)<|au Z (λ _=>aK Z)<|au Z (λ _=>av je Z)<|bJ Z (λ _ x=>ao Z ((xd.later x).one bc Z))<|au Z (λ _=>av jf Z)<|bJ Z (λ _ x=>ao Z ((xd.later x).one bc Z))<|au Z (λ _=>av vU Z)<| ?_;have aa:=aa.later iX;have aa:=aa.mod lF aM;refine bJ Z (λ _ x=>ao Z ((aa.later x).one gu Z))<|au Z (λ _=>aK Z)<|au Z (λ _=>b9 dU underlying22 dx Z Z ((bG.S.keep i_).bP (bb dU)) Z (by omega))<|bJ Z (λ _ x=>ao Z (τ.aJ.fR gw ((bG.S.keep (γ i_ x)).cw (bb dU)) (show W.ba[dU]? =some kN by rw [← XC];exact c8 (u:=0) (by omega)) Z bc))<|gv Z Z Z λ JB qC Q hK=>cX (e:= 3) (cs:= [.int .i64 2, .int .i64 (dU:Int), .int .i64 c.x, .int .i64 c.y, .int .i64 kN]) Z (λ _=>by kernel_rfl) Z λ S0 acR km ajy nw=>hK _ _ ⟨γ qC km, ?_⟩;have:=qC.size;have qF:=γ i_ qC;have:=km.size;have tV:=γ qF km;have Y2:=nw.lt;refine p2 Z Z P6 Z (λ _ x=>IG ([2,(dU:Int),c.x,c.y,kN]) _ _ _ ((aP.LI (R:=bQ) (by_:=8) (k:= [2,(dU:Int),c.x,c.y,kN]) nw [[.int .i64 2], [.int .i64 (dU:Int)], [.int .i64 c.x], [.int .i64 c.y], [.int .i64 kN]] Z (⟨⟨Z,bM.2 (by decide)⟩,⟨⟨Z,bM.2 (by omega)⟩,⟨⟨Z,akt.1⟩,⟨⟨Z,akt.2⟩,⟨⟨Z,YN⟩,trivial⟩⟩⟩⟩⟩) (by simp) (by simp)).keep x)) Z<|gv Z Z Z λ NW iY Q hK=>cX (e:= 130) (cs:= [.int .u64 (U (q3 ([2,(dU:Int),c.x,c.y,kN])))]) Z (λ _=>by kernel_rfl) Z λ S4 aIL gN aMR abi=>hK _ _ ⟨γ iY gN, ?_⟩;have:=iY.size;have vu:=γ tV iY;have:=gN.size;have yQ:=γ vu gN;have aCd:=abi.lt;have y5:=y5.later iX;have y5:=y5.mod lF (bI SI);have y5:=y5.later (γ qC (γ km (γ iY gN)));refine eK Z Z Z λ Z_ h' Q hK=>ap Un τ.dI (y5.later h') ((aP.gS (R:=qq) (by_:=8) (q:=(q3 ([2,(dU:Int),c.x,c.y,kN]))) abi ⟨Z,trivial⟩ (by decide)).keep h') Z Z (by simp only [aR0,aR6];omega) (by simp only [aR0,aR6];omega) (by have:=h'.size;omega) Z λ GN anY aqO wD O7 auY aN6=>hK _ _ ?_;have:=h'.size;have vv:=γ yQ h';have:=wD.size;have ob:=Ext.mod vv wD (λ q I=>aSs (by omega) ((y5.later h').lt q I).1);have aQK:=λ q I=>(O7.lt q I).2;have:=wD.size;refine au Z (λ _=>fF Z)<|fn λ NZ kS=> ?_;have:=kS.size;have wY:=γ ob kS;refine bY<|aU<|rg<|J (bad Z Z (bD (by omega)))<|vm Z<|nl<| ?_;have aa:=aa.later (γ qC (γ km (γ iY (γ gN h'))));have aa:=aa.mod wD (λ I=>HK _ I rfl);have aa:=aa.later kS;have O7:=O7.later kS;exact c9 _ _ ⟨dU+1,E6++ [(q3 ([2,(dU:Int),c.x,c.y,kN]))],anY,aqO,Z,Z,wY,aa,O7,by omega,by rw [az3,Wo,axd],(λ q I Φ=>by (exact aR9 (auY q I) (λ aja=>by (exact HK q aja Φ)) (λ aja=>by omega)))⟩ (by omega) (.cons Z (.cons Z (.cons Z (.cons Z (.cons Z (.cons Z (.cons (bW Z) .nil)))))))
 ·refine dw<|du<|dN<|dt<|aU<|aA<|aj<|J (av Bk Z)<|J (ao Z (aa.one gu Z))<|J (cG underlying22 Z)<|vm Z<|ai<|bL<| ?_;refine eL (λ cg cf aQ=>∃ ez:Nat,∃ CQ:List (BitVec 64),∃ ko:Option Addr,∃ uq:Nat,cf= [(1, .pointer (some ⟨bF,0,none⟩)),(2, .int .u64 0),(3, .int .i64 0),(5, .slice ko CQ.length uq),(59, .slice a.M W.bk.length a.m),(60, .int .i64 (W.bk.length:Int)),(61, .int .i64 (ez:Int))]∧cg=W.bk.length - ez∧Ext w aQ∧aP aQ bF (ae.cells a W) 28 (0,0)∧qq.aF 130 8 aQ w.heap.size (τ.ah ko) ko uq CQ∧(ez≤W.bk.length)∧(CQ=B2 W W.aV.length++B3 W ez)∧(∀ q∈τ.ah ko,q=bF→False)) _ _ ⟨0,E6,He,PD,Z,Z,jJ,aa,y5,by omega,by rw [B3,aSz,Wo,show dU=W.aV.length by omega],(λ q I Φ=>by (exact HK q I Φ))⟩ (.cons Z (.cons Z (.cons Z (.cons Z (.cons Z (.cons Z (.cons (bW Z) .nil))))))) ?_;rintro yb aG4 N0 ⟨ez,CQ,ko,uq,rfl,rfl,ru,aa,iG,iA,Ln,HO⟩;have:=ru.size;have ak0:=aa.lt;have ZN:=λ q I=>(iG.lt q I).2;refine aj<|J (blt Z Z)<|ai<|aA<| ?_;refine dY Z (λ avA=> ?_) (λ avA=> ?_)
  ·obtain ⟨oF,Q8⟩:∃ oF,W.bk.getD ez 0=oF:=⟨_,rfl⟩;have YN:fQ oF:=Jd bG.M oF (by rw [← Q8];exact jC (by omega));have afW:CQ.length≤W.aV.length+1+ez:=by rw [Ln,aR1,Yw];have:=YB W ez;omega
   refine bu<|aA<|bL<|aj<|vm Z<|J (b9 ez underlying22 dx Z Z ((bG.M.keep ru).bP (bb ez)) Z (by omega))<|J (ao Z (τ.aJ.fR gw ((bG.M.keep ru).cw (bb ez)) (show W.bk[ez]? =some oF by rw [← Q8];exact c8 (u:=0) (by omega)) Z bc))<|va Z<|va Z<|ai<|aj<|vm Z<|J (bne Z Z)<|ai<| ?_;refine eV Z (λ FN=> ?_) (λ FN=> ?_)
   ·have BE:oF≠0:=by simpa using FN
    refine rg<|vm Z<|vm Z<|vm Z<|cX (e:= 3) (cs:= [.int .i64 3, .int .i64 (ez:Int), .int .i64 oF]) Z (λ _=>by kernel_rfl) Z λ SU apT kk ay6 JX=> ?_;have:=kk.size;have Ar:=γ ru kk;have aBV:=JX.lt;refine ca P6 Z Z ((IG ([3,(ez:Int),oF]) _ _ _ (aP.LI (R:=bQ) (by_:=8) (k:= [3,(ez:Int),oF]) JX [[.int .i64 3], [.int .i64 (ez:Int)], [.int .i64 oF]] Z (⟨⟨Z,bM.2 (by decide)⟩,⟨⟨Z,bM.2 (by omega)⟩,⟨⟨Z,YN⟩,trivial⟩⟩⟩) (by simp) (by simp))).mono ?_);rintro e aEX ⟨rfl,Ti⟩;refine ⟨_,Z, ?_⟩;have:=Ti.size;have aaq:=γ Ar Ti;refine cX (e:= 130) (cs:= [.int .u64 (U (q3 ([3,(ez:Int),oF])))]) Z (λ _=>by kernel_rfl) Z λ aQW aIe Tj aMc aaY=> ?_;have:=Tj.size;have aFU:=γ aaq Tj;have aBW:=aaY.lt;have iG:=iG.later (γ kk (γ Ti Tj));refine ap Un τ.dI iG (aP.gS (R:=qq) (by_:=8) (q:=(q3 ([3,(ez:Int),oF]))) aaY ⟨Z,trivial⟩ (by decide)) Z Z (by simp only [aR0,aR6];omega) (by simp only [aR0,aR6];omega) (by omega) Z λ aEY anM aqC RI ab8 auT aNG=> ?_;have:=RI.size;have Tp:=Ext.mod aFU RI (λ q I=>aSs (by omega) (iG.lt q I).1);have aQf:=λ q I=>(ab8.lt q I).2;have:=RI.size;refine va Z<|nl<|bY<|aU<|rg<|J (bad Z Z (bD (by omega)))<|vm Z<|nl<| ?_;have aa:=aa.later (γ kk (γ Ti Tj));have aa:=aa.mod RI (λ I=>HO _ I rfl);exact c9 _ _ ⟨ez+1,CQ++ [(q3 ([3,(ez:Int),oF]))],anM,aqC,Z,Z,Tp,aa,ab8,by omega,by rw [Ln,B3,Q8,aR5 BE];simp,(λ q I Φ=>by (exact aR9 (auT q I) (λ MA=>by (exact HO q MA Φ)) (λ MA=>by omega)))⟩ (by omega) (.cons Z (.cons Z (.cons Z (.cons Z (.cons Z (.cons Z (.cons (bW Z) .nil)))))))
   ·have BE:oF=0:=by simpa using FN
    refine fI<|bY<|aU<|rg<|J (bad Z Z (bD (by omega)))<|vm Z<|nl<| ?_;exact c9 _ _ ⟨ez+1,CQ,ko,uq,Z,Z,ru,aa,iG,by omega,by rw [Ln,B3,Q8,aR8 BE];simp,(λ q I Φ=>by (exact HO q I Φ))⟩ (by omega) (.cons Z (.cons Z (.cons Z (.cons Z (.cons Z (.cons Z (.cons (bW Z) .nil)))))))
  ·refine dw<|du<|dN<|dt<|aU<|aA<|aj<|J (av ku Z)<|J (ao Z (aa.one ma Z))<|J (cG underlying26 Z)<|vm Z<|ai<|bL<| ?_;refine eL (λ cg cf aQ=>∃ k7:Nat,∃ E7:List (BitVec 64),∃ Ox:Option Addr,∃ UR:Nat,cf= [(2, .int .u64 0),(3, .int .i64 0),(5, .slice Ox E7.length UR),(77, .slice a.T W.ak.length a.t),(78, .int .i64 (W.ak.length:Int)),(79, .int .i64 (k7:Int))]∧cg=W.ak.length - k7∧Ext w aQ∧qq.aF 130 8 aQ w.heap.size (τ.ah Ox) Ox UR E7∧(k7≤W.ak.length)∧(E7=B2 W W.aV.length++B3 W W.bk.length++(W.ak.take k7).map Na)) _ _ ⟨0,CQ,ko,uq,Z,Z,ru,iG,by omega,by rw [Ln,show ez=W.bk.length by omega];simp⟩ (.cons Z (.cons Z (.cons Z (.cons Z (.cons Z (.cons (bW Z) .nil)))))) ?_;rintro aNn aHa amO ⟨k7,E7,Ox,UR,rfl,rfl,Cv,y6,Xg,Wp⟩;have:=Cv.size;have amr:=λ q I=>(y6.lt q I).2;refine aj<|J (blt Z Z)<|ai<|aA<| ?_;refine dY Z (λ avH=> ?_) (λ avH=> ?_)
   ·obtain ⟨t,F6⟩:∃ t,W.ak.getD k7 default=t:=⟨_,rfl⟩;obtain ⟨py,mo,nU,oH,ql,I1,Nd⟩:fQ t.id∧fQ t.owner∧fQ t.kind∧fQ t.spot.x∧fQ t.spot.y∧fQ t.cD∧fQ t.load:=aY.nF bG.T t (by rw [← F6];exact jC (by omega));have afW:E7.length≤W.aV.length+1+W.bk.length+k7:=by rw [Wp,aR1,aR1,Yw,aSK,aRZ];have:=YB W W.bk.length;omega
    refine bu<|aA<|bL<|aj<|J (b9 k7 underlying26 ih Z Z ((bG.T.keep Cv).bP (bb k7)) Z (by omega))<|J (ao Z (τ.aJ.ik j0 ((bG.T.keep Cv).cw (bb k7)) (show W.ak[k7]? =some t by rw [← F6];exact c8 (u:=default) (by omega)) uB ih))<|al Z Bi Z Z λ amP aIl GX aMk yX=> ?_;have:=GX.size;have Oc:=γ Cv GX;have aON:=yX.lt;refine st (new:= [.int .i64 t.id, .int .i64 t.owner, .int .i64 t.kind, .int .i64 t.spot.x, .int .i64 t.spot.y, .int .i64 t.cD, .int .i64 t.load]) Z Z yX Z ih Z Z Z λ Z5 BZ yX=> ?_;have:=BZ.size;have EH:=Ext.mod Oc BZ bt;refine ai<|rg<|vm Z<|J (av FF Z)<|J (ao Z (yX.one bc Z))<|J (av FD Z)<|J (ao Z (yX.one bc Z))<|J (av HS Z)<|J (ao Z (yX.one bc Z))<|J (av uA Z)<|J (av je Z)<|J (ao Z (yX.one bc Z))<|J (av uA Z)<|J (av jf Z)<|J (ao Z (yX.one bc Z))<|J (av Qf Z)<|J (ao Z (yX.one bc Z))<|J (av xF Z)<|J (ao Z (yX.one bc Z))<|cX (e:= 3) (cs:= [.int .i64 4, .int .i64 t.id, .int .i64 t.owner, .int .i64 t.kind, .int .i64 t.spot.x, .int .i64 t.spot.y, .int .i64 t.cD, .int .i64 t.load]) Z (λ _=>by kernel_rfl) Z λ amR apV qy ay8 JY=> ?_;have:=qy.size;have Oe:=γ EH qy;have aBY:=JY.lt;refine ca P6 Z Z ((IG ([4,t.id,t.owner,t.kind,t.spot.x,t.spot.y,t.cD,t.load]) _ _ _ (aP.LI (R:=bQ) (by_:=8) (k:= [4,t.id,t.owner,t.kind,t.spot.x,t.spot.y,t.cD,t.load]) JY [[.int .i64 4], [.int .i64 t.id], [.int .i64 t.owner], [.int .i64 t.kind], [.int .i64 t.spot.x], [.int .i64 t.spot.y], [.int .i64 t.cD], [.int .i64 t.load]] Z (⟨⟨Z,bM.2 (by decide)⟩,⟨⟨Z,py⟩,⟨⟨Z,mo⟩,⟨⟨Z,nU⟩,⟨⟨Z,oH⟩,⟨⟨Z,ql⟩,⟨⟨Z,I1⟩,⟨⟨Z,Nd⟩,trivial⟩⟩⟩⟩⟩⟩⟩⟩) (by simp) (by simp))).mono ?_);rintro e aE4 ⟨rfl,aaj⟩;refine ⟨_,Z, ?_⟩;have:=aaj.size;have aav:=γ Oe aaj;refine cX (e:= 130) (cs:= [.int .u64 (U (q3 ([4,t.id,t.owner,t.kind,t.spot.x,t.spot.y,t.cD,t.load])))]) Z (λ _=>by kernel_rfl) Z λ aRd aIp sF aMp aa7=> ?_;have:=sF.size;have aF9:=γ aav sF;have aOT:=aa7.lt;have y6:=y6.later GX;have y6:=y6.mod BZ (bI amr);have y6:=y6.later (γ qy (γ aaj sF));refine ap Un τ.dI y6 (aP.gS (R:=qq) (by_:=8) (q:=(q3 ([4,t.id,t.owner,t.kind,t.spot.x,t.spot.y,t.cD,t.load]))) aa7 ⟨Z,trivial⟩ (by decide)) Z Z (by simp only [aR0,aR6];omega) (by simp only [aR0,aR6];omega) (by omega) Z λ aRg anR aqH Yp acf aJ1 aNQ=> ?_;have:=Yp.size;have aGc:=Ext.mod aF9 Yp (λ q I=>aSs (by omega) (y6.lt q I).1);have aQm:=λ q I=>(acf.lt q I).2;have:=Yp.size;refine va Z<|nl<|bY<|aU<|rg<|J (bad Z Z (bD (by omega)))<|vm Z<|nl<| ?_;exact c9 _ _ ⟨k7+1,E7++ [(q3 ([4,t.id,t.owner,t.kind,t.spot.x,t.spot.y,t.cD,t.load]))],anR,aqH,Z,Z,aGc,acf,by omega,by rw [Wp,aAd (by omega) F6,aSA];rfl⟩ (by omega) (.cons Z (.cons Z (.cons Z (.cons Z (.cons Z (.cons (bW Z) .nil))))))
   ·refine dw<|du<|dN<|dt<|aU<|aj<|vm Z<|ca as8 Z Z ((aAP E7 _ _ _ y6.has).mono ?_);rintro e aRl ⟨rfl,anp⟩;refine ⟨_,Z, ?_⟩;have:=anp.size;have aGg:=γ Cv anp;refine va Z<|va Z<|ai<|rt<|bd (.tmp Z (.tmp Z .nil))<| ?_;exact ⟨by unfold sr;rw [aR8 hc,hc,Wp,show k7=W.ak.length by omega,aSv];rfl,aGg⟩
theorem aj4 (a:ae.b2) (W:ae) (w:World) (bG:ae.Has w a W):Calls prog 50 #[.agg (ae.cells a W).toArray] w (λ e w'=>e= .returned (.tuple #[.int .u64 (U (sr W)), .int .i64 W.bm])∧Ext w w'):=by
 by_cases hc:W.bm=0
 ·exact az2 a W w bG hc
 ·exact az1 a W w bG hc
end
section
theorem apw:eX prog qq 92 130 8:=eX.lV (z:= .int .u64 0) (k:=1) underlying92 ahP rfl rfl (by decide) (λ j u h=>ale j u h)
open Go.Proofs.YtmeeljmapailnaaGreat.fu
theorem Nt (a:ae.b2) (W:ae) (A:Option Addr) (c:Nat) (T:List ho) (L:List (List aL)) (w:World) (bG:ae.Has w a W) (b6:oN.aJ 24 w A c T) (pb:qP w T L):
  Calls prog 25 #[.agg ((ae.cells a W).toArray), .slice A T.length c] w (λ e w'=>∃ e' a' V bK b5 ms,e= .returned (.tuple #[.agg (ae.cells a' V).toArray, .slice bK (ms:List (BitVec 64)).length b5, .int .i64 e'])∧Ff W L e' V ms∧bo w' w.heap.size a' V∧qq.aF 130 8 w' w.heap.size (τ.ah bK) bK b5 ms∧(∀ q,q∈τ.ah bK→q∈bo.bS a'→False)∧Ext w w'):=by
 refine cl (n:=64) func25 Z Z Z ?_;refine aj<|cA Z Z Z Z λ cC bF a8 ef aa=> ?_;have:=a8.size;have bj:=γ (Ext.bN w) a8;have ei:=aa.lt;refine al Z ov Z Z λ ew cu bl il ag=> ?_;have:=bl.size;have bO:=γ bj bl;have hW:=ag.lt;refine va Z<|va Z<|ai<|aA<|aj<|vm Z<|J (cG underlying30 Z)<|J (iJ Z Z)<|ai<| ?_;refine dY Z (λ iN=> ?_) (λ iN=> ?_)
 ·refine aj<|J (v:= .agg #[.int .i64 0, .int .i64 0, .slice none 0 0, .slice none 0 0, .slice none 0 0, .slice none 0 0, .slice none 0 0, .int .i64 0, .int .i64 0]) (cI Z (by kernel_rfl))<|st (new:= [.int .i64 0, .int .i64 0, .slice none 0 0, .slice none 0 0, .slice none 0 0, .slice none 0 0, .slice none 0 0, .int .i64 0, .int .i64 0]) Z Z ag Z b3 Z Z Z λ yB qf ag=> ?_;have:=qf.size;have kV:=Ext.mod bO qf bt;refine va Z<|va Z<|ai<|rt<|bT<|bd (.cell Z (ag.all dc b3) (.tmp Z (.tmp Z .nil)))<| ?_;exact ⟨2,⟨none,none,none,none,none,0,0,0,0,0⟩,ae.zero,none,0, [],Z, .inr ⟨by decide, .inl (by rw [← pb.1];omega),rfl,rfl⟩,bo.zero _ _,τ.aF.nil _,λ q I=>by simp [τ.ah] at I,kV⟩
 ·have avu:L.length≤200:=by rw [← pb.1];omega
  refine bu<|aj<| ?_;have aa:=aa.later bl;refine J (ao Z (aa.all dc b3))<|ca aeI Z Z ((al3 ([]:List c_) _ _ a W _ (bG.keep bO) (τ.aJ.nil _)).mono ?_);rintro e sA ⟨a20,JV,aqo,rfl,sU,abR,LP,cv⟩;refine ⟨_,Z, ?_⟩;have:=cv.size;have jo:=γ bO cv;have amu:=λ q I=>(sU.lt q I).2;have Gb:=λ q I=>(sU.lt q I).1;have pB:=λ q I=>(abR.lt q I).2;have MT:=λ q I=>(abR.lt q I).1;have arQ:∀ q∈τ.ah JV,q∈bo.bS a20→False:=LP;have asC:∀ q∈bo.bS a20,q∈τ.ah JV→False:=λ q κ ab=>LP q ab κ;refine vm Z<|J (ex Z Z)<|J (ex Z Z)<|J (ex Z Z)<| ?_;have aa:=aa.later cv;refine st Z Z aa Z b3 Z Z Z λ Am lT aa=> ?_;have:=lT.size;have kE:=Ext.mod jo lT bt;refine va Z<|va Z<|ai<|aA<|aj<|vm Z<|J (bne Z Z)<|ai<| ?_;refine eV Z (λ mf=> ?_) (λ mf=> ?_)
  ·have By:W.bm≠0:=λ bg=>mf (UI bg (by simp));refine aj<|J (v:= .agg #[.int .i64 0, .int .i64 0, .slice none 0 0, .slice none 0 0, .slice none 0 0, .slice none 0 0, .slice none 0 0, .int .i64 0, .int .i64 0]) (cI Z (by kernel_rfl))<|vm Z<| ?_;have ag:=ag.later cv;have ag:=ag.mod lT aM;refine st (new:= [.int .i64 0, .int .i64 0, .slice none 0 0, .slice none 0 0, .slice none 0 0, .slice none 0 0, .slice none 0 0, .int .i64 0, .int .i64 0]) Z Z ag Z b3 Z Z Z λ Cj wB ag=> ?_;have:=wB.size;have qD:=Ext.mod kE wB bt;refine va Z<|va Z<|ai<|rt<|bT<|bd (.cell Z (ag.all dc b3) (.tmp Z (.tmp Z .nil)))<| ?_;exact ⟨mI W ([]:List c_),⟨none,none,none,none,none,0,0,0,0,0⟩,ae.zero,none,0, [],Z, .inr ⟨mf, .inr (.inl By),Z,Z⟩,bo.zero _ _,τ.aF.nil _,λ q I=>by simp [τ.ah] at I,qD⟩
  ·have m7:W.bm=0:=(Pv (by first | exact mf | simpa using mf)).1;have F5:=al4 m7;refine bu<|aj<|J (ao Z (aa.all dc b3))<| ?_;have sU:=sU.mod lT (bB Gb);refine ca aeL Z Z ((aj4 a20 (fX W ([]:List c_)) _ sU.has).mono ?_);rintro e yD ⟨rfl,eA⟩;refine ⟨_,Z, ?_⟩;have:=eA.size;have j_:=γ kE eA;refine vm Z<|J (ex Z Z)<|J (ex Z Z)<|va Z<|va Z<|ai<|aj<|vm Z<|cX (e:= 130) (cs:= [.int .u64 (U (sr (fX W ([]:List c_))))]) Z (λ _=>by kernel_rfl) Z λ Er xv j9 ajv pK=> ?_;have:=j9.size;have mT:=γ j_ j9;have ak6:=pK.lt;refine va Z<|ai<|aA<|aj<|vm Z<|J (cG underlying30 Z)<|vm Z<|ai<|bL<| ?_;have Kl:=aP.wI (R:=qq) (by_:=8) (B:=w.heap.size) (k:= [sr (fX W ([]:List c_))]) pK [[.int .u64 (U (sr (fX W ([]:List c_))))]] rfl (⟨⟨rfl,trivial⟩,trivial⟩) (by simp) (by simp) (by decide) (by omega);have xI:∀ q∈τ.ah (some ⟨xv,0,none⟩),q=xv:=λ q I=>aRT.1 I;have aa:=aa.later (γ eA j9);have sU:=sU.later (γ eA j9);have ag:=ag.later cv;have ag:=ag.mod lT aM;have ag:=ag.later (γ eA j9);refine eL (λ cg cf aQ=>∃ k:Nat,∃ E9:List (BitVec 64),∃ cT:Option Addr,∃ hT:Nat,∃ jV:ae.b2,∃ c0:ae,cf= [(2, .pointer (some ⟨bF,0,none⟩)),(4, .pointer (some ⟨cu,0,none⟩)),(11, .slice cT E9.length hT),(35, .slice A T.length c),(36, .int .i64 (T.length:Int)),(37, .int .i64 (k:Int))]∧cg=T.length - k∧Ext w aQ∧aP aQ cu [.int .i64 0, .int .i64 0, .slice none 0 0, .slice none 0 0, .slice none 0 0, .slice none 0 0, .slice none 0 0, .int .i64 0, .int .i64 0] 28 (0,0)∧qq.aF 130 8 aQ w.heap.size (τ.ah cT) cT hT E9∧aP aQ bF (ae.cells jV c0) 28 (0,0)∧bo aQ w.heap.size jV c0∧(k≤T.length)∧(kh W (L.take k)=0)∧(c0=ki W (L.take k))∧(E9=yv W (L.take k))∧(∀ q∈bo.bS jV,q=bF→False)∧(∀ q∈bo.bS jV,q=cu→False)∧(∀ q∈τ.ah cT,q=cu→False)∧(∀ q∈τ.ah cT,q=bF→False)∧(∀ q∈τ.ah cT,q∈bo.bS jV→False)) _ _ ⟨0, [sr (fX W ([]:List c_))],some ⟨xv,0,none⟩,1,a20,fX W ([]:List c_),Z,Z,mT,ag,Kl,aa,(sU.down (by omega)),by omega,rfl,F5.1,(by rw [F5.1];rfl),(λ q I Φ=>by exfalso;(have:=Gb q I;omega)),(λ q I Φ=>by exfalso;(have:=Gb q I;omega)),(λ q I Φ=>by (have:=xI q I;omega)),(λ q I Φ=>by (have:=xI q I;omega)),(λ q I Φ=>by (have:=xI q I;(have:=amu q Φ;omega)))⟩ (.cons Z (.cons Z (.cons Z (.cons Z (.cons Z (.cons (bW Z) .nil)))))) ?_;rintro RK aHq Ao ⟨k,E9,cT,hT,jV,c0,rfl,rfl,lq,ag,c7,b_,di,ar,nL,Ib,QD,adH,arx,vP,Dd,Fy⟩;have:=lq.size;have aB9:=ag.lt;have Cd:=λ q I=>(c7.lt q I).2;have Ja:=b_.lt;have Ce:=λ q I=>(di.lt q I).2;have aKd:E9.length≤k+1:=by rw [QD,aln,aRZ];omega
   refine aj<|J (blt Z Z)<|ai<|aA<| ?_;refine dY Z (λ LC=> ?_) (λ LC=> ?_)
   ·obtain ⟨eg,dn,cQ,gm,rV,hx⟩:=pb.at_ (k:=k) (by omega);refine bu<|aA<|bL<|aj<|J (b9 k underlying30 Be Z Z ((b6.keep lq).bP (bb k)) Z (by omega))<|J (v:= .slice eg cQ.length dn) (ao Z (τ.aJ.fR QR ((b6.keep lq).cw (bb k)) gm Z o6))<|va Z<|ai<|aA<|aj<|J (ao Z (b_.all dc b3))<|vm Z<|ca P7 Z Z ((Jn jV c0 _ _ cQ _ di.has (hx.keep lq)).mono ?_);rintro e amV ⟨a59,aaD,aI6,aaE,aI7,aaF,aI8,rfl,y2,abY,abZ,ab0,WZ,G2⟩;refine ⟨_,Z, ?_⟩;have:=G2.size;have Ok:=γ lq G2;have GF:=λ q I=>(y2.lt q I).2;have MV:=λ q I=>(y2.lt q I).1;have NO:=λ q I=>(abY.lt q I).2;have aNd:=λ q I=>(abY.lt q I).1;have Cf:=λ q I=>(abZ.lt q I).2;have MW:=λ q I=>(abZ.lt q I).1;have NP:=λ q I=>(ab0.lt q I).2;have azD:=λ q I=>(ab0.lt q I).1;have arX:∀ q∈τ.ah aaD,q∈bo.bS a59→False:=λ q I=>WZ q (.inl I);have aJB:∀ q∈bo.bS a59,q∈τ.ah aaD→False:=λ q κ ab=>arX q ab κ;have arY:∀ q∈τ.ah aaE,q∈bo.bS a59→False:=λ q I=>WZ q (.inr (.inl I));have aJC:∀ q∈bo.bS a59,q∈τ.ah aaE→False:=λ q κ ab=>arY q ab κ;have arZ:∀ q∈τ.ah aaF,q∈bo.bS a59→False:=λ q I=>WZ q (.inr (.inr I));have aJD:∀ q∈bo.bS a59,q∈τ.ah aaF→False:=λ q κ ab=>arZ q ab κ;refine vm Z<|J (ex Z Z)<|J (ex Z Z)<|J (ex Z Z)<| ?_;have b_:=b_.later G2;refine st Z Z b_ Z b3 Z Z Z λ NW iP b_=> ?_;have:=iP.size;have vu:=Ext.mod Ok iP bt;refine va Z<|ai<|aj<|vm Z<|J (bne Z Z)<|ai<| ?_;refine eV Z (λ we=> ?_) (λ we=> ?_)
    ·refine aj<|J (v:= .agg #[.int .i64 0, .int .i64 0, .slice none 0 0, .slice none 0 0, .slice none 0 0, .slice none 0 0, .slice none 0 0, .int .i64 0, .int .i64 0]) (cI Z (by kernel_rfl))<|vm Z<| ?_;have ag:=ag.later G2;have ag:=ag.mod iP aM;refine st (new:= [.int .i64 0, .int .i64 0, .slice none 0 0, .slice none 0 0, .slice none 0 0, .slice none 0 0, .slice none 0 0, .int .i64 0, .int .i64 0]) Z Z ag Z b3 Z Z Z λ Z9 nd ag=> ?_;have:=nd.size;have G7:=Ext.mod vu nd bt;refine va Z<|va Z<|ai<|rt<|bT<|e_<|bT<|nZ<|e_<|bT<|bd (.cell Z (ag.all dc b3) (.tmp Z (.tmp Z .nil)))<| ?_;exact ⟨fa c0 cQ,⟨none,none,none,none,none,0,0,0,0,0⟩,ae.zero,none,0, [],Z, .inr ⟨we, .inr (.inr (Sh (k:=k+1) (by rw [Si nL rV,← Ib];exact we))),Z,Z⟩,bo.zero _ _,τ.aF.nil _,λ q I=>by simp [τ.ah] at I,G7⟩
    ·have avm:kh W (L.take (k+1))=0:=by rw [Si nL rV,← Ib];first | exact we | simpa using we
     refine bu<|aj<|J (ao Z (b_.all dc b3))<| ?_;have y2:=y2.mod iP (bB MV);refine ca aeL Z Z ((aj4 a59 (iC c0 cQ) _ y2.has).mono ?_);rintro e Es ⟨rfl,h_⟩;refine ⟨_,Z, ?_⟩;have:=h_.size;have qH:=γ vu h_;refine vm Z<|J (ex Z Z)<|J (ex Z Z)<|va Z<|ai<|rg<|vm Z<|vm Z<|cX (e:= 130) (cs:= [.int .u64 (U (sr (iC c0 cQ)))]) Z (λ _=>by kernel_rfl) Z λ GN aIP ln aMW abl=> ?_;have:=ln.size;have ob:=γ qH ln;have aPw:=abl.lt;have c7:=c7.later G2;have c7:=c7.mod iP (λ q I h=>by have Φ:=aRT.1 h;exfalso;(exact Dd q I Φ));have c7:=c7.later (γ h_ ln);refine ap apw τ.dI c7 (aP.gS (R:=qq) (by_:=8) (q:=(sr (iC c0 cQ))) abl ⟨Z,trivial⟩ (by decide)) Z Z (by simp only [aR0,aR6];omega) (by simp only [aR0,aR6];omega) (by omega) Z λ S9 an0 aqT Gl acs V' aN9=> ?_;have:=Gl.size;have CA:=Ext.mod ob Gl (λ q I=>aSs (by omega) (c7.lt q I).1);have aEm:=λ q I=>(acs.lt q I).2;have:=Gl.size;refine va Z<|nl<|bY<|aU<|rg<|J (bad Z Z (bD (by omega)))<|vm Z<|nl<| ?_;have ag:=ag.later G2;have ag:=ag.mod iP aM;have ag:=ag.later (γ h_ ln);have ag:=ag.mod Gl (λ I=>vP _ I rfl);have b_:=b_.later (γ h_ ln);have b_:=b_.mod Gl (λ I=>Dd _ I rfl);have di:=di.later G2;have di:=di.mod iP (λ q I h=>by have Φ:=aRT.1 h;exfalso;(exact adH q I Φ));have di:=di.later (γ h_ ln);have di:=di.mod Gl (λ q I h=>Fy q h I);have y2:=y2.later (γ h_ ln);have y2:=y2.mod Gl (λ q I h=>by exfalso;(have:=MV q I;(have:=Cd q h;omega)));exact c9 _ _ ⟨k+1,E9++ [(sr (iC c0 cQ))],an0,aqT,a59,iC c0 cQ,Z,Z,CA,ag,acs,b_,(y2.down (by omega)),by omega,avm,by rw [z8 rV,Zg,Ib];rfl,by rw [QD,z8 rV,alo,Ib],(λ q I Φ=>by exfalso;(have:=MV q I;omega)),(λ q I Φ=>by exfalso;(have:=MV q I;omega)),(λ q I Φ=>by (exact aR9 (V' q I) (λ Ms=>by (exact vP q Ms Φ)) (λ Ms=>by omega))),(λ q I Φ=>by (exact aR9 (V' q I) (λ Mt=>by (exact Dd q Mt Φ)) (λ Mt=>by omega))),(λ q I Φ=>by (exact aR9 (V' q I) (λ DR=>by (have:=MV q Φ;(have:=Cd q DR;omega))) (λ DR=>by (have:=GF q Φ;omega))))⟩ (by omega) (.cons Z (.cons Z (.cons Z (.cons Z (.cons Z (.cons (bW Z) .nil))))))
   ·have k3:k=L.length:=by rw [← pb.1];omega
    refine dw<|du<|dN<|dt<|aU<|aj<|J (ao Z (b_.all dc b3))<|vm Z<|st Z Z ag Z b3 Z Z Z λ aQT RH ag=> ?_;have:=RH.size;have aFR:=Ext.mod lq RH bt;refine va Z<|va Z<|ai<|rt<|bd (.cell Z (ag.all dc b3) (.tmp Z (.tmp Z .nil)))<| ?_;have c7:=c7.mod RH (λ q I h=>by have Φ:=aRT.1 h;exfalso;(exact vP q I Φ));have di:=di.mod RH (λ q I h=>by have Φ:=aRT.1 h;exfalso;(exact arx q I Φ));rw [k3,aSv] at nL Ib QD;exact ⟨0,jV,c0,cT,hT,E9,Z, .inl ⟨Z,avu,m7,nL,Ib,QD⟩,di.down (by omega),c7,λ q I hf=>by exfalso;(exact Fy q I hf),aFR⟩
end
section
inductive CT where
 | last (i:Nat) (b1:List Nat)
 | two (i:Nat) (b1:List Nat) (t1 t2:CT)
def CT.hd:CT→Nat
 | .last i _=>i
 | .two i _ _ _=>i
section
variable {P:Program} {n:Nat} {E:List (Nat×Value)} {w:World} {Q:Exit→Act→World→Prop} {ops:Array Oper} {a7:Nat→Nat}
def Tb (P:Program) (ops:Array Oper) (Q:Exit→Act→World→Prop) (a7:Nat→Nat):CT→Act→World→Prop
 | .last i b1=>vg P ops (hC (Q .normal)) a7 (i::b1)
 | .two i b1 t1 t2=>vg P ops (hC (λ a w=>Tb P ops Q a7 t1 a w∧Tb P ops Q a7 t2 a w)) a7 (i::b1)
def amc (ops:Array Oper) (a7:Nat→Nat):CT→Array Bool→Nat→Bool
 | .last i b1,l,m=>Nat.blt 1 (a7 i) && kI ops a7 b1 (l.setIfInBounds i true) && Nat.beq (b1.length+1) m
 | .two i b1 t1 t2,l,m=>Nat.blt 1 (a7 i) && FG ops a7 b1 (l.setIfInBounds i true) && (Region.ready .any ops (z6 b1 (l.setIfInBounds i true))== [t1.hd,t2.hd]) && Nat.ble (b1.length+2) m && amc ops a7 t1 (z6 b1 (l.setIfInBounds i true)) (m - 1 - b1.length) && amc ops a7 t2 (z6 b1 (l.setIfInBounds i true)) (m - 1 - b1.length)
def aGK (P:Program) (ops:Array Oper) (Q:Exit→Act→World→Prop) (a7:Nat→Nat) (t1 t2:CT):Exit→Act→World→Prop:=hC (λ a w=>Tb P ops Q a7 t1 a w∧Tb P ops Q a7 t2 a w)
end
end
section
def EP (D:Nat) (w w':World):Prop:=w.heap.size≤w'.heap.size∧(D≤w.heap.size→Below D w w')
theorem EP.uU {D:Nat} {a b c:World} (h:EP D a b) (k:EP D b c):EP D a c:=⟨aSs h.1 k.1,λ hd=>Below.trans (h.2 hd) (k.2 (aSs hd h.1))⟩
section
variable {D:Nat} {P:Program} {ops:Array Oper} {Q:Exit→Act→World→Prop} {a7:Nat→Nat}
def acv (D:Nat) (P:Program) (ops:Array Oper) (w0:World) (o:Oper) (v:Value) (a:Act):Prop :=
  (Region.wanted o (yielded ops a.tmps)=true∧∀ w,EP D w0 w→zY P w v ((execOp a.eval o).run P w))∨
  (Region.wanted o (yielded ops a.tmps)=false∧v=undef)
def aDq (D:Nat) (P:Program) (ops:Array Oper) (Q:Exit→Act→World→Prop) (a7:Nat→Nat) (i:Nat) (K:Act→World→Prop) (a:Act) (w0:World):Prop :=
  ∃ o,ops[i]? =some o∧
    ((a7 i≤1∧∃ v,acv D P ops w0 o v a∧K (a.put o.dst v) w0)∨
     (1<a7 i∧∀ w,Ext w0 w→wpOp P ops Q i (λ a' w'=>(a7 i=2→EP D w0 w')∧K a' w') a w))
def apQ (D:Nat) (P:Program) (ops:Array Oper) (Q:Exit→Act→World→Prop) (a7:Nat→Nat):Nat→Array Bool→Act→World→Prop
  | 0,l,a,w0=>Region.ready .any ops l= []∧∀ w,Ext w0 w→Q .normal a w
  | f+1,l,a,w0=>(Region.ready .any ops l= []→∀ w,Ext w0 w→Q .normal a w)∧∀ i∈Region.ready .any ops l,aDq D P ops Q a7 i (apQ D P ops Q a7 f (l.setIfInBounds i true)) a w0
def JH (D:Nat) (P:Program) (ops:Array Oper) (Q:Exit→Act→World→Prop) (a7:Nat→Nat):List Nat→Act→World→Prop
  | [],a,w0=>∀ w,Ext w0 w→Q .normal a w
  | i::r,a,w0=>∃ o,ops[i]? =some o∧
      ((a7 i=0∧∃ v,acv D P ops w0 o v a∧JH D P ops Q a7 r (a.put o.dst v) w0)∨
       (a7 i=1∧∃ v,Yields P ops o v a∧JH D P ops Q a7 r (a.put o.dst v) w0)∨
       (1<a7 i∧∀ w,Ext w0 w→wpOp P ops Q i (λ a' w'=>(a7 i=2→EP D w0 w')∧JH D P ops Q a7 r a' w') a w))
end
section
variable {D:Nat} {P:Program} {n:Nat} {E cU:List (Nat×Value)} {a:Act} {w w' w0 aT:World} {Q:Exit→Act→World→Prop} {ops:Array Oper} {v:Value} {a7:Nat→Nat}
variable {d:Option Nat} {ty:TypeId} {pos:String} {af:Array Edge} {g:Option (Nat×Bool)} {x y z:Operand} {t:TypeId} {rest:List Oper} {b1:List Nat} {i:Nat}
def aHD (D:Nat) (P:Program) (n:Nat) (ops:Array Oper) (Q:Exit→Act→World→Prop) (a7:Nat→Nat) (b1:List Nat) (E:List (Nat×Value)) (w0:World):Prop:=∀ a,ep n E a→JH D P ops (hC (Q .normal)) a7 b1 a w0
end
end
section
section
variable {D:Nat} {P:Program} {n:Nat} {E:List (Nat×Value)} {w:World} {Q:Exit→Act→World→Prop} {ops:Array Oper} {a7:Nat→Nat}
def Tc (D:Nat) (P:Program) (ops:Array Oper) (Q:Exit→Act→World→Prop) (a7:Nat→Nat):CT→Act→World→Prop
 | .last i b1=>JH D P ops (hC (Q .normal)) a7 (i::b1)
 | .two i b1 t1 t2=>JH D P ops (hC (λ a w=>Tc D P ops Q a7 t1 a w∧Tc D P ops Q a7 t2 a w)) a7 (i::b1)
def aGL (D:Nat) (P:Program) (ops:Array Oper) (Q:Exit→Act→World→Prop) (a7:Nat→Nat) (t1 t2:CT):Exit→Act→World→Prop:=hC (λ a w=>Tc D P ops Q a7 t1 a w∧Tc D P ops Q a7 t2 a w)
end
end
section
open Go.Proofs.YtmeeljmapailnaaGreat.fu
def qO (W:ae) (L:List (List aL)):Prop:=L.length≤200∧W.bm=0∧kh W L=0
def aGJ (W:ae) (L:List (List aL)) (n e:Int) (V:ae):Prop :=
 (e=0∧qO W L∧0≤n∧n≤(L.length:Int)∧V=ki W (L.take n.toNat))∨(e≠0∧¬(qO W L∧0≤n∧n≤(L.length:Int))∧V=ae.zero)
theorem Ff.St {W:ae} {L:List (List aL)} {e:Int} {V:ae} {ms:List (BitVec 64)} (h:Ff W L e V ms):e=0↔qO W L :=
 ⟨λ aG=>by obtain ⟨κ,ab,aw,_,_⟩:=h.ok aG;exact ⟨κ,ab,aw⟩,λ ⟨κ,ab,aw⟩=>(h.zero κ ab aw).1⟩
theorem qO.take {W:ae} {L:List (List aL)} (h:qO W L) (k:Nat):qO W (L.take k):=
 ⟨by have:=h.1;rw [aRZ];omega,h.2.1,aTo λ aG=>Sh aG h.2.2⟩
theorem aq8 (a:ae.b2) (W:ae) (A:Option Addr) (c:Nat) (T:List ho) (L:List (List aL)) (w:World) (bG:ae.Has w a W) (b6:oN.aJ 24 w A c T) (pb:qP w T L):
  Calls prog 45 #[.agg #[.int .i64 W.field.wide, .int .i64 W.field.high, .slice a.P W.field.aW.length a.p, .slice a.B W.aV.length a.b, .slice a.S W.ba.length a.s, .slice a.M W.bk.length a.m, .slice a.T W.ak.length a.t, .int .i64 W.next, .int .i64 W.now, .slice A T.length c]] w (λ e w'=>∃ e':Int,e= .returned (.int .i64 e')∧(e'=0↔qO W L)∧Ext w w'):=by
 have BD:=b6.eE;refine cl (n:=16) func45 Z Z Z ?_;refine aj<|cA Z Z Z Z λ cC bF a8 ef aa=> ?_;have:=a8.size;have bj:=γ (Ext.bN w) a8;have ei:=aa.lt;refine va Z<|ai<|aj<|J (av HQ Z)<|J (ao Z (aa.par [.int .i64 W.field.wide, .int .i64 W.field.high, .slice a.P W.field.aW.length a.p, .slice a.B W.aV.length a.b, .slice a.S W.ba.length a.s, .slice a.M W.bk.length a.m, .slice a.T W.ak.length a.t, .int .i64 W.next, .int .i64 W.now] dc b3 Z))<|J (av vQ Z)<|J (ao Z (aa.one Bf Z))<|ca K1 Z Z ((Nt a W _ _ T L _ (bG.keep bj) (b6.keep bj) (pb.keep bj)).mono ?_);rintro e Aj ⟨J6,Pe,aH4,aaG,eD,aNw,rfl,Xy,aby,abT,agA,kP⟩;refine ⟨_,Z, ?_⟩;have:=kP.size;have jn:=γ bj kP;have amy:=λ q I=>(aby.lt q I).2;have aM6:=λ q I=>(aby.lt q I).1;have aD9:=λ q I=>(abT.lt q I).2;have azz:=λ q I=>(abT.lt q I).1;have aJo:∀ q∈τ.ah aaG,q∈bo.bS Pe→False:=agA;have aJH:∀ q∈bo.bS Pe,q∈τ.ah aaG→False:=λ q κ ab=>agA q ab κ;refine vm Z<|J (ex Z Z)<|J (ex Z Z)<|J (ex Z Z)<|al Z ov Z Z λ yB aIr mz aza TK=> ?_;have:=mz.size;have kV:=γ jn mz;have R7:=TK.lt;refine st Z Z TK Z b3 Z Z Z λ Ch lS TK=> ?_;have:=lS.size;have kD:=Ext.mod kV lS bt;refine va Z<|va Z<|ai<|aj<|vm Z<|va Z<|ai<|rt<|bd (.tmp Z .nil)<| ?_;exact ⟨J6,Z,Xy.St,kD⟩
end
section
theorem ayo (fj:FuncId) (cs:List Value) (p:aL→Bool) (A:Option Addr) (c:Nat) (l:List aL) (w:World) (ay:aL.rep.aJ 48 w A c l) (nL:Enters prog fj) (d_:∀ x∈l,∀ w',Ext w w'→Calls prog fj (([.agg #[.int .i64 x.by_, .int .i64 x.kind, .int .i64 x.aR, .int .i64 x.spot.x, .int .i64 x.spot.y, .int .i64 x.what]]:List Value)++cs).toArray w' λ e lZ=>e= .returned (.bool (p x))∧Ext w' lZ):
  Calls prog 180 #[.slice A l.length c, .func (.func fj) #[] cs.toArray] w (λ e w'=>e= .returned (.int .i64 (gx p l))∧Ext w w'):=by
 have oA:=ay.eE;refine cl (n:=19) func180 Z Z Z ?_;refine aj<|va Z<|ai<|aA<|aj<|vm Z<|J (cG underlying48 Z)<|vm Z<|ai<|bL<| ?_;refine eL (λ cg cf aQ=>∃ k:Nat,cf= [(0, .slice A l.length c),(1, .func (.func fj) #[] cs.toArray),(7, .int .i64 (l.length:Int)),(8, .int .i64 (k:Int))]∧cg=l.length - k∧Ext w aQ∧(k≤l.length)∧(∀ i,i<k→p (l.getD i default)=false)) _ _ ⟨0,Z,Z,(Ext.bN w),by omega,λ i aq=>by omega⟩ (.cons Z (.cons Z (.cons Z (.cons (bW Z) .nil)))) ?_;rintro M5 J7 cC ⟨k,rfl,rfl,bj,ar,aO⟩;have:=bj.size;refine aj<|J (blt Z Z)<|ai<|aA<| ?_;refine dY Z (λ mg=> ?_) (λ mg=> ?_)
 ·refine bu<|aA<|bL<|aj<|vm Z<|va Z<|ai<|aj<|vm Z<|vm Z<|vm Z<|J (b9 k underlying48 fN Z Z ((ay.keep bj).bP (bb k)) Z (by omega))<|J (ao Z (τ.aJ.ik LN ((ay.keep bj).cw (bb k)) (c8 (l:=l) (u:=default) (by omega)) jW fN))<|PM nL Z Z Z ((d_ (l.getD k default) (jC (by omega)) _ bj).mono ?_);rintro e Jz ⟨rfl,yI⟩;refine ⟨_,Z, ?_⟩;have:=yI.size;have mU:=γ bj yI;refine ai<| ?_;refine ed Z (λ mh=> ?_) (λ mh=> ?_)
  ·refine aj<|vm Z<|va Z<|ai<|rt<|e_<|bT<|nZ<|e_<|bT<|bd (.tmp Z .nil)<| ?_;exact ⟨by have e:=Rq (p:=p) (l:=l) (d:=default) (k:=k) (by omega) mh aO;rw [e];rfl,mU⟩
  ·refine fI<|bY<|aU<|rg<|J (bad Z Z (bD (by omega)))<|vm Z<|nl<| ?_;exact c9 _ _ ⟨k+1,Z,Z,mU,by omega,wu aO mh⟩ (by omega) (.cons Z (.cons Z (.cons Z (.cons (bW Z) .nil))))
 ·refine dw<|du<|dN<|dt<|aU<|aj<|va Z<|ai<|rt<|bd (.tmp Z .nil)<| ?_;exact ⟨by have e:=Rp (p:=p) (l:=l) (d:=default) (λ i aq=>aO i (by omega));rw [e];rfl,bj⟩
end
section
section
variable {P:Program} {n:Nat} {ops:Array Oper} {Q:Exit→Act→World→Prop} {E:List (Nat×Value)} {w:World} {v:Value} {ty:TypeId} {pos:String} {af:Array Edge} {x y z:Operand} {t:TypeId} {g:Option (Nat×Bool)} {rest:List Oper} {d:Option Nat}
theorem sy {d:Nat} {op:Op} {j:Nat} {q b c bZ:Bool} {dg:Oper} {kb:Nat} (az:ops[j]? =some dg) (nM:dg.dst=some kb) (Φ:look E kb=some (ix bZ (.bool b))) (hc:(bZ && (b == q))=c)
  (hr:c=true→cW P E ⟨some d,op,ty,pos,af,some (j,q)⟩ w v w) (hd:Nat.blt d n=true) (h:cK P n ops Q rest ((d,ix c v)::E) w):cK P n ops Q (⟨some d,op,ty,pos,af,some (j,q)⟩::rest) E w :=
 Ta (c:=c) (λ a ha=>by
  have κ:=ha.g _ _ Φ;subst hc;cases bZ with
  | true=>exact Et (o:=⟨some d,op,ty,pos,af,some (j,q)⟩) rfl az nM (b:=b) Φ ha
  | false =>
   simp only [ix,aSG,aTm] at κ;simp [Region.wanted,yielded,az,nM,κ,undef])
  (λ hc a ha=>by unfold Oper.wp;rw [hr hc n a ha];subst hc;exact h _ (ha.put hd v)) (λ hc a ha=>by subst hc;exact h _ (ha.put hd undef))
theorem aBa {b c k:Bool} (ar:k=true) (hx:ev E x=some (.bool b)) (aI:ev E y=some (.bool true)) (bC:ev E z=some (ix (k && (b == false)) (.bool c))):cW P E ⟨d, .pick x y z,ty,pos,af,g⟩ w (.bool (b || c)) w:=by
 subst ar;exact fB hx aI Z bC
theorem akC {b c k:Bool} (ar:k=true) (hx:ev E x=some (.bool b)) (bC:ev E z=some (.bool false)) (aI:ev E y=some (ix (k && (b == true)) (.bool c))):cW P E ⟨d, .pick x y z,ty,pos,af,g⟩ w (.bool (b && c)) w:=by
 subst ar;exact eN hx bC Z aI
end
end
section
open Go.Proofs.YtmeeljmapailnaaGreat.fu
structure bA where
 a:Option Addr
 n:Nat
 c:Nat
 late:Int
 gone:Bool
instance:Inhabited bA:=⟨⟨none,0,0,0,false⟩⟩
def bA.kN (v:bA):ho:=⟨v.a,v.n,v.c⟩
def bA.raw (j:Nat) (u:Value):Prop:=match j with
 | 0=>∃ a n c,u= .slice a n c
 | 1=>∃ n:Int,u= .int .i64 n
 | 2=>∃ b:Bool,u= .bool b
 | _=>True
def bA.cells (v:bA):List Value:= [.slice v.a v.n v.c, .int .i64 v.late, .bool v.gone]
def bA.rep:τ bA:=τ.flat 3 bA.cells (λ v=>fQ v.late) bA.raw (λ _=>rfl) (by intro a u hu;simp [bA.cells] at hu;rcases hu with rfl | rfl | rfl<;>rfl) (by
 intro a j u hu
 match j,hu with
 | 0,hu=>exact ⟨_,_,_,(aRV hu).symm⟩
 | 1,hu=>exact ⟨_,(aRV hu).symm⟩
 | 2,hu=>exact ⟨_,(aRV hu).symm⟩
 | j+3,hu=>exact trivial)
theorem oz {w:World} {cs:List Value} {a:bA} (h:bA.rep.has w cs a):cs=a.cells:=aTW (show cs=a.cells∧fQ a.late from h)
def bA.zero:Value:= .agg #[.slice none 0 0, .int .i64 0, .bool false]
theorem bA.jq:∀ (j:Nat) u,bA.zero.cells[j]? =some u→bA.rep.raw j u:=by
 intro j u hu;have hu:(#[(.slice none 0 0:Value),(.int .i64 0:Value),(.bool false:Value)]:Array Value)[j]? =some u:=hu
 match j,hu with
 | 0,hu=>exact ⟨_,_,_,(aRV hu).symm⟩
 | 1,hu=>exact ⟨_,(aRV hu).symm⟩
 | 2,hu=>exact ⟨_,(aRV hu).symm⟩
 | j+3,hu=>simp at hu
theorem bA.info:(prog.info? 163).map (λ i=>(i.zero,i.size,i.bytes))=some (some bA.zero,3,40):=by kernel_rfl
theorem bA.nF {by_:Nat} {w:World} {A:Option Addr} {c:Nat} {l:List bA} (h:bA.rep.aJ by_ w A c l):∀ a∈l,fQ a.late:=τ.aJ.ze (R:=bA.rep) (Q:=λ a=>fQ a.late) (fun {w cs a} (h:bA.rep.has w cs a)=>(show cs=a.cells∧fQ a.late from h).2) h
structure cq where
 waits:List aL
 late:Int
 gone:Bool
 deriving DecidableEq
def pX (w:World) (T:List bA) (S:List cq):Prop:=qP w (T.map bA.kN) (S.map cq.waits)∧T.map (λ v=>(v.late,v.gone))=S.map (λ s=>(s.late,s.gone))
section
variable {w w':World} {T kr:List bA} {S o3:List cq} {k:Nat}
theorem pX.len (h:pX w T S):T.length=S.length:=by have:=h.1.1;simpa using this
theorem pX.keep (h:pX w T S) (x:Ext w w'):pX w' T S:=⟨h.1.keep x,h.2⟩
theorem pX.at_ (h:pX w T S) (ar:k<T.length):∃ A c s,T[k]? =some ⟨A,s.waits.length,c,s.late,s.gone⟩∧S[k]? =some s∧aL.rep.aJ 48 w A c s.waits:=by
 have iA:k<S.length:=by rw [← h.len];exact ar
 obtain ⟨A,c,l,κ,ab,aw⟩:=h.1.at_ (k:=k) (by simpa using ar);rw [aSd,aRX ar] at κ;rw [aSd,aRX iA] at ab;have a6:=aTc (λ l=>l[k]?) h.2;simp only [aSd,aRX ar,aRX iA,aTv,aUO,aWg] at a6;have κ:=aRV κ;have ab:=aRV ab;refine ⟨A,c,S[k], ?_,aRX iA,by rw [ab];exact aw⟩;rw [aRX ar,ab];generalize T[k]=t at κ a6;obtain ⟨a,n,b5,aM4,g⟩:=t;simp only [bA.kN,ho.mk.injEq] at κ;obtain ⟨rfl,rfl,rfl⟩:=κ;rw [← a6.1,← a6.2]
end
def cq.yu (p:Int) (s:cq):Bool:= !(decide (s.late<0) || decide (1000000<s.late) || (s.gone && (s.late != 0 || decide (0<(s.waits.length:Int))))) && !s.waits.any λ o=>o.by_ != p || o.bm != 0
def xo (S:List cq):Prop:=1≤S.length∧S.length≤8∧∀ (i:Nat) (s:cq),S[i]? =some s→s.waits.length≤50∧s.yu i=true
theorem aCR {S:List cq} {k:Nat} {bn:cq} (aO:∀ (i:Nat) (s:cq),i<k→S[i]? =some s→s.yu i=true) (hS:S[k]? =some bn) (hr:bn.yu k=true) {i:Nat} {s:cq} (aq:i<k+1) (hs:S[i]? =some s):s.yu i=true:=by
 rcases aSZ i k with h | h
 ·exact aO i s h hs
 ·obtain rfl:i=k:=by omega
  rw [hS] at hs;obtain rfl:=aRV hs;exact hr
theorem aCO {w:World} {T:List bA} {S:List cq} (hS:pX w T S) (h:(T.any λ t=>decide (50<(t.n:Int)))=true):¬ xo S:=λ aG=>by
 obtain ⟨t,aC,Φ⟩:=aS9.1 h;obtain ⟨i,aq,rfl⟩:=aSV.1 aC;obtain ⟨A,c,s,κ,ab,_⟩:=hS.at_ aq;rw [aRX aq] at κ;rw [aRV κ] at Φ;have:=(aG.2.2 i s ab).1;simp at Φ;omega
theorem aCQ {w:World} {T:List bA} {S:List cq} (hS:pX w T S) (h:(T.any λ t=>decide (50<(t.n:Int)))=false):∀ (i:Nat) (s:cq),S[i]? =some s→s.waits.length≤50:=λ i s hs=>by
 have aq:i<T.length:=by rw [hS.len];exact (aRW.1 hs).1
 obtain ⟨A,c,s',κ,ab,_⟩:=hS.at_ aq;rw [hs] at ab;obtain rfl:=aRV ab;rw [aRX aq] at κ;have:=aUt.1 h T[i] (aS8 aq);rw [aRV κ] at this;simp at this;omega
theorem av0 (fj:FuncId) (cs:List Value) (p:aL→Bool) (A:Option Addr) (c:Nat) (l:List aL) (w:World) (ay:aL.rep.aJ 48 w A c l) (nL:Enters prog fj) (d_:∀ x∈l,∀ w',Ext w w'→Calls prog fj (([.agg #[.int .i64 x.by_, .int .i64 x.kind, .int .i64 x.aR, .int .i64 x.spot.x, .int .i64 x.spot.y, .int .i64 x.what]]:List Value)++cs).toArray w' λ e lZ=>e= .returned (.bool (p x))∧Ext w' lZ):
  Calls prog 160 #[.slice A l.length c, .func (.func fj) #[] cs.toArray] w (λ e w'=>e= .returned (.bool (l.any p))∧Ext w w'):=by
 refine cl (n:=9) func160 Z Z Z ?_;refine aj<|va Z<|ai<|aj<|vm Z<|vm Z<|ca as9 Z Z ((ayo fj cs p _ _ l _ (ay.keep (Ext.bN w)) nL (λ x hx w' h=>d_ x hx w' (γ (Ext.bN w) h))).mono ?_);rintro e cC ⟨rfl,fc⟩;refine ⟨_,Z, ?_⟩;have:=fc.size;have bj:=γ (Ext.bN w) fc;refine J (ks Z Z)<|va Z<|ai<|rt<|bd (.tmp Z .nil)<| ?_;exact ⟨by rw [Mq];rfl,bj⟩
theorem ayp (fj:FuncId) (cs:List Value) (p:bA→Bool) (A:Option Addr) (c:Nat) (l:List bA) (w:World) (ay:bA.rep.aJ 40 w A c l) (nL:Enters prog fj) (d_:∀ x∈l,∀ w',Ext w w'→Calls prog fj (([.agg #[.slice x.a x.n x.c, .int .i64 x.late, .bool x.gone]]:List Value)++cs).toArray w' λ e lZ=>e= .returned (.bool (p x))∧Ext w' lZ):
  Calls prog 159 #[.slice A l.length c, .func (.func fj) #[] cs.toArray] w (λ e w'=>e= .returned (.int .i64 (gx p l))∧Ext w w'):=by
 have oA:=ay.eE;refine cl (n:=19) func159 Z Z Z ?_;refine aj<|va Z<|ai<|aA<|aj<|vm Z<|J (cG underlying34 Z)<|vm Z<|ai<|bL<| ?_;refine eL (λ cg cf aQ=>∃ k:Nat,cf= [(0, .slice A l.length c),(1, .func (.func fj) #[] cs.toArray),(7, .int .i64 (l.length:Int)),(8, .int .i64 (k:Int))]∧cg=l.length - k∧Ext w aQ∧(k≤l.length)∧(∀ i,i<k→p (l.getD i default)=false)) _ _ ⟨0,Z,Z,(Ext.bN w),by omega,λ i aq=>by omega⟩ (.cons Z (.cons Z (.cons Z (.cons (bW Z) .nil)))) ?_;rintro M5 J7 cC ⟨k,rfl,rfl,bj,ar,aO⟩;have:=bj.size;refine aj<|J (blt Z Z)<|ai<|aA<| ?_;refine dY Z (λ mg=> ?_) (λ mg=> ?_)
 ·refine bu<|aA<|bL<|aj<|vm Z<|va Z<|ai<|aj<|vm Z<|vm Z<|vm Z<|J (b9 k underlying34 k2 Z Z ((ay.keep bj).bP (bb k)) Z (by omega))<|J (ao Z (τ.aJ.ik oz ((ay.keep bj).cw (bb k)) (c8 (l:=l) (u:=default) (by omega)) Di k2))<|PM nL Z Z Z ((d_ (l.getD k default) (jC (by omega)) _ bj).mono ?_);rintro e Jz ⟨rfl,yI⟩;refine ⟨_,Z, ?_⟩;have:=yI.size;have mU:=γ bj yI;refine ai<| ?_;refine ed Z (λ mh=> ?_) (λ mh=> ?_)
  ·refine aj<|vm Z<|va Z<|ai<|rt<|e_<|bT<|nZ<|e_<|bT<|bd (.tmp Z .nil)<| ?_;exact ⟨by have e:=Rq (p:=p) (l:=l) (d:=default) (k:=k) (by omega) mh aO;rw [e];rfl,mU⟩
  ·refine fI<|bY<|aU<|rg<|J (bad Z Z (bD (by omega)))<|vm Z<|nl<| ?_;exact c9 _ _ ⟨k+1,Z,Z,mU,by omega,wu aO mh⟩ (by omega) (.cons Z (.cons Z (.cons Z (.cons (bW Z) .nil))))
 ·refine dw<|du<|dN<|dt<|aU<|aj<|va Z<|ai<|rt<|bd (.tmp Z .nil)<| ?_;exact ⟨by have e:=Rp (p:=p) (l:=l) (d:=default) (λ i aq=>aO i (by omega));rw [e];rfl,bj⟩
theorem av1 (fj:FuncId) (cs:List Value) (p:bA→Bool) (A:Option Addr) (c:Nat) (l:List bA) (w:World) (ay:bA.rep.aJ 40 w A c l) (nL:Enters prog fj) (d_:∀ x∈l,∀ w',Ext w w'→Calls prog fj (([.agg #[.slice x.a x.n x.c, .int .i64 x.late, .bool x.gone]]:List Value)++cs).toArray w' λ e lZ=>e= .returned (.bool (p x))∧Ext w' lZ):
  Calls prog 126 #[.slice A l.length c, .func (.func fj) #[] cs.toArray] w (λ e w'=>e= .returned (.bool (l.any p))∧Ext w w'):=by
 refine cl (n:=9) func126 Z Z Z ?_;refine aj<|va Z<|ai<|aj<|vm Z<|vm Z<|ca atb Z Z ((ayp fj cs p _ _ l _ (ay.keep (Ext.bN w)) nL (λ x hx w' h=>d_ x hx w' (γ (Ext.bN w) h))).mono ?_);rintro e cC ⟨rfl,fc⟩;refine ⟨_,Z, ?_⟩;have:=fc.size;have bj:=γ (Ext.bN w) fc;refine J (ks Z Z)<|va Z<|ai<|rt<|bd (.tmp Z .nil)<| ?_;exact ⟨by rw [Mq];rfl,bj⟩
theorem aDh (o:aL) (p:Int) (b:Nat) (w:World) (aN:aP w b [.int .i64 p] 3 (0,0)):
  Calls prog 161 #[.agg #[.int .i64 o.by_, .int .i64 o.kind, .int .i64 o.aR, .int .i64 o.spot.x, .int .i64 o.spot.y, .int .i64 o.what], .pointer (some ⟨b,0,none⟩)] w (λ e w'=>e= .returned (.bool (o.by_ != p || o.bm != 0))∧Ext w w'):=by
 have tH:=aN.lt;refine cl (n:=13) func161 Z Z Z ?_;refine aj<|cA Z Z Z Z λ cC bF a8 ef aa=> ?_;have:=a8.size;have bj:=γ (Ext.bN w) a8;have ei:=aa.lt;refine va Z<|ai<|aj<|J (av uz Z)<|J (ao Z (aa.one bc Z))<| ?_;have aN:=aN.later a8;refine J (ao Z (aN.one bc Z))<|J (bne Z Z)<|vm Z<|bs Z Z Z Z (λ hc=>ao Z (aa.all jW fN)) Z<|Ah Z Z Z Z Vk (λ hc=>ij (gt hc Z) Z) (λ hc=>YH o _) Z λ ew cz=> ?_;have:=cz.size;have bO:=γ bj cz;refine bs Z Z Z Z (λ hc=>bne (gt hc Z) Z) Z<|J (fB Z Z Z Z)<|va Z<|ai<|rt<|bd (.tmp Z .nil)<| ?_;exact ⟨Z,bO⟩
theorem aDi (A:Option Addr) (c:Nat) (s:cq) (p:Int) (w:World) (ay:aL.rep.aJ 48 w A c s.waits):
  Calls prog 128 #[.agg #[.slice A s.waits.length c, .int .i64 s.late, .bool s.gone], .int .i64 p] w (λ e w'=>e= .returned (.bool (s.yu p))∧Ext w w'):=by
 refine cl (n:=33) func128 Z Z Z ?_;refine aj<|cA Z Z Z Z λ cC bF a8 ef aa=> ?_;have:=a8.size;have bj:=γ (Ext.bN w) a8;have ei:=aa.lt;refine cA Z Z Z Z λ ew cu bl il ag=> ?_;have:=bl.size;have bO:=γ bj bl;have hW:=ag.lt;refine va Z<|ai<|aA<|aj<|J (av HR Z)<| ?_;have aa:=aa.later bl;refine J (ao Z (aa.one bc Z))<|J (blt Z Z)<|vm Z<|bs Z Z Z Z (λ hc=>av HR Z) Z<|bs Z Z Z Z (λ hc=>ao (gt hc Z) (aa.one bc Z)) Z<|bs Z Z Z Z (λ hc=>iJ (gt hc Z) Z) Z<|J (fB Z Z Z Z)<|vm Z<|bs Z Z Z Z (λ hc=>av K2 Z) Z<|bs Z Z Z Z (λ hc=>ao (gt hc Z) (aa.one HT Z)) Z<|bs Z Z Z Z (λ hc=>aK (gt hc Z)) Z<|sy Z Z Z Z (λ hc=>av HR Z) Z<|sy Z Z Z Z (λ hc=>ao (gt hc Z) (aa.one bc Z)) Z<|sy Z Z Z Z (λ hc=>bne (gt hc Z) Z) Z<|sy Z Z Z Z (λ hc=>aK (gt hc Z)) Z<|sy Z Z Z Z (λ hc=>av rO Z) Z<|sy Z Z Z Z (λ hc=>ao (gt hc Z) (aa.one o6 Z)) Z<|sy Z Z Z Z (λ hc=>cG underlying48 (gt hc Z)) Z<|sy Z Z Z Z (λ hc=>iJ (gt hc Z) Z) Z<|sy Z Z Z Z (λ hc=>aBa hc (gt hc Z) Z Z) Z<|bs Z Z Z Z (λ hc=>akC hc (gt hc Z) Z Z) Z<|J (fB Z Z Z Z)<|ai<| ?_;refine ed Z (λ iN=> ?_) (λ iN=> ?_)
 ·refine aj<|va Z<|ai<|rt<|bT<|bd (.tmp Z .nil)<| ?_;exact ⟨by unfold cq.yu;rw [iN];rfl,bO⟩
 ·refine bu<|aj<|J (av rO Z)<|J (ao Z (aa.one o6 Z))<|J (M_ Z Z)<|ca atd Z Z ((av0 161 [.pointer (some ⟨cu,0,none⟩)] (λ o=>o.by_ != p || o.bm != 0) _ _ s.waits _ (ay.keep bO) atc (λ x hx w' h=>aDh x p cu w' (ag.later h))).mono ?_);rintro e yB ⟨rfl,b7⟩;refine ⟨_,Z, ?_⟩;have:=b7.size;have kV:=γ bO b7;refine J (dV Z)<|va Z<|ai<|rt<|bd (.tmp Z .nil)<| ?_;exact ⟨by unfold cq.yu;rw [iN];rfl,kV⟩
theorem aCL (t:bA) (w:World):
  Calls prog 127 #[.agg #[.slice t.a t.n t.c, .int .i64 t.late, .bool t.gone]] w (λ e w'=>e= .returned (.bool (decide (50<(t.n:Int))))∧Ext w w'):=by
 refine cl (n:=7) func127 Z Z Z ?_;refine aj<|cA Z Z Z Z λ cC bF a8 ef aa=> ?_;have:=a8.size;have bj:=γ (Ext.bN w) a8;have ei:=aa.lt;refine va Z<|ai<|aj<|J (av rO Z)<|J (ao Z (aa.one o6 Z))<|J (cG underlying48 Z)<|J (iJ Z Z)<|va Z<|ai<|rt<|bd (.tmp Z .nil)<| ?_;exact ⟨Z,bj⟩
theorem Sl (A:Option Addr) (c:Nat) (T:List bA) (S:List cq) (w:World) (b6:bA.rep.aJ 40 w A c T) (hS:pX w T S):
  Calls prog 92 #[.slice A T.length c] w (λ e w'=>∃ e':Int,e= .returned (.int .i64 e')∧(e'=0↔xo S)∧Ext w w'):=by
 have BD:=b6.eE;refine cl (n:=27) func92 Z Z Z ?_;refine aj<|va Z<|ai<|aA<|aj<|vm Z<|J (cG underlying34 Z)<|J (blt Z Z)<|vm Z<|bs Z Z Z Z (λ hc=>aK Z) Z<|bs Z Z Z Z (λ hc=>cG underlying34 (gt hc Z)) Z<|bs Z Z Z Z (λ hc=>iJ (gt hc Z) Z) Z<|J (fB Z Z Z Z)<|ai<| ?_;refine ed Z (λ ow=> ?_) (λ ow=> ?_)
 ·simp only [cE] at ow;refine aj<|va Z<|ai<|rt<|bT<|bd (.tmp Z .nil)<| ?_;exact ⟨1,Z,⟨λ bg=>absurd bg (by decide),λ bg=>absurd bg (by rintro ⟨κ,ab,_⟩;have:=hS.len;omega)⟩,(Ext.bN w)⟩
 ·simp only [cE] at ow;refine bu<|aA<|aj<|vm Z<|ca atf Z Z ((av1 127 [] (λ t=>decide (50<(t.n:Int))) _ _ T _ (b6.keep (Ext.bN w)) ate (λ x hx w' h=>aCL x w')).mono ?_);rintro e l0 ⟨rfl,a8⟩;refine ⟨_,Z, ?_⟩;have:=a8.size;have fJ:=γ (Ext.bN w) a8;refine ai<| ?_;refine ed Z (λ mg=> ?_) (λ mg=> ?_)
  ·refine aj<|va Z<|ai<|rt<|bT<|bd (.tmp Z .nil)<| ?_;exact ⟨2,Z,⟨λ bg=>absurd bg (by decide),λ bg=>absurd bg (λ bg=>aCO hS mg bg)⟩,fJ⟩
  ·have axT:=aCQ hS mg;refine bu<|aA<|aj<|vm Z<|J (cG underlying34 Z)<|vm Z<|ai<|bL<| ?_;refine eL (λ cg cf aQ=>∃ k:Nat,cf= [(15, .slice A T.length c),(16, .int .i64 (T.length:Int)),(17, .int .i64 (k:Int))]∧cg=T.length - k∧Ext w aQ∧(k≤T.length)∧(∀ (i:Nat) (s:cq),i<k→S[i]? =some s→s.yu i=true)) _ _ ⟨0,Z,Z,fJ,by omega,λ i s aq=>by omega⟩ (.cons Z (.cons Z (.cons (bW Z) .nil))) ?_;rintro Ys aHA Jz ⟨k,rfl,rfl,mU,ar,aO⟩;have:=mU.size;refine aj<|J (blt Z Z)<|ai<|aA<| ?_;refine dY Z (λ Bv=> ?_) (λ Bv=> ?_)
   ·obtain ⟨eg,dn,bn,gm,kz,hx⟩:=hS.at_ (k:=k) (by omega);refine bu<|aA<|bL<|aj<|vm Z<|J (b9 k underlying34 k2 Z Z ((b6.keep mU).bP (bb k)) Z (by omega))<|J (ao Z (τ.aJ.ik oz ((b6.keep mU).cw (bb k)) gm Di k2))<|al Z P8 Z Z λ wP zh dv MQ ib=> ?_;have:=dv.size;have kU:=γ mU dv;have R6:=ib.lt;refine va Z<|st (new:= [.slice ((⟨eg,bn.waits.length,dn,bn.late,bn.gone⟩:bA).a) ((⟨eg,bn.waits.length,dn,bn.late,bn.gone⟩:bA).n) ((⟨eg,bn.waits.length,dn,bn.late,bn.gone⟩:bA).c), .int .i64 ((⟨eg,bn.waits.length,dn,bn.late,bn.gone⟩:bA).late), .bool ((⟨eg,bn.waits.length,dn,bn.late,bn.gone⟩:bA).gone)]) Z Z ib Z k2 Z Z Z λ u' q5 ib=> ?_;have:=q5.size;have hE:=Ext.mod kU q5 bt;refine ai<|aj<|J (ao Z (ib.all Di k2))<|vm Z<|ca atg Z Z ((aDi eg dn bn (k:Int) _ (hx.keep hE)).mono ?_);rintro e n2 ⟨rfl,ea⟩;refine ⟨_,Z, ?_⟩;have:=ea.size;have fC:=γ hE ea;refine J (dV Z)<|ai<| ?_;refine ed Z (λ s9=> ?_) (λ s9=> ?_)
    ·refine aj<|va Z<|ai<|rt<|e_<|bT<|nZ<|e_<|bT<|bd (.tmp Z .nil)<| ?_;exact ⟨4,Z,⟨λ bg=>absurd bg (by decide),λ bg=>absurd bg (λ bg=>by have vY:=(bg.2.2 k bn kz).2;rw [vY] at s9;cases s9)⟩,fC⟩
    ·have axP:bn.yu k=true:=by simpa using s9
     refine fI<|bY<|aU<|rg<|J (bad Z Z (bD (by omega)))<|vm Z<|nl<| ?_;exact c9 _ _ ⟨k+1,Z,Z,fC,by omega,λ i s aq hs=>aCR aO kz axP aq hs⟩ (by omega) (.cons Z (.cons Z (.cons (bW Z) .nil)))
   ·refine dw<|du<|dN<|dt<|aU<|aj<|va Z<|ai<|rt<|bd (.tmp Z .nil)<| ?_;exact ⟨0,Z,⟨λ _=>⟨by have:=hS.len;have WR:=ow;omega,by have:=hS.len;have WR:=ow;omega,λ i s hs=>⟨axT i s hs,aO i s (by have:=(aRW.1 hs).1;have:=hS.len;omega) hs⟩⟩,λ _=>Z⟩,mU⟩
end
section
theorem VJ {w:World}:∀ {ess:List (List Value)} {l:List Int},de (λ es a=>bQ.has w es a) ess l→ess.flatten=l.map (Value.int .i64)
 | [], [],_=>rfl
 | es::ess,a::l,h=>by
  obtain ⟨κ,ab⟩:=h;rw [aSP,gw κ,VJ ab];rfl
 | [],_::_,h=>h.elim
 | _::_, [],h=>h.elim
theorem Uq {w:World}:∀ {l:List Int},(∀ a∈l,fQ a)→de (λ es a=>bQ.has w es a) (l.map λ a=> [Value.int .i64 a]) l
 | [],_=>trivial
 | a::l,h=>⟨⟨rfl,h a aSj⟩,Uq λ b Φ=>h b (aSa _ Φ)⟩
end
end Go.Proofs.YtmeeljmapailnaaGreat
namespace Go.Proofs.YtmeeljmapailnaaGreat.kW
open Tryz
open Go.Proofs.YtmeeljmapailnaaGreat.fu
def step (n:BitVec 32):BitVec 32:=n >>> 1 ^^^ (3988292384#32 &&& -(n &&& 1#32))
def steps:Nat→BitVec 32→BitVec 32
 | 0,n=>n
 | k+1,n=>steps k (step n)
def take (n:BitVec 32) (b:UInt8):BitVec 32:=steps 8 (n ^^^ b.toBitVec.setWidth 32)
def fold (n:BitVec 32) (l:List UInt8):BitVec 32:=l.foldl take n
def more (n:BitVec 32) (l:List UInt8):BitVec 32:= ~~~(fold (~~~n) l)
def of (l:List UInt8):BitVec 32:=more 0#32 l

theorem auB (n:BitVec 32) (l m:List UInt8):fold n (l++m)=fold (fold n l) m:=by
 unfold fold;rw [aTt]
theorem auC (n:BitVec 32) (l:List UInt8) (b:UInt8):fold n (l++ [b])=take (fold n l) b:=by
 rw [auB];rfl

theorem ZD (m:BitVec 32):bits BinOp.xor IntKind.u32 (U m / 2) (bits BinOp.and IntKind.u32 3988292384 (-bits BinOp.and IntKind.u32 (U m) 1 % 4294967296))=U (step m):=by
 refine Qg (Ps _ _ _) (Pr _ _ _) ?_;have κ:=akr (n:=32) (U m) 1 (Uo m) (by have:=apA m;omega);rw [YL,akn,aAO,aAR,akn,wG];rw [show (U m / 2:Int)=U m / 2 ^ 1 by rfl,κ,wG];rfl
theorem ayx (x y:Int) (aG:0≤y) (κ:y<256):bits BinOp.xor IntKind.u32 x y=U (BitVec.ofInt 32 x ^^^ (BitVec.ofInt 8 y).setWidth 32):=by
 refine Qg (Ps _ _ _) (Pr _ _ _) ?_;rw [YL];obtain ⟨m,rfl⟩:=aTQ aG;congr 1;rw [aSW,aSW];apply aWy;simp only [aTF,BitVec.toNat_setWidth];omega
end Go.Proofs.YtmeeljmapailnaaGreat.kW
namespace Go.Proofs.YtmeeljmapailnaaGreat
open Tryz
end Go.Proofs.YtmeeljmapailnaaGreat
namespace Go.Proofs.YtmeeljmapailnaaGreat.kW
open Tryz
open Go.RowKit Go.Proofs.YtmeeljmapailnaaGreat.fu

theorem alm {a b:Int} (h:a=b):Ending.returned (.int .u32 a)= .returned (.int .u32 b):=by rw [h]

theorem aDB (m:BitVec 32) (x y:Int) (aG:0≤x) (κ:x≤4294967295) (ab:0≤y) (aw:y≤255) (hm:m=BitVec.ofInt 32 x ^^^ (BitVec.ofInt 8 y).setWidth 32) (w:World):
  Calls prog 188 #[.int .u32 x, .int .u8 y] w fun e w'=>e= .returned (.int .u32 (U (steps 8 m)))∧w=w':=by
 have mE:=aRY (ayx x y ab (by omega));rw [← hm] at mE;clear hm;go_enter func188,ntmps188;go_wp2
 go_loop [0,9] (fun x i=>∃ (k:Nat) (q:BitVec 32),k≤8∧i= .int .i64 k∧x= .int .u32 (U q)∧Hid (steps (8 - k) q=steps 8 m)) (fun _ i=>8 - (intOf i).toNat)
 case atStart=>exact ⟨0,m,by omega,rfl,by rw [mE.out],rfl⟩
 case round =>
  obtain ⟨k,q,ar,rfl,rfl,I⟩:=hrel;by_cases bz:k<8
  ·go_wp2
   go_round
   case rel =>
    refine ⟨k+1,step q,by omega,by go_num,by rw [ZD], ?_⟩;have h:=I.out;rw [show 8 - k=(8 - (k+1))+1 by omega] at h;exact h
   case measure=>simp [intOf];omega
  ·have agR:k=8:=by omega
   have h:=I.out;rw [agR] at h;clear I agR;have bV:=aRY h;clear h;go_wp2
   go_ret;exact ⟨alm (by rw [← bV.out];rfl),Z⟩
theorem aDA (n:BitVec 32) (b:UInt8) (x y:Int) (hx:x=U n) (aI:y=(b.toNat:Int)) (w:World):
  Calls prog 188 #[.int .u32 x, .int .u8 y] w fun e w'=>e= .returned (.int .u32 (U (take n b)))∧w=w':=by
 subst hx aI;have Φ:=b.toNat_lt;refine aDB _ _ _ (Uo _) (apz _) (by omega) (by omega) ?_ w;rw [wG];congr 2;rw [aSW];exact (aUn 8 b.toBitVec).trans (aUm _) |>.symm

theorem ake (x:Int):bits BinOp.xor IntKind.u32 IntKind.u32.max x=U (~~~(BitVec.ofInt 32 x)):=by
 refine Qg (Ps _ _ _) (Pr _ _ _) ?_;rw [YL];exact BitVec.allOnes_xor

theorem aDF (s:ByteArray) (k:Nat) (h:k<s.size):s.data.toList.take (k+1)=s.data.toList.take k++ [s[k]]:=by
 rw [aSn (by simpa using h)];rfl
theorem YD (x:Int) (s:ByteArray) (aG:0≤x) (κ:x≤4294967295) (hs:s.size≤9223372036854775807) (w:World):
  Calls prog 178 #[.int .u32 x, .string s] w fun e w'=>e= .returned (.int .u32 (U (more (BitVec.ofInt 32 x) s.data.toList)))∧w=w':=by
 obtain ⟨n,lv⟩:∃ n,Hid (n=BitVec.ofInt 32 x):=⟨_,rfl⟩;have ff:=aRY (ake x);rw [← lv.out] at ff;rw [← lv.out];clear aG κ;go_enter func178,ntmps178;go_wp2
 go_loop [0,10] (fun x i=>∃ k:Nat,k≤s.size∧i= .int .i64 k∧x= .int .u32 (U (fold (~~~n) (s.data.toList.take k)))) (fun _ i=>s.size - (intOf i).toNat)
 case atStart=>exact ⟨0,aSM _,rfl,by rw [ff.out];rfl⟩
 case round =>
  obtain ⟨k,ar,rfl,rfl⟩:=hrel;by_cases bz:k<s.size
  ·go_wp2_with (go_at_call 188;refine (aDA _ s[k] _ _ rfl rfl _).mono ?_;rintro e w' ⟨rfl,rfl⟩)
   go_round
   case rel =>
    refine ⟨k+1,by omega,by go_num, ?_⟩;rw [aDF s k bz,auC]
   case measure=>simp [intOf];omega
  ·go_wp2
   go_ret;have awP:k=s.size:=by omega
   exact ⟨alm (by rw [ake,wG,awP,aSk (by simp)];rfl),Z⟩
theorem YJ (s:ByteArray) (hs:s.size≤9223372036854775807) (w:World):
  Calls prog 152 #[.string s] w fun e w'=>e= .returned (.int .u32 (U (of s.data.toList)))∧w=w':=by
 go_enter func152,ntmps152;go_wp2_with (go_at_call 178;refine (YD _ s (by decide) (by decide) hs _).mono ?_;rintro e w' ⟨rfl,rfl⟩)
 go_ret;exact ⟨Z,Z⟩

end Go.Proofs.YtmeeljmapailnaaGreat.kW
namespace Go.Proofs.YtmeeljmapailnaaGreat
open Tryz
end Go.Proofs.YtmeeljmapailnaaGreat
namespace Go.Proofs.YtmeeljmapailnaaGreat.kW
open Tryz
open Go.RowKit Go.Proofs.YtmeeljmapailnaaGreat.fu
def BP (n:BitVec 32):List UInt8:= [UInt8.ofNat n.toNat,UInt8.ofNat (n.toNat / 256),UInt8.ofNat (n.toNat / 65536),UInt8.ofNat (n.toNat / 16777216)]
def wL (s:ByteArray):ByteArray:=s++⟨(BP (of s.data.toList)).toArray⟩
theorem alz (s:ByteArray):(wL s).data.toList=s.data.toList++BP (of s.data.toList):=by
 unfold wL;rw [ByteArray.data_append,aVr]
theorem Sn (s:ByteArray):(wL s).size=s.size+4:=by
 have h:=aTc List.length (alz s);rw [aR1] at h;simp only [aUf] at h;exact h

theorem arq (n:BitVec 32) (u:World):(convert 263 9 (.slice (some ⟨u.heap.size,0,none⟩) 4 4)).run prog (u.alloc (.cells #[.int .u8 (U n % 256), .int .u8 (U n / 256 % 256), .int .u8 (U n / 65536 % 256), .int .u8 (U n / 16777216 % 256)] 5))=
  .ok (.string ⟨(BP n).toArray⟩) (u.alloc (.cells #[.int .u8 (U n % 256), .int .u8 (U n / 256 % 256), .int .u8 (U n / 65536 % 256), .int .u8 (U n / 16777216 % 256)] 5)):=by
 refine aWD (P:=prog) _ 263 9 5 ⟨u.heap.size,0,none⟩ 4 (BP n) underlying263 underlying5 underlying9 ?_;intro j az;rw [acC];have awN:j<4:=az;have QH:U n=(n.toNat:Int):=rfl;rw [QH]
 match j,awN with
 | 0,_=>simp [BP,aT3]
 | 1,_=>simp [BP,aT3]
 | 2,_=>simp [BP,aT3]
 | 3,_=>simp [BP,aT3]

theorem Zp (s:ByteArray) (hs:s.size≤9223372036854775800) (w:World):
  Calls prog 119 #[.string s] w fun e w'=>e= .returned (.string (wL s))∧Below w.heap.size w w':=by
 have hcv:=arq (of s.data.toList);have ay:(BP (of s.data.toList)).length≤4:=aR7 _;go_enter func119,ntmps119;go_wp2_with (go_at_call 152;refine (YJ _ (by omega) _).mono ?_;rintro e w' ⟨rfl,rfl⟩)
 go_ret;exact ⟨Z,(aSr _ _).alloc (aR7 _) _⟩
def mq (s:ByteArray):ByteArray×Int :=
 if s.size<4 then (⟨#[]⟩,3) else if wL (s.extract 0 (s.size - 4))=s then (s.extract 0 (s.size - 4),0) else (⟨#[]⟩,5)

theorem Zc {a b:ByteArray×Int} (h:b=a):Ending.returned (.tuple #[.string a.1, .int .i64 a.2])= .returned (.tuple #[.string b.1, .int .i64 b.2]):=by rw [h]

theorem aAU (s:ByteArray) (hs:s.size≤9223372036854775800) (w:World):
  Calls prog 83 #[.string s] w fun e w'=>e= .returned (.tuple #[.string (mq s).1, .int .i64 (mq s).2])∧Below w.heap.size w w':=by
 by_cases a6:s.size<4
 ·have bV:=aRY (show mq s=(⟨#[]⟩,3) by unfold mq;rw [aR8 a6]);go_enter func83,ntmps83;go_wp2_with fail
  go_ret2
  exact ⟨Zc bV.out,aSr _ _⟩
 ·have hm:((s.size:Int) - 4)=((s.size - 4:Nat):Int):=by omega
  have bC:(s.extract 0 (s.size - 4)).size≤9223372036854775800:=by rw [ByteArray.size_extract];omega
  obtain ⟨m,lv⟩:∃ m,Hid (m=s.size - 4):=⟨_,rfl⟩;rw [← lv.out] at hm bC;have axe:m+4≤s.size:=by have:=lv.out;omega
  have aKO:s.size≤m+4:=by have:=lv.out;omega
  by_cases bH:wL (s.extract 0 m)=s
  ·have bV:=aRY (show mq s=(s.extract 0 m,0) by unfold mq;rw [← lv.out,aR5 a6,aR8 bH]);have avi:=ac8 bH;have y1:=aRY bH;clear bH;go_enter func83,ntmps83;go_wp2_with (go_at_call 119;refine (Zp _ bC _).mono ?_;rintro e aT ⟨rfl,Φ⟩)
   go_ret2
   exact ⟨Zc bV.out,by assumption⟩
  ·have bV:=aRY (show mq s=(⟨#[]⟩,5) by unfold mq;rw [← lv.out,aR5 a6,aR5 bH]);have avi:=ac7 bH;clear bH;go_enter func83,ntmps83;go_wp2_with (go_at_call 119;refine (Zp _ bC _).mono ?_;rintro e aT ⟨rfl,Φ⟩)
   go_ret2
   exact ⟨Zc bV.out,by assumption⟩

theorem aAV (s:ByteArray):mq (wL s)=(s,0):=by
 have κ:(wL s).extract 0 ((wL s).size - 4)=s:=by
  apply UL;rw [aU6,alz,Sn,aUs];have e:s.size+4 - 4 - 0=s.data.toList.length:=by simp
  rw [e,aVi]
 have ab:=Sn s;unfold mq;rw [aR5 (by omega),κ,aR8 rfl]
theorem aky (s:ByteArray):(mq s).2=0∧wL (mq s).1=s∨((mq s).2=3∨(mq s).2=5)∧(mq s).1=⟨#[]⟩:=by
 unfold mq;split
 ·exact .inr ⟨.inl Z,Z⟩
 ·split
  ·rename_i h;exact .inl ⟨Z,h⟩
  ·exact .inr ⟨.inr Z,Z⟩
end Go.Proofs.YtmeeljmapailnaaGreat.kW
namespace Go.Proofs.YtmeeljmapailnaaGreat
open Tryz
end Go.Proofs.YtmeeljmapailnaaGreat
