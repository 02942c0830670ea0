import Derived.Test.YtlikikpgmmkjbaaGreatSvO
set_option linter.unusedVariables false
set_option linter.unusedSimpArgs false
set_option maxRecDepth 100000
set_option maxHeartbeats 4000000
open Go.RowKit
namespace Go.Proofs.YtlikikpgmmkjbaaGreat
open Tryz
section
theorem apF:fa prog bS 22 3 8:=fa.lK (z:= .int .i64 0) (k:=1) underlying22 DE rfl rfl (by decide) (λ j u h=>Jn j u h)
theorem UP:fa prog qf 38 41 8:=fa.lK (z:= .int .u64 0) (k:=1) underlying38 ail rfl rfl (by decide) (λ j u h=>alg j u h)
open Go.Proofs.YtlikikpgmmkjbaaGreat.fj
theorem IU (l:List Int) (A:Option Addr) (c:Nat) (w:World) (aB:bS.aK 8 w A c l):
  Calls prog 57 #[.slice A l.length c] w (λ e w'=>e= .returned (.int .u64 (U (qY l)))∧Ext w w'):=by
 refine cl (n:=12) func57 Z Z Z ?_;refine ai<|va Z<|ag<|ai<|vm Z<|ca afl Z Z ((aCm l _ _ _ (aB.keep (Ext.bK w))).mono ?_);rintro e ku ⟨⟨aM4,rfl⟩,a7⟩;refine ⟨_,Z, ?_⟩;have:=a7.size;have di:=τ (Ext.bK w) a7;refine vm Z<|J (ex Z Z)<|J (ex Z Z)<|va Z<|va Z<|ag<|ai<|vm Z<|ca atu Z Z ((aAs (Jg l) (aCl _) _).mono ?_);rintro e aGv ⟨rfl,ano⟩;refine ⟨_,Z, ?_⟩;have:=ano.size;have G4:=τ di ano;refine va Z<|ag<|rt<|bb (.tmp Z .nil)<| ?_;exact ⟨Z,G4⟩
theorem aA8 (a:aj.cq) (W:aj) (w:World) (bQ:aj.Has w a W) (hc:W.bq≠0):
  Calls prog 20 #[.agg ((aj.cells a W).toArray)] w (λ e w'=>e= .returned (.tuple #[.int .u64 (U (sm W)), .int .i64 W.bq])∧Ext w w'):=by
 have Yg:(W.bq != 0)=true:=by simpa using hc
 refine cl (n:=107) func20 Z Z Z ?_;refine ai<|cI Z Z Z Z λ cW bw a7 eA ab=> ?_;have:=a7.size;have bk:=τ (Ext.bK w) a7;have eG:=ab.lt;refine va Z<|va Z<|ag<|az<|ai<|J (ak Z (ab.all dD cf))<|ca HV Z Z ((CW a W _ (bQ.keep bk)).mono ?_);rintro e eM ⟨rfl,cL⟩;refine ⟨_,Z, ?_⟩;have:=cL.size;have bR:=τ bk cL;refine va Z<|ag<|ai<|vm Z<|J (bne Z Z)<|ag<|fe (gU Z Yg)<|ai<|vm Z<|va Z<|va Z<|ag<|rt<|bT<|bb (.tmp Z (.tmp Z .nil))<| ?_;exact ⟨by unfold sm;rw [aUr hc];rfl,bR⟩
theorem aA9 (a:aj.cq) (W:aj) (w:World) (bQ:aj.Has w a W) (hc:W.bq=0):
  Calls prog 20 #[.agg ((aj.cells a W).toArray)] w (λ e w'=>e= .returned (.tuple #[.int .u64 (U (sm W)), .int .i64 W.bq])∧Ext w w'):=by
 have Yg:(W.bq != 0)=false:=by simpa using hc
 have bD:=Good.BD hc;have aLr:=bD.ks;have aLs:=bD.eF;have aLt:=bD.sl;have aLq:=bD.x5;have aLm:=aE.dT bD.field;obtain ⟨Gm,uY,qb,sq⟩:=bQ.nums;have Yn:=bQ.B.dT;have ajA:=bQ.M.dT;have qX:=bQ.T.dT;refine cl (n:=107) func20 Z Z Z ?_;refine ai<|cI Z Z Z Z λ cW bw a7 eA ab=> ?_;have:=a7.size;have bk:=τ (Ext.bK w) a7;have eG:=ab.lt;refine va Z<|va Z<|ag<|az<|ai<|J (ak Z (ab.all dD cf))<|ca HV Z Z ((CW a W _ (bQ.keep bk)).mono ?_);rintro e eM ⟨rfl,cL⟩;refine ⟨_,Z, ?_⟩;have:=cL.size;have bR:=τ bk cL;refine va Z<|ag<|ai<|vm Z<|J (bne Z Z)<|ag<|hL (gU Z Yg)<|bt<|ai<|J (au rS Z)<|J (au VU Z)<| ?_;have ab:=ab.later cL;refine J (ak Z (ab.one bf Z))<|J (au rS Z)<|J (au atv Z)<|J (ak Z (ab.one bf Z))<|J (au Lg Z)<|J (ak Z (ab.one bf Z))<|J (au Li Z)<|J (ak Z (ab.one bf Z))<|c6 (e:= 3) (cs:= [.int .i64 1, .int .i64 W.field.wide, .int .i64 W.field.high, .int .i64 W.next, .int .i64 W.now]) Z (λ _=>by kernel_rfl) Z λ wI yZ dC Nb gj=> ?_;have:=dC.size;have kB:=τ bR dC;have NJ:=gj.lt;refine J (au rS Z)<|J (au y7 Z)<| ?_;have ab:=ab.later dC;refine J (ak Z (ab.one gy Z))<| ?_;have KM:=aN.wC (R:=bS) (by_:=8) (B:=w.heap.size) (k:= [1,W.field.wide,W.field.high,W.next,W.now]) gj [[.int .i64 1], [.int .i64 W.field.wide], [.int .i64 W.field.high], [.int .i64 W.next], [.int .i64 W.now]] rfl (⟨⟨rfl,bN.2 (by decide)⟩,⟨⟨rfl,Gm⟩,⟨⟨rfl,uY⟩,⟨⟨rfl,qb⟩,⟨⟨rfl,sq⟩,trivial⟩⟩⟩⟩⟩) (by simp) (by simp) (by decide) (by omega);have ams:=λ q I=>(KM.lt q I).2;have R1:∀ q∈κ.ae (some ⟨yZ,0,none⟩),yZ≤q:=λ q I=>aVU (aUg.1 I).symm;refine ap apF κ.dE KM (bQ.P.keep kB) Z Z (by simp only [aUn,aUt];omega) (by simp only [aUn,aUt];omega) kB.size Z λ z6 EE Vj lI uf H9 aBx=> ?_;have:=lI.size;have lu:=Ext.mod kB lI (λ q I=>(KM.lt q I).1);have N6:=λ q I=>(uf.lt q I).2;have:=lI.size;refine ca Qt Z Z ((IU ([1,W.field.wide,W.field.high,W.next,W.now]++W.field.aY) _ _ _ uf.has).mono ?_);rintro e u9 ⟨rfl,dp⟩;refine ⟨_,Z, ?_⟩;have:=dp.size;have js:=τ lu dp;refine c6 (e:= 41) (cs:= [.int .u64 (U (qY ([1,W.field.wide,W.field.high,W.next,W.now]++W.field.aY)))]) Z (λ _=>by kernel_rfl) Z λ GK U2 kf aN2 abF=> ?_;have:=kf.size;have rf:=τ js kf;have aQV:=abF.lt;refine va Z<|ag<|az<|ai<|J (au pS Z)<| ?_;have ar1:∀ q∈κ.ae (some ⟨yZ,0,none⟩),q=bw→False:=λ q I Φ=>by (have:=R1 q I;omega)
 have ab:=ab.mod lI (λ I=>ar1 _ I rfl);have ab:=ab.later (τ dp kf);refine J (ak Z (ab.one sY Z))<|J (cj underlying25 Z)<|vm Z<|ag<|bA<| ?_;have KE:=aN.wC (R:=qf) (by_:=8) (B:=w.heap.size) (k:= [Sc W]) abF [[.int .u64 (U (Sc W))]] rfl (⟨⟨rfl,trivial⟩,trivial⟩) (by simp) (by simp) (by decide) (by omega);have xE:∀ q∈κ.ae (some ⟨U2,0,none⟩),q=U2:=λ q I=>aUg.1 I;refine dX (λ b4 b2 aG=>∃ dF:Nat,∃ EX:List (BitVec 64),∃ Hd:Option Addr,∃ P7:Nat,b2= [(1, .pointer (some ⟨bw,0,none⟩)),(2, .int .u64 0),(3, .int .i64 0),(5, .slice Hd EX.length P7),(35, .slice a.B W.aZ.length a.b),(36, .int .i64 (W.aZ.length:Int)),(37, .int .i64 (dF:Int))]∧b4=W.aZ.length - dF∧Ext w aG∧aN aG bw (aj.cells a W) 28 (0,0)∧qf.aD 41 8 aG w.heap.size (κ.ae Hd) Hd P7 EX∧(dF≤W.aZ.length)∧(EX=Bz W dF)∧(∀ q∈κ.ae Hd,q=bw→False)) _ _ ⟨0, [Sc W],some ⟨U2,0,none⟩,1,Z,Z,rf,ab,KE,by omega,rfl,(λ q I Φ=>by (have:=xE q I;omega))⟩ (.cons Z (.cons Z (.cons Z (.cons Z (.cons Z (.cons Z (.cons (bO Z) .nil))))))) ?_;rintro l3 aIY yn ⟨dF,EX,Hd,P7,rfl,rfl,j1,ab,yM,p0,WR,HL⟩;have:=j1.size;have aQZ:=ab.lt;have N7:=λ q I=>(yM.lt q I).2;refine ai<|J (blt Z Z)<|ag<|az<| ?_;refine dw Z (λ awz=> ?_) (λ awz=> ?_)
 ·obtain ⟨c,mU⟩:∃ c,W.aZ.getD dF default=c:=⟨_,rfl⟩;obtain ⟨fh,II⟩:∃ fh,W.bg.getD dF 0=fh:=⟨_,rfl⟩;have akz:c.ok:=ay.oT bQ.B c (by rw [← mU];exact jT (by omega));have Y_:fK fh:=Jp bQ.S fh (by rw [← II];exact jT (by omega));have ax4:Sb W dF=qY [2,(dF:Int),c.x,c.y,fh]:=by unfold Sb;rw [mU,II]
  have agx:EX.length=dF+1:=by rw [WR,YS]
  refine bt<|az<|bA<|ai<|vm Z<|J (bY dF underlying25 bW Z Z ((bQ.B.keep j1).bu (aX dF)) Z (by omega))<|J (ak Z (κ.aK.hb Be ((bQ.B.keep j1).cr (aX dF)) (show W.aZ[dF]? =some c by rw [← mU];exact dH (u:=default) (by omega)) cm bW))<|al Z xC Z Z λ BV vF iD Yp w9=> ?_;have:=iD.size;have lT:=τ j1 iD;have Gt:=w9.lt;refine va Z<|st (new:= [.int .i64 c.x, .int .i64 c.y]) Z Z w9 Z bW Z Z Z λ q7 lj w9=> ?_;have:=lj.size;have ih:=Ext.mod lT lj bx;refine ag<| ?_;refine rd [(3,0),(5,0),(7,0),(10,0),(11,2),(12,0),(13,2),(14,3)] [0,1,2,3,4,5,6,7,8,9,10,11,12,13,14,15] (by kernel_rfl) (by kernel_rfl) ?_;refine ar Z (λ _=>aM Z)<|ar Z (λ _=>aM Z)<|ar Z (λ _=>au ij Z)<|bG Z (λ _ x=>ak Z ((w9.later x).one bf Z))<|ar Z (λ _=>au iN Z)<|bG Z (λ _ x=>ak Z ((w9.later x).one bf Z))<|ar Z (λ _=>au vT Z)<| ?_;have ab:=ab.later iD;have ab:=ab.mod lj aQ;refine bG Z (λ _ x=>ak Z ((ab.later x).one gy Z))<|ar Z (λ _=>aM Z)<|ar Z (λ _=>bY dF underlying22 cU Z Z ((bQ.S.keep ih).bu (aX dF)) Z (by omega))<|bG Z (λ _ x=>ak Z (κ.aK.fu gV ((bQ.S.keep (τ ih x)).cr (aX dF)) (show W.bg[dF]? =some fh by rw [← II];exact dH (u:=0) (by omega)) Z bf))<|fS Z Z Z λ Oj tM Q hK=>c6 (e:= 3) (cs:= [.int .i64 2, .int .i64 (dF:Int), .int .i64 c.x, .int .i64 c.y, .int .i64 fh]) Z (λ _=>by kernel_rfl) Z λ To adm j0 ajK np=>hK _ _ ⟨τ tM j0, ?_⟩;have:=tM.size;have sC:=τ ih tM;have:=j0.size;have tR:=τ sC j0;have alc:=np.lt;refine pT Z Z Qt Z (λ _ x=>IU ([2,(dF:Int),c.x,c.y,fh]) _ _ _ ((aN.LX (R:=bS) (by_:=8) (k:= [2,(dF:Int),c.x,c.y,fh]) np [[.int .i64 2], [.int .i64 (dF:Int)], [.int .i64 c.x], [.int .i64 c.y], [.int .i64 fh]] Z (⟨⟨Z,bN.2 (by decide)⟩,⟨⟨Z,bN.2 (by omega)⟩,⟨⟨Z,akz.1⟩,⟨⟨Z,akz.2⟩,⟨⟨Z,Y_⟩,trivial⟩⟩⟩⟩⟩) (by simp) (by simp)).keep x)) Z<|fS Z Z Z λ Tq gJ Q hK=>c6 (e:= 41) (cs:= [.int .u64 (U (qY ([2,(dF:Int),c.x,c.y,fh])))]) Z (λ _=>by kernel_rfl) Z λ Ol aKd gR aOn abN=>hK _ _ ⟨τ gJ gR, ?_⟩;have:=gJ.size;have yz:=τ tR gJ;have:=gR.size;have vt:=τ yz gR;have aDm:=abN.lt;have yM:=yM.later iD;have yM:=yM.mod lj (b' N7);have yM:=yM.later (τ tM (τ j0 (τ gJ gR)));refine en Z Z Z λ aar h3 Q hK=>ap UP κ.dE (yM.later h3) ((aN.gM (R:=qf) (by_:=8) (q:=(qY ([2,(dF:Int),c.x,c.y,fh]))) abN ⟨Z,trivial⟩ (by decide)).keep h3) Z Z (by simp only [aUn,aUt];omega) (by simp only [aUn,aUt];omega) (by have:=h3.size;omega) Z λ JT anU aqZ wx Py avB aPK=>hK _ _ ?_;have:=h3.size;have vv:=τ vt h3;have:=wx.size;have pj:=Ext.mod vv wx (λ q I=>aUP (by omega) ((yM.later h3).lt q I).1);have aSL:=λ q I=>(Py.lt q I).2;have:=wx.size;refine ar Z (λ _=>fA Z)<|fn λ Om kA=> ?_;have:=kA.size;have wZ:=τ pj kA;refine bX<|aT<|rg<|J (bad Z Z (bH (by omega)))<|vm Z<|nl<| ?_;have ab:=ab.later (τ tM (τ j0 (τ gJ (τ gR h3))));have ab:=ab.mod wx (λ I=>HL _ I rfl);have ab:=ab.later kA;have Py:=Py.later kA;exact cO _ _ ⟨dF+1,EX++ [(qY ([2,(dF:Int),c.x,c.y,fh]))],anU,aqZ,Z,Z,wZ,ab,Py,by omega,by rw [aBa,WR,ax4],(λ q I Φ=>by (exact aUw (avB q I) (λ ajt=>by (exact HL q ajt Φ)) (λ ajt=>by omega)))⟩ (by omega) (.cons Z (.cons Z (.cons Z (.cons Z (.cons Z (.cons Z (.cons (bO Z) .nil)))))))
 ·refine c_<|c9<|dn<|c8<|aT<|az<|ai<|J (au AZ Z)<|J (ak Z (ab.one gy Z))<|J (cj underlying22 Z)<|vm Z<|ag<|bA<| ?_;refine dX (λ b4 b2 aG=>∃ dt:Nat,∃ Cw:List (BitVec 64),∃ gi:Option Addr,∃ ob:Nat,b2= [(1, .pointer (some ⟨bw,0,none⟩)),(2, .int .u64 0),(3, .int .i64 0),(5, .slice gi Cw.length ob),(59, .slice a.M W.bs.length a.m),(60, .int .i64 (W.bs.length:Int)),(61, .int .i64 (dt:Int))]∧b4=W.bs.length - dt∧Ext w aG∧aN aG bw (aj.cells a W) 28 (0,0)∧qf.aD 41 8 aG w.heap.size (κ.ae gi) gi ob Cw∧(dt≤W.bs.length)∧(Cw=Bz W W.aZ.length++BA W dt)∧(∀ q∈κ.ae gi,q=bw→False)) _ _ ⟨0,EX,Hd,P7,Z,Z,j1,ab,yM,by omega,by rw [BA,aUV,WR,show dF=W.aZ.length by omega],(λ q I Φ=>by (exact HL q I Φ))⟩ (.cons Z (.cons Z (.cons Z (.cons Z (.cons Z (.cons Z (.cons (bO Z) .nil))))))) ?_;rintro x0 aIA On ⟨dt,Cw,gi,ob,rfl,rfl,rj,ab,gH,gv,Q2,HP⟩;have:=rj.size;have aC0:=ab.lt;have aRW:=λ q I=>(gH.lt q I).2;refine ai<|J (blt Z Z)<|ag<|az<| ?_;refine dw Z (λ awa=> ?_) (λ awa=> ?_)
  ·obtain ⟨ou,Rt⟩:∃ ou,W.bs.getD dt 0=ou:=⟨_,rfl⟩;have Y_:fK ou:=Jp bQ.M ou (by rw [← Rt];exact jT (by omega));have agx:Cw.length≤W.aZ.length+1+dt:=by rw [Q2,aUq,YS];have:=YW W dt;omega
   refine bt<|az<|bA<|ai<|vm Z<|J (bY dt underlying22 cU Z Z ((bQ.M.keep rj).bu (aX dt)) Z (by omega))<|J (ak Z (κ.aK.fu gV ((bQ.M.keep rj).cr (aX dt)) (show W.bs[dt]? =some ou by rw [← Rt];exact dH (u:=0) (by omega)) Z bf))<|va Z<|va Z<|ag<|ai<|vm Z<|J (bne Z Z)<|ag<| ?_;refine eU Z (λ FB=> ?_) (λ FB=> ?_)
   ·have FQ:ou≠0:=by simpa using FB
    refine rg<|vm Z<|vm Z<|vm Z<|c6 (e:= 3) (cs:= [.int .i64 3, .int .i64 (dt:Int), .int .i64 ou]) Z (λ _=>by kernel_rfl) Z λ Ti ap1 jY aAb Kc=> ?_;have:=jY.size;have Ac:=τ rj jY;have ak5:=Kc.lt;refine ca Qt Z Z ((IU ([3,(dt:Int),ou]) _ _ _ (aN.LX (R:=bS) (by_:=8) (k:= [3,(dt:Int),ou]) Kc [[.int .i64 3], [.int .i64 (dt:Int)], [.int .i64 ou]] Z (⟨⟨Z,bN.2 (by decide)⟩,⟨⟨Z,bN.2 (by omega)⟩,⟨⟨Z,Y_⟩,trivial⟩⟩⟩) (by simp) (by simp))).mono ?_);rintro e aGc ⟨rfl,TH⟩;refine ⟨_,Z, ?_⟩;have:=TH.size;have aaF:=τ Ac TH;refine c6 (e:= 41) (cs:= [.int .u64 (U (qY ([3,(dt:Int),ou])))]) Z (λ _=>by kernel_rfl) Z λ aS5 aJH TI aNC abp=> ?_;have:=TI.size;have aHk:=τ aaF TI;have aC4:=abp.lt;have gH:=gH.later (τ jY (τ TH TI));refine ap UP κ.dE gH (aN.gM (R:=qf) (by_:=8) (q:=(qY ([3,(dt:Int),ou]))) abp ⟨Z,trivial⟩ (by decide)) Z Z (by simp only [aUn,aUt];omega) (by simp only [aUn,aUt];omega) (by omega) Z λ aGd anI aqN R7 acF avw aPh=> ?_;have:=R7.size;have TN:=Ext.mod aHk R7 (λ q I=>aUP (by omega) (gH.lt q I).1);have aR2:=λ q I=>(acF.lt q I).2;have:=R7.size;refine va Z<|nl<|bX<|aT<|rg<|J (bad Z Z (bH (by omega)))<|vm Z<|nl<| ?_;have ab:=ab.later (τ jY (τ TH TI));have ab:=ab.mod R7 (λ I=>HP _ I rfl);exact cO _ _ ⟨dt+1,Cw++ [(qY ([3,(dt:Int),ou]))],anI,aqN,Z,Z,TN,ab,acF,by omega,by rw [Q2,BA,Rt,aUr FQ];simp,(λ q I Φ=>by (exact aUw (avw q I) (λ MM=>by (exact HP q MM Φ)) (λ MM=>by omega)))⟩ (by omega) (.cons Z (.cons Z (.cons Z (.cons Z (.cons Z (.cons Z (.cons (bO Z) .nil)))))))
   ·have FQ:ou=0:=by simpa using FB
    refine fv<|bX<|aT<|rg<|J (bad Z Z (bH (by omega)))<|vm Z<|nl<| ?_;exact cO _ _ ⟨dt+1,Cw,gi,ob,Z,Z,rj,ab,gH,by omega,by rw [Q2,BA,Rt,aUz FQ];simp,(λ q I Φ=>by (exact HP q I Φ))⟩ (by omega) (.cons Z (.cons Z (.cons Z (.cons Z (.cons Z (.cons Z (.cons (bO Z) .nil)))))))
  ·refine c_<|c9<|dn<|c8<|aT<|az<|ai<|J (au iO Z)<|J (ak Z (ab.one j7 Z))<|J (cj underlying26 Z)<|vm Z<|ag<|bA<| ?_;refine dX (λ b4 b2 aG=>∃ jj:Nat,∃ EY:List (BitVec 64),∃ OV:Option Addr,∃ Vf:Nat,b2= [(2, .int .u64 0),(3, .int .i64 0),(5, .slice OV EY.length Vf),(77, .slice a.T W.ao.length a.t),(78, .int .i64 (W.ao.length:Int)),(79, .int .i64 (jj:Int))]∧b4=W.ao.length - jj∧Ext w aG∧qf.aD 41 8 aG w.heap.size (κ.ae OV) OV Vf EY∧(jj≤W.ao.length)∧(EY=Bz W W.aZ.length++BA W W.bs.length++(W.ao.take jj).map Nv)) _ _ ⟨0,Cw,gi,ob,Z,Z,rj,gH,by omega,by rw [Q2,show dt=W.bs.length by omega];simp⟩ (.cons Z (.cons Z (.cons Z (.cons Z (.cons Z (.cons (bO Z) .nil)))))) ?_;rintro aOS aIF amQ ⟨jj,EY,OV,Vf,rfl,rfl,B_,yN,XD,Ic⟩;have:=B_.size;have amq:=λ q I=>(yN.lt q I).2;refine ai<|J (blt Z Z)<|ag<|az<| ?_;refine dw Z (λ awi=> ?_) (λ awi=> ?_)
   ·obtain ⟨t,FX⟩:∃ t,W.ao.getD jj default=t:=⟨_,rfl⟩;obtain ⟨pa,l4,nP,ov,qc,Jb,Nz⟩:fK t.id∧fK t.owner∧fK t.kind∧fK t.spot.x∧fK t.spot.y∧fK t.dc∧fK t.load:=bd.oT bQ.T t (by rw [← FX];exact jT (by omega));have agx:EY.length≤W.aZ.length+1+W.bs.length+jj:=by rw [Ic,aUq,aUq,YS,aUZ,aUm];have:=YW W W.bs.length;omega
    refine bt<|az<|bA<|ai<|J (bY jj underlying26 jd Z Z ((bQ.T.keep B_).bu (aX jj)) Z (by omega))<|J (ak Z (κ.aK.hb jH ((bQ.T.keep B_).cr (aX jj)) (show W.ao[jj]? =some t by rw [← FX];exact dH (u:=default) (by omega)) y8 jd))<|al Z Ln Z Z λ aGj aJM GV aNI yF=> ?_;have:=GV.size;have aaJ:=τ B_ GV;have aQp:=yF.lt;refine st (new:= [.int .i64 t.id, .int .i64 t.owner, .int .i64 t.kind, .int .i64 t.spot.x, .int .i64 t.spot.y, .int .i64 t.dc, .int .i64 t.load]) Z Z yF Z jd Z Z Z λ aaj Bv yF=> ?_;have:=Bv.size;have Ey:=Ext.mod aaJ Bv bx;refine ag<|rg<|vm Z<|J (au HW Z)<|J (ak Z (yF.one bf Z))<|J (au Fs Z)<|J (ak Z (yF.one bf Z))<|J (au Qy Z)<|J (ak Z (yF.one bf Z))<|J (au uA Z)<|J (au ij Z)<|J (ak Z (yF.one bf Z))<|J (au uA Z)<|J (au iN Z)<|J (ak Z (yF.one bf Z))<|J (au HZ Z)<|J (ak Z (yF.one bf Z))<|J (au AW Z)<|J (ak Z (yF.one bf Z))<|c6 (e:= 3) (cs:= [.int .i64 4, .int .i64 t.id, .int .i64 t.owner, .int .i64 t.kind, .int .i64 t.spot.x, .int .i64 t.spot.y, .int .i64 t.dc, .int .i64 t.load]) Z (λ _=>by kernel_rfl) Z λ amS ap5 qk aAd Ke=> ?_;have:=qk.size;have OC:=τ Ey qk;have aC5:=Ke.lt;refine ca Qt Z Z ((IU ([4,t.id,t.owner,t.kind,t.spot.x,t.spot.y,t.dc,t.load]) _ _ _ (aN.LX (R:=bS) (by_:=8) (k:= [4,t.id,t.owner,t.kind,t.spot.x,t.spot.y,t.dc,t.load]) Ke [[.int .i64 4], [.int .i64 t.id], [.int .i64 t.owner], [.int .i64 t.kind], [.int .i64 t.spot.x], [.int .i64 t.spot.y], [.int .i64 t.dc], [.int .i64 t.load]] Z (⟨⟨Z,bN.2 (by decide)⟩,⟨⟨Z,pa⟩,⟨⟨Z,l4⟩,⟨⟨Z,nP⟩,⟨⟨Z,ov⟩,⟨⟨Z,qc⟩,⟨⟨Z,Jb⟩,⟨⟨Z,Nz⟩,trivial⟩⟩⟩⟩⟩⟩⟩⟩) (by simp) (by simp))).mono ?_);rintro e amT ⟨rfl,tK⟩;refine ⟨_,Z, ?_⟩;have:=tK.size;have OD:=τ OC tK;refine c6 (e:= 41) (cs:= [.int .u64 (U (qY ([4,t.id,t.owner,t.kind,t.spot.x,t.spot.y,t.dc,t.load])))]) Z (λ _=>by kernel_rfl) Z λ aTj aJQ sx aNO aby=> ?_;have:=sx.size;have aHx:=τ OD sx;have aQu:=aby.lt;have yN:=yN.later GV;have yN:=yN.mod Bv (b' amq);have yN:=yN.later (τ qk (τ tK sx));refine ap UP κ.dE yN (aN.gM (R:=qf) (by_:=8) (q:=(qY ([4,t.id,t.owner,t.kind,t.spot.x,t.spot.y,t.dc,t.load]))) aby ⟨Z,trivial⟩ (by decide)) Z Z (by simp only [aUn,aUt];omega) (by simp only [aUn,aUt];omega) (by omega) Z λ aTn anN aqS YK acL aLn aPs=> ?_;have:=YK.size;have aHB:=Ext.mod aHx YK (λ q I=>aUP (by omega) (yN.lt q I).1);have aSc:=λ q I=>(acL.lt q I).2;have:=YK.size;refine va Z<|nl<|bX<|aT<|rg<|J (bad Z Z (bH (by omega)))<|vm Z<|nl<| ?_;exact cO _ _ ⟨jj+1,EY++ [(qY ([4,t.id,t.owner,t.kind,t.spot.x,t.spot.y,t.dc,t.load]))],anN,aqS,Z,Z,aHB,acL,by omega,by rw [Ic,aBl (by omega) FX,aUX];rfl⟩ (by omega) (.cons Z (.cons Z (.cons Z (.cons Z (.cons Z (.cons (bO Z) .nil))))))
   ·refine c_<|c9<|dn<|c8<|aT<|ai<|vm Z<|ca atw Z Z ((aBY EY _ _ _ yN.has).mono ?_);rintro e aTs ⟨rfl,anl⟩;refine ⟨_,Z, ?_⟩;have:=anl.size;have aHF:=τ B_ anl;refine va Z<|va Z<|ag<|rt<|bb (.tmp Z (.tmp Z .nil))<| ?_;exact ⟨by unfold sm;rw [aUz hc,hc,Ic,show jj=W.ao.length by omega,aVd];rfl,aHF⟩
theorem aj8 (a:aj.cq) (W:aj) (w:World) (bQ:aj.Has w a W):Calls prog 20 #[.agg (aj.cells a W).toArray] w (λ e w'=>e= .returned (.tuple #[.int .u64 (U (sm W)), .int .i64 W.bq])∧Ext w w'):=by
 by_cases hc:W.bq=0
 ·exact aA9 a W w bQ hc
 ·exact aA8 a W w bQ hc
end
section
theorem apE:fa prog qf 38 41 8:=fa.lK (z:= .int .u64 0) (k:=1) underlying38 ail rfl rfl (by decide) (λ j u h=>alg j u h)
open Go.Proofs.YtlikikpgmmkjbaaGreat.fj
theorem NN (a:aj.cq) (W:aj) (A:Option Addr) (c:Nat) (T:List ej) (L:List (List aO)) (w:World) (bQ:aj.Has w a W) (b7:iU.aK 24 w A c T) (mj:n_ w T L):
  Calls prog 47 #[.agg ((aj.cells a W).toArray), .slice A T.length c] w (λ e w'=>∃ e' a' V bL b_ ms,e= .returned (.tuple #[.agg (aj.cells a' V).toArray, .slice bL (ms:List (BitVec 64)).length b_, .int .i64 e'])∧E6 W L e' V ms∧bj w' w.heap.size a' V∧qf.aD 41 8 w' w.heap.size (κ.ae bL) bL b_ ms∧(∀ q,q∈κ.ae bL→q∈bj.bV a'→False)∧Ext w w'):=by
 refine cl (n:=64) func47 Z Z Z ?_;refine ai<|cI Z Z Z Z λ cW bw a7 eA ab=> ?_;have:=a7.size;have bk:=τ (Ext.bK w) a7;have eG:=ab.lt;refine al Z pR Z Z λ eM cA bo iq ah=> ?_;have:=bo.size;have bR:=τ bk bo;have ia:=ah.lt;refine va Z<|va Z<|ag<|az<|ai<|vm Z<|J (cj underlying29 Z)<|J (iK Z Z)<|ag<| ?_;refine dw Z (λ iA=> ?_) (λ iA=> ?_)
 ·refine ai<|J (v:= .agg #[.int .i64 0, .int .i64 0, .slice none 0 0, .slice none 0 0, .slice none 0 0, .slice none 0 0, .slice none 0 0, .int .i64 0, .int .i64 0]) (cM Z (by kernel_rfl))<|st (new:= [.int .i64 0, .int .i64 0, .slice none 0 0, .slice none 0 0, .slice none 0 0, .slice none 0 0, .slice none 0 0, .int .i64 0, .int .i64 0]) Z Z ah Z cf Z Z Z λ ym p8 ah=> ?_;have:=p8.size;have kC:=Ext.mod bR p8 bx;refine va Z<|va Z<|ag<|rt<|bT<|bb (.cell Z (ah.all dD cf) (.tmp Z (.tmp Z .nil)))<| ?_;exact ⟨2,⟨none,none,none,none,none,0,0,0,0,0⟩,aj.zero,none,0, [],Z, .inr ⟨by decide, .inl (by rw [← mj.1];omega),rfl,rfl⟩,bj.zero _ _,κ.aD.nil _,λ q I=>by simp [κ.ae] at I,kC⟩
 ·have av5:L.length≤200:=by rw [← mj.1];omega
  refine bt<|ai<| ?_;have ab:=ab.later bo;refine J (ak Z (ab.all dD cf))<|ca afk Z Z ((al6 ([]:List dy) _ _ a W _ (bQ.keep bR) (κ.aK.nil _)).mono ?_);rintro e sw ⟨a20,J_,aqz,rfl,sL,acn,L3,cB⟩;refine ⟨_,Z, ?_⟩;have:=cB.size;have ix:=τ bR cB;have amt:=λ q I=>(sL.lt q I).2;have F7:=λ q I=>(sL.lt q I).1;have GF:=λ q I=>(acn.lt q I).2;have Nf:=λ q I=>(acn.lt q I).1;have asa:∀ q∈κ.ae J_,q∈bj.bV a20→False:=L3;have asZ:∀ q∈bj.bV a20,q∈κ.ae J_→False:=λ q γ aa=>L3 q aa γ;refine vm Z<|J (ex Z Z)<|J (ex Z Z)<|J (ex Z Z)<| ?_;have ab:=ab.later cB;refine st Z Z ab Z cf Z Z Z λ z7 ot ab=> ?_;have:=ot.size;have kD:=Ext.mod ix ot bx;refine va Z<|va Z<|ag<|az<|ai<|vm Z<|J (bne Z Z)<|ag<| ?_;refine eU Z (λ oj=> ?_) (λ oj=> ?_)
  ·have Bd:W.bq≠0:=λ bh=>oj (U9 bh (by simp));refine ai<|J (v:= .agg #[.int .i64 0, .int .i64 0, .slice none 0 0, .slice none 0 0, .slice none 0 0, .slice none 0 0, .slice none 0 0, .int .i64 0, .int .i64 0]) (cM Z (by kernel_rfl))<|vm Z<| ?_;have ah:=ah.later cB;have ah:=ah.mod ot aQ;refine st (new:= [.int .i64 0, .int .i64 0, .slice none 0 0, .slice none 0 0, .slice none 0 0, .slice none 0 0, .slice none 0 0, .int .i64 0, .int .i64 0]) Z Z ah Z cf Z Z Z λ GJ Bw ah=> ?_;have:=Bw.size;have vn:=Ext.mod kD Bw bx;refine va Z<|va Z<|ag<|rt<|bT<|bb (.cell Z (ah.all dD cf) (.tmp Z (.tmp Z .nil)))<| ?_;exact ⟨mh W ([]:List dy),⟨none,none,none,none,none,0,0,0,0,0⟩,aj.zero,none,0, [],Z, .inr ⟨oj, .inr (.inl Bd),Z,Z⟩,bj.zero _ _,κ.aD.nil _,λ q I=>by simp [κ.ae] at I,vn⟩
  ·have mU:W.bq=0:=(PX (by first | exact oj | simpa using oj)).1;have FW:=al7 mU;refine bt<|ai<|J (ak Z (ab.all dD cf))<| ?_;have sL:=sL.mod ot (bC F7);refine ca afm Z Z ((aj8 a20 (gQ W ([]:List dy)) _ sL.has).mono ?_);rintro e BU ⟨rfl,ho⟩;refine ⟨_,Z, ?_⟩;have:=ho.size;have k4:=τ kD ho;refine vm Z<|J (ex Z Z)<|J (ex Z Z)<|va Z<|va Z<|ag<|ai<|vm Z<|c6 (e:= 41) (cs:= [.int .u64 (U (sm (gQ W ([]:List dy))))]) Z (λ _=>by kernel_rfl) Z λ Of U4 B8 aN6 abG=> ?_;have:=B8.size;have rh:=τ k4 B8;have aQY:=abG.lt;refine va Z<|ag<|az<|ai<|vm Z<|J (cj underlying29 Z)<|vm Z<|ag<|bA<| ?_;have KE:=aN.wC (R:=qf) (by_:=8) (B:=w.heap.size) (k:= [sm (gQ W ([]:List dy))]) abG [[.int .u64 (U (sm (gQ W ([]:List dy))))]] rfl (⟨⟨rfl,trivial⟩,trivial⟩) (by simp) (by simp) (by decide) (by omega);have xE:∀ q∈κ.ae (some ⟨U4,0,none⟩),q=U4:=λ q I=>aUg.1 I;have ab:=ab.later (τ ho B8);have sL:=sL.later (τ ho B8);have ah:=ah.later cB;have ah:=ah.mod ot aQ;have ah:=ah.later (τ ho B8);refine dX (λ b4 b2 aG=>∃ k:Nat,∃ E0:List (BitVec 64),∃ cw:Option Addr,∃ gu:Nat,∃ oU:aj.cq,∃ kJ:aj,b2= [(2, .pointer (some ⟨bw,0,none⟩)),(4, .pointer (some ⟨cA,0,none⟩)),(11, .slice cw E0.length gu),(35, .slice A T.length c),(36, .int .i64 (T.length:Int)),(37, .int .i64 (k:Int))]∧b4=T.length - k∧Ext w aG∧aN aG cA [.int .i64 0, .int .i64 0, .slice none 0 0, .slice none 0 0, .slice none 0 0, .slice none 0 0, .slice none 0 0, .int .i64 0, .int .i64 0] 28 (0,0)∧qf.aD 41 8 aG w.heap.size (κ.ae cw) cw gu E0∧aN aG bw (aj.cells oU kJ) 28 (0,0)∧bj aG w.heap.size oU kJ∧(k≤T.length)∧(kY W (L.take k)=0)∧(kJ=oA W (L.take k))∧(E0=yh W (L.take k))∧(∀ q∈bj.bV oU,q=bw→False)∧(∀ q∈bj.bV oU,q=cA→False)∧(∀ q∈κ.ae cw,q=cA→False)∧(∀ q∈κ.ae cw,q=bw→False)∧(∀ q∈κ.ae cw,q∈bj.bV oU→False)) _ _ ⟨0, [sm (gQ W ([]:List dy))],some ⟨U4,0,none⟩,1,a20,gQ W ([]:List dy),Z,Z,rh,ah,KE,ab,(sL.down (by omega)),by omega,rfl,FW.1,(by rw [FW.1];rfl),(λ q I Φ=>by exfalso;(have:=F7 q I;omega)),(λ q I Φ=>by exfalso;(have:=F7 q I;omega)),(λ q I Φ=>by (have:=xE q I;omega)),(λ q I Φ=>by (have:=xE q I;omega)),(λ q I Φ=>by (have:=xE q I;(have:=amt q Φ;omega)))⟩ (.cons Z (.cons Z (.cons Z (.cons Z (.cons Z (.cons (bO Z) .nil)))))) ?_;rintro aO0 aI1 BV ⟨k,E0,cw,gu,oU,kJ,rfl,rfl,lT,ah,ck,cC,gx,aw,nC,Il,Q3,arI,arJ,vP,C1,Fk⟩;have:=lT.size;have aDi:=ah.lt;have BN:=λ q I=>(ck.lt q I).2;have Gt:=cC.lt;have BO:=λ q I=>(gx.lt q I).2;have aLz:E0.length≤k+1:=by rw [Q3,alr,aUm];omega
   refine ai<|J (blt Z Z)<|ag<|az<| ?_;refine dw Z (λ LS=> ?_) (λ LS=> ?_)
   ·obtain ⟨df,cJ,fD,eV,qJ,hx⟩:=mj.at_ (k:=k) (by omega);refine bt<|az<|bA<|ai<|J (bY k underlying29 uy Z Z ((b7.keep lT).bu (aX k)) Z (by omega))<|J (v:= .slice df fD.length cJ) (ak Z (κ.aK.fu Dh ((b7.keep lT).cr (aX k)) eV Z kL))<|va Z<|ag<|az<|ai<|J (ak Z (cC.all dD cf))<|vm Z<|ca VN Z Z ((N1 oU kJ _ _ fD _ gx.has (hx.keep lT)).mono ?_);rintro e amY ⟨a59,aaY,aKy,aaZ,aKz,aa0,aKA,rfl,yK,acv,acw,acx,Xn,G0⟩;refine ⟨_,Z, ?_⟩;have:=G0.size;have OJ:=τ lT G0;have GH:=λ q I=>(yK.lt q I).2;have Nh:=λ q I=>(yK.lt q I).1;have N8:=λ q I=>(acv.lt q I).2;have aOL:=λ q I=>(acv.lt q I).1;have N_:=λ q I=>(acw.lt q I).2;have aOM:=λ q I=>(acw.lt q I).1;have aFu:=λ q I=>(acx.lt q I).2;have aON:=λ q I=>(acx.lt q I).1;have asi:∀ q∈κ.ae aaY,q∈bj.bV a59→False:=λ q I=>Xn q (.inl I);have aK1:∀ q∈bj.bV a59,q∈κ.ae aaY→False:=λ q γ aa=>asi q aa γ;have asj:∀ q∈κ.ae aaZ,q∈bj.bV a59→False:=λ q I=>Xn q (.inr (.inl I));have aK2:∀ q∈bj.bV a59,q∈κ.ae aaZ→False:=λ q γ aa=>asj q aa γ;have asl:∀ q∈κ.ae aa0,q∈bj.bV a59→False:=λ q I=>Xn q (.inr (.inr I));have aK3:∀ q∈bj.bV a59,q∈κ.ae aa0→False:=λ q γ aa=>asl q aa γ;refine vm Z<|J (ex Z Z)<|J (ex Z Z)<|J (ex Z Z)<| ?_;have cC:=cC.later G0;refine st Z Z cC Z cf Z Z Z λ Tq mo cC=> ?_;have:=mo.size;have yz:=Ext.mod OJ mo bx;refine va Z<|ag<|ai<|vm Z<|J (bne Z Z)<|ag<| ?_;refine eU Z (λ v_=> ?_) (λ v_=> ?_)
    ·refine ai<|J (v:= .agg #[.int .i64 0, .int .i64 0, .slice none 0 0, .slice none 0 0, .slice none 0 0, .slice none 0 0, .slice none 0 0, .int .i64 0, .int .i64 0]) (cM Z (by kernel_rfl))<|vm Z<| ?_;have ah:=ah.later G0;have ah:=ah.mod mo aQ;refine st (new:= [.int .i64 0, .int .i64 0, .slice none 0 0, .slice none 0 0, .slice none 0 0, .slice none 0 0, .slice none 0 0, .int .i64 0, .int .i64 0]) Z Z ah Z cf Z Z Z λ Ts mr ah=> ?_;have:=mr.size;have yA:=Ext.mod yz mr bx;refine va Z<|va Z<|ag<|rt<|bT<|eK<|bT<|my<|eK<|bT<|bb (.cell Z (ah.all dD cf) (.tmp Z (.tmp Z .nil)))<| ?_;exact ⟨ic kJ fD,⟨none,none,none,none,none,0,0,0,0,0⟩,aj.zero,none,0, [],Z, .inr ⟨v_, .inr (.inr (ZC (k:=k+1) (by rw [ZE nC qJ,← Il];exact v_))),Z,Z⟩,bj.zero _ _,κ.aD.nil _,λ q I=>by simp [κ.ae] at I,yA⟩
    ·have avX:kY W (L.take (k+1))=0:=by rw [ZE nC qJ,← Il];first | exact v_ | simpa using v_
     refine bt<|ai<|J (ak Z (cC.all dD cf))<| ?_;have yK:=yK.mod mo (bC Nh);refine ca afm Z Z ((aj8 a59 (oD kJ fD) _ yK.has).mono ?_);rintro e BW ⟨rfl,h2⟩;refine ⟨_,Z, ?_⟩;have:=h2.size;have oK:=τ yz h2;refine vm Z<|J (ex Z Z)<|J (ex Z Z)<|va Z<|ag<|rg<|vm Z<|vm Z<|c6 (e:= 41) (cs:= [.int .u64 (U (sm (oD kJ fD)))]) Z (λ _=>by kernel_rfl) Z λ JT aKh k3 aOr abQ=> ?_;have:=k3.size;have pj:=τ oK k3;have aRh:=abQ.lt;have ck:=ck.later G0;have ck:=ck.mod mo (λ q I h=>by have Φ:=aUg.1 h;exfalso;(exact C1 q I Φ));have ck:=ck.later (τ h2 k3);refine ap apE κ.dE ck (aN.gM (R:=qf) (by_:=8) (q:=(sm (oD kJ fD))) abQ ⟨Z,trivial⟩ (by decide)) Z Z (by simp only [aUn,aUt];omega) (by simp only [aUn,aUt];omega) (by omega) Z λ Tw anW aq4 Gj acX WA aPN=> ?_;have:=Gj.size;have Ci:=Ext.mod pj Gj (λ q I=>aUP (by omega) (ck.lt q I).1);have aFz:=λ q I=>(acX.lt q I).2;have:=Gj.size;refine va Z<|nl<|bX<|aT<|rg<|J (bad Z Z (bH (by omega)))<|vm Z<|nl<| ?_;have ah:=ah.later G0;have ah:=ah.mod mo aQ;have ah:=ah.later (τ h2 k3);have ah:=ah.mod Gj (λ I=>vP _ I rfl);have cC:=cC.later (τ h2 k3);have cC:=cC.mod Gj (λ I=>C1 _ I rfl);have gx:=gx.later G0;have gx:=gx.mod mo (λ q I h=>by have Φ:=aUg.1 h;exfalso;(exact arI q I Φ));have gx:=gx.later (τ h2 k3);have gx:=gx.mod Gj (λ q I h=>Fk q h I);have yK:=yK.later (τ h2 k3);have yK:=yK.mod Gj (λ q I h=>by exfalso;(have:=Nh q I;(have:=BN q h;omega)));exact cO _ _ ⟨k+1,E0++ [(sm (oD kJ fD))],anW,aq4,a59,oD kJ fD,Z,Z,Ci,ah,acX,cC,(yK.down (by omega)),by omega,avX,by rw [zL qJ,alq,Il];rfl,by rw [Q3,zL qJ,als,Il],(λ q I Φ=>by exfalso;(have:=Nh q I;omega)),(λ q I Φ=>by exfalso;(have:=Nh q I;omega)),(λ q I Φ=>by (exact aUw (WA q I) (λ ME=>by (exact vP q ME Φ)) (λ ME=>by omega))),(λ q I Φ=>by (exact aUw (WA q I) (λ MF=>by (exact C1 q MF Φ)) (λ MF=>by omega))),(λ q I Φ=>by (exact aUw (WA q I) (λ DF=>by (have:=Nh q Φ;(have:=BN q DF;omega))) (λ DF=>by (have:=GH q Φ;omega))))⟩ (by omega) (.cons Z (.cons Z (.cons Z (.cons Z (.cons Z (.cons (bO Z) .nil))))))
   ·have mS:k=L.length:=by rw [← mj.1];omega
    refine c_<|c9<|dn<|c8<|aT<|ai<|J (ak Z (cC.all dD cf))<|vm Z<|st Z Z ah Z cf Z Z Z λ aS1 R6 ah=> ?_;have:=R6.size;have aHg:=Ext.mod lT R6 bx;refine va Z<|va Z<|ag<|rt<|bb (.cell Z (ah.all dD cf) (.tmp Z (.tmp Z .nil)))<| ?_;have ck:=ck.mod R6 (λ q I h=>by have Φ:=aUg.1 h;exfalso;(exact vP q I Φ));have gx:=gx.mod R6 (λ q I h=>by have Φ:=aUg.1 h;exfalso;(exact arJ q I Φ));rw [mS,aVd] at nC Il Q3;exact ⟨0,oU,kJ,cw,gu,E0,Z, .inl ⟨Z,av5,mU,nC,Il,Q3⟩,gx.down (by omega),ck,λ q I hf=>by exfalso;(exact Fk q I hf),aHg⟩
end
section
inductive Cz where
 | last (i:Nat) (bZ:List Nat)
 | two (i:Nat) (bZ:List Nat) (t1 t2:Cz)
def Cz.hd:Cz→Nat
 | .last i _=>i
 | .two i _ _ _=>i
section
variable {P:Program} {n:Nat} {E:List (Nat×Value)} {w:World} {Q:Exit→Act→World→Prop} {ops:Array Oper} {a6:Nat→Nat}
def TA (P:Program) (ops:Array Oper) (Q:Exit→Act→World→Prop) (a6:Nat→Nat):Cz→Act→World→Prop
 | .last i bZ=>u_ P ops (gO (Q .normal)) a6 (i::bZ)
 | .two i bZ t1 t2=>u_ P ops (gO (λ a w=>TA P ops Q a6 t1 a w∧TA P ops Q a6 t2 a w)) a6 (i::bZ)
def amd (ops:Array Oper) (a6:Nat→Nat):Cz→Array Bool→Nat→Bool
 | .last i bZ,l,m=>Nat.blt 1 (a6 i) && kl ops a6 bZ (l.setIfInBounds i true) && Nat.beq (bZ.length+1) m
 | .two i bZ t1 t2,l,m=>Nat.blt 1 (a6 i) && C8 ops a6 bZ (l.setIfInBounds i true) && (Region.ready .any ops (wF bZ (l.setIfInBounds i true))== [t1.hd,t2.hd]) && Nat.ble (bZ.length+2) m && amd ops a6 t1 (wF bZ (l.setIfInBounds i true)) (m - 1 - bZ.length) && amd ops a6 t2 (wF bZ (l.setIfInBounds i true)) (m - 1 - bZ.length)
def aIi (P:Program) (ops:Array Oper) (Q:Exit→Act→World→Prop) (a6:Nat→Nat) (t1 t2:Cz):Exit→Act→World→Prop:=gO (λ a w=>TA P ops Q a6 t1 a w∧TA P ops Q a6 t2 a w)
end
end
section
def Ai (D:Nat) (w w':World):Prop:=w.heap.size≤w'.heap.size∧(D≤w.heap.size→Below D w w')
theorem Ai.qg {D:Nat} {a b c:World} (h:Ai D a b) (k:Ai D b c):Ai D a c:=⟨aUP h.1 k.1,λ hd=>Below.trans (h.2 hd) (k.2 (aUP hd h.1))⟩
theorem Ai.at {a b:World} (h:Ai a.heap.size a b):Ext a b:=h.2 (aUu _)
section
variable {D:Nat} {P:Program} {ops:Array Oper} {Q:Exit→Act→World→Prop} {a6:Nat→Nat}
def acZ (D:Nat) (P:Program) (ops:Array Oper) (w0:World) (o:Oper) (v:Value) (a:Act):Prop :=
  (Region.wanted o (yielded ops a.tmps)=true∧∀ w,Ai D w0 w→zG P w v ((execOp a.eval o).run P w))∨
  (Region.wanted o (yielded ops a.tmps)=false∧v=undef)
def aED (D:Nat) (P:Program) (ops:Array Oper) (Q:Exit→Act→World→Prop) (a6:Nat→Nat) (i:Nat) (K:Act→World→Prop) (a:Act) (w0:World):Prop :=
  ∃ o,ops[i]? =some o∧
    ((a6 i≤1∧∃ v,acZ D P ops w0 o v a∧K (a.put o.dst v) w0)∨
     (1<a6 i∧∀ w,Ext w0 w→wpOp P ops Q i (λ a' w'=>(a6 i=2→Ai D w0 w')∧K a' w') a w))
def apY (D:Nat) (P:Program) (ops:Array Oper) (Q:Exit→Act→World→Prop) (a6:Nat→Nat):Nat→Array Bool→Act→World→Prop
  | 0,l,a,w0=>Region.ready .any ops l= []∧∀ w,Ext w0 w→Q .normal a w
  | f+1,l,a,w0=>(Region.ready .any ops l= []→∀ w,Ext w0 w→Q .normal a w)∧∀ i∈Region.ready .any ops l,aED D P ops Q a6 i (apY D P ops Q a6 f (l.setIfInBounds i true)) a w0
def JV (D:Nat) (P:Program) (ops:Array Oper) (Q:Exit→Act→World→Prop) (a6:Nat→Nat):List Nat→Act→World→Prop
  | [],a,w0=>∀ w,Ext w0 w→Q .normal a w
  | i::r,a,w0=>∃ o,ops[i]? =some o∧
      ((a6 i=0∧∃ v,acZ D P ops w0 o v a∧JV D P ops Q a6 r (a.put o.dst v) w0)∨
       (a6 i=1∧∃ v,Yields P ops o v a∧JV D P ops Q a6 r (a.put o.dst v) w0)∨
       (1<a6 i∧∀ w,Ext w0 w→wpOp P ops Q i (λ a' w'=>(a6 i=2→Ai D w0 w')∧JV D P ops Q a6 r a' w') a w))
end
section
variable {D:Nat} {P:Program} {n:Nat} {E c0:List (Nat×Value)} {a:Act} {w w' w0 aP:World} {Q:Exit→Act→World→Prop} {ops:Array Oper} {v:Value} {a6:Nat→Nat}
variable {d:Option Nat} {ty:TypeId} {pos:String} {af:Array Edge} {g:Option (Nat×Bool)} {x y z:Operand} {t:TypeId} {rest:List Oper} {bZ:List Nat} {i:Nat}
def aJd (D:Nat) (P:Program) (n:Nat) (ops:Array Oper) (Q:Exit→Act→World→Prop) (a6:Nat→Nat) (bZ:List Nat) (E:List (Nat×Value)) (w0:World):Prop:=∀ a,ew n E a→JV D P ops (gO (Q .normal)) a6 bZ a w0
end
end
section
section
variable {D:Nat} {P:Program} {n:Nat} {E:List (Nat×Value)} {w:World} {Q:Exit→Act→World→Prop} {ops:Array Oper} {a6:Nat→Nat}
def TB (D:Nat) (P:Program) (ops:Array Oper) (Q:Exit→Act→World→Prop) (a6:Nat→Nat):Cz→Act→World→Prop
 | .last i bZ=>JV D P ops (gO (Q .normal)) a6 (i::bZ)
 | .two i bZ t1 t2=>JV D P ops (gO (λ a w=>TB D P ops Q a6 t1 a w∧TB D P ops Q a6 t2 a w)) a6 (i::bZ)
def aIj (D:Nat) (P:Program) (ops:Array Oper) (Q:Exit→Act→World→Prop) (a6:Nat→Nat) (t1 t2:Cz):Exit→Act→World→Prop:=gO (λ a w=>TB D P ops Q a6 t1 a w∧TB D P ops Q a6 t2 a w)
end
end
section
open Go.Proofs.YtlikikpgmmkjbaaGreat.fj
def vD (W:aj) (L:List (List aO)):Prop:=L.length≤200∧W.bq=0∧kY W L=0
def aIh (W:aj) (L:List (List aO)) (n e:Int) (V:aj):Prop :=
 (e=0∧vD W L∧0≤n∧n≤(L.length:Int)∧V=oA W (L.take n.toNat))∨(e≠0∧¬(vD W L∧0≤n∧n≤(L.length:Int))∧V=aj.zero)
theorem E6.SR {W:aj} {L:List (List aO)} {e:Int} {V:aj} {ms:List (BitVec 64)} (h:E6 W L e V ms):e=0↔vD W L :=
 ⟨λ aI=>by obtain ⟨γ,aa,av,_,_⟩:=h.ok aI;exact ⟨γ,aa,av⟩,λ ⟨γ,aa,av⟩=>(h.zero γ aa av).1⟩
theorem ark (a:aj.cq) (W:aj) (A:Option Addr) (c:Nat) (T:List ej) (L:List (List aO)) (w:World) (bQ:aj.Has w a W) (b7:iU.aK 24 w A c T) (mj:n_ w T L):
  Calls prog 46 #[.agg #[.int .i64 W.field.wide, .int .i64 W.field.high, .slice a.P W.field.aY.length a.p, .slice a.B W.aZ.length a.b, .slice a.S W.bg.length a.s, .slice a.M W.bs.length a.m, .slice a.T W.ao.length a.t, .int .i64 W.next, .int .i64 W.now, .slice A T.length c]] w (λ e w'=>∃ e':Int,e= .returned (.int .i64 e')∧(e'=0↔vD W L)∧Ext w w'):=by
 have zi:=b7.dT;refine cl (n:=16) func46 Z Z Z ?_;refine ai<|cI Z Z Z Z λ cW bw a7 eA ab=> ?_;have:=a7.size;have bk:=τ (Ext.bK w) a7;have eG:=ab.lt;refine va Z<|ag<|ai<|J (au C6 Z)<|J (ak Z (ab.par [.int .i64 W.field.wide, .int .i64 W.field.high, .slice a.P W.field.aY.length a.p, .slice a.B W.aZ.length a.b, .slice a.S W.bg.length a.s, .slice a.M W.bs.length a.m, .slice a.T W.ao.length a.t, .int .i64 W.next, .int .i64 W.now] dD cf Z))<|J (au rN Z)<|J (ak Z (ab.one qE Z))<|ca Lk Z Z ((NN a W _ _ T L _ (bQ.keep bk) (b7.keep bk) (mj.keep bk)).mono ?_);rintro e zZ ⟨Pc,PE,aJw,aa1,eT,aO6,rfl,ayE,ab2,acp,ag7,mC⟩;refine ⟨_,Z, ?_⟩;have:=mC.size;have iX:=τ bk mC;have amB:=λ q I=>(ab2.lt q I).2;have aOF:=λ q I=>(ab2.lt q I).1;have aFe:=λ q I=>(acp.lt q I).2;have aAG:=λ q I=>(acp.lt q I).1;have aKP:∀ q∈κ.ae aa1,q∈bj.bV PE→False:=ag7;have aK4:∀ q∈bj.bV PE,q∈κ.ae aa1→False:=λ q γ aa=>ag7 q aa γ;refine vm Z<|J (ex Z Z)<|J (ex Z Z)<|J (ex Z Z)<|al Z pR Z Z λ ym aJS l9 aAf T9=> ?_;have:=l9.size;have kC:=τ iX l9;have ak7:=T9.lt;refine st Z Z T9 Z cf Z Z Z λ BR lI T9=> ?_;have:=lI.size;have lR:=Ext.mod kC lI bx;refine va Z<|va Z<|ag<|ai<|vm Z<|va Z<|ag<|rt<|bb (.tmp Z .nil)<| ?_;exact ⟨Pc,Z,ayE.SR,lR⟩
end
section
theorem azw (ff:FuncId) (cs:List Value) (p:aO→Bool) (A:Option Addr) (c:Nat) (l:List aO) (w:World) (aB:aO.rep.aK 48 w A c l) (nC:Enters prog ff) (eg:∀ x∈l,∀ w',Ext w w'→Calls prog ff (([.agg #[.int .i64 x.by_, .int .i64 x.kind, .int .i64 x.aU, .int .i64 x.spot.x, .int .i64 x.spot.y, .int .i64 x.what]]:List Value)++cs).toArray w' λ e lN=>e= .returned (.bool (p x))∧Ext w' lN):
  Calls prog 114 #[.slice A l.length c, .func (.func ff) #[] cs.toArray] w (λ e w'=>e= .returned (.int .i64 (gA p l))∧Ext w w'):=by
 have qR:=aB.dT;refine cl (n:=19) func114 Z Z Z ?_;refine ai<|va Z<|ag<|az<|ai<|vm Z<|J (cj underlying44 Z)<|vm Z<|ag<|bA<| ?_;refine dX (λ b4 b2 aG=>∃ k:Nat,b2= [(0, .slice A l.length c),(1, .func (.func ff) #[] cs.toArray),(7, .int .i64 (l.length:Int)),(8, .int .i64 (k:Int))]∧b4=l.length - k∧Ext w aG∧(k≤l.length)∧(∀ i,i<k→p (l.getD i default)=false)) _ _ ⟨0,Z,Z,(Ext.bK w),by omega,λ i aq=>by omega⟩ (.cons Z (.cons Z (.cons Z (.cons (bO Z) .nil)))) ?_;rintro Nr Kl cW ⟨k,rfl,rfl,bk,aw,aS⟩;have:=bk.size;refine ai<|J (blt Z Z)<|ag<|az<| ?_;refine dw Z (λ lY=> ?_) (λ lY=> ?_)
 ·refine bt<|az<|bA<|ai<|vm Z<|va Z<|ag<|ai<|vm Z<|vm Z<|vm Z<|J (bY k underlying44 eI Z Z ((aB.keep bk).bu (aX k)) Z (by omega))<|J (ak Z (κ.aK.hb Dg ((aB.keep bk).cr (aX k)) (dH (l:=l) (u:=default) (by omega)) iM eI))<|HK nC Z Z Z ((eg (l.getD k default) (jT (by omega)) _ bk).mono ?_);rintro e JN ⟨rfl,yu⟩;refine ⟨_,Z, ?_⟩;have:=yu.size;have mE:=τ bk yu;refine ag<| ?_;refine ee Z (λ lZ=> ?_) (λ lZ=> ?_)
  ·refine ai<|vm Z<|va Z<|ag<|rt<|eK<|bT<|my<|eK<|bT<|bb (.tmp Z .nil)<| ?_;exact ⟨by have e:=RP (p:=p) (l:=l) (d:=default) (k:=k) (by omega) lZ aS;rw [e];rfl,mE⟩
  ·refine fv<|bX<|aT<|rg<|J (bad Z Z (bH (by omega)))<|vm Z<|nl<| ?_;exact cO _ _ ⟨k+1,Z,Z,mE,by omega,th aS lZ⟩ (by omega) (.cons Z (.cons Z (.cons Z (.cons (bO Z) .nil))))
 ·refine c_<|c9<|dn<|c8<|aT<|ai<|va Z<|ag<|rt<|bb (.tmp Z .nil)<| ?_;exact ⟨by have e:=RO (p:=p) (l:=l) (d:=default) (λ i aq=>aS i (by omega));rw [e];rfl,bk⟩
end
section
section
variable {P:Program} {n:Nat} {ops:Array Oper} {Q:Exit→Act→World→Prop} {E:List (Nat×Value)} {w:World} {v:Value} {ty:TypeId} {pos:String} {af:Array Edge} {x y z:Operand} {t:TypeId} {g:Option (Nat×Bool)} {rest:List Oper} {d:Option Nat}
theorem su {d:Nat} {op:Op} {j:Nat} {q b c b3:Bool} {dm:Oper} {jc:Nat} (aA:ops[j]? =some dm) (nF:dm.dst=some jc) (Φ:look E jc=some (ik b3 (.bool b))) (hc:(b3 && (b == q))=c)
  (hr:c=true→cT P E ⟨some d,op,ty,pos,af,some (j,q)⟩ w v w) (hd:Nat.blt d n=true) (h:cG P n ops Q rest ((d,ik c v)::E) w):cG P n ops Q (⟨some d,op,ty,pos,af,some (j,q)⟩::rest) E w :=
 Tz (c:=c) (λ a ha=>by
  have γ:=ha.g _ _ Φ;subst hc;cases b3 with
  | true=>exact Ej (o:=⟨some d,op,ty,pos,af,some (j,q)⟩) rfl aA nF (b:=b) Φ ha
  | false =>
   simp only [ik,aUY,aVs] at γ;simp [Region.wanted,yielded,aA,nF,γ,undef])
  (λ hc a ha=>by unfold Oper.wp;rw [hr hc n a ha];subst hc;exact h _ (ha.put hd v)) (λ hc a ha=>by subst hc;exact h _ (ha.put hd undef))
theorem aCk {b c k:Bool} (aw:k=true) (hx:ev E x=some (.bool b)) (aH:ev E y=some (.bool true)) (bB:ev E z=some (ik (k && (b == false)) (.bool c))):cT P E ⟨d, .pick x y z,ty,pos,af,g⟩ w (.bool (b || c)) w:=by
 subst aw;exact fM hx aH Z bB
theorem akI {b c k:Bool} (aw:k=true) (hx:ev E x=some (.bool b)) (bB:ev E z=some (.bool false)) (aH:ev E y=some (ik (k && (b == true)) (.bool c))):cT P E ⟨d, .pick x y z,ty,pos,af,g⟩ w (.bool (b && c)) w:=by
 subst aw;exact e9 hx bB Z aH
end
end
section
open Go.Proofs.YtlikikpgmmkjbaaGreat.fj
structure bn where
 a:Option Addr
 n:Nat
 c:Nat
 late:Int
 gone:Bool
instance:Inhabited bn:=⟨⟨none,0,0,0,false⟩⟩
def bn.fh (v:bn):ej:=⟨v.a,v.n,v.c⟩
def bn.raw (j:Nat) (u:Value):Prop:=match j with
 | 0=>∃ a n c,u= .slice a n c
 | 1=>∃ n:Int,u= .int .i64 n
 | 2=>∃ b:Bool,u= .bool b
 | _=>True
def bn.cells (v:bn):List Value:= [.slice v.a v.n v.c, .int .i64 v.late, .bool v.gone]
def bn.rep:κ bn:=κ.flat 3 bn.cells (λ v=>fK v.late) bn.raw (λ _=>rfl) (by intro a u hu;simp [bn.cells] at hu;rcases hu with rfl | rfl | rfl<;>rfl) (by
 intro a j u hu
 match j,hu with
 | 0,hu=>exact ⟨_,_,_,(aUh hu).symm⟩
 | 1,hu=>exact ⟨_,(aUh hu).symm⟩
 | 2,hu=>exact ⟨_,(aUh hu).symm⟩
 | j+3,hu=>exact trivial)
theorem l0 {w:World} {cs:List Value} {a:bn} (h:bn.rep.has w cs a):cs=a.cells:=aWw (show cs=a.cells∧fK a.late from h)
def bn.zero:Value:= .agg #[.slice none 0 0, .int .i64 0, .bool false]
theorem bn.iY:∀ (j:Nat) u,bn.zero.cells[j]? =some u→bn.rep.raw j u:=by
 intro j u hu;have hu:(#[(.slice none 0 0:Value),(.int .i64 0:Value),(.bool false:Value)]:Array Value)[j]? =some u:=hu
 match j,hu with
 | 0,hu=>exact ⟨_,_,_,(aUh hu).symm⟩
 | 1,hu=>exact ⟨_,(aUh hu).symm⟩
 | 2,hu=>exact ⟨_,(aUh hu).symm⟩
 | j+3,hu=>simp at hu
theorem bn.info:(prog.info? 90).map (λ i=>(i.zero,i.size,i.bytes))=some (some bn.zero,3,40):=by kernel_rfl
theorem bn.oT {by_:Nat} {w:World} {A:Option Addr} {c:Nat} {l:List bn} (h:bn.rep.aK by_ w A c l):∀ a∈l,fK a.late:=κ.aK.AM (R:=bn.rep) (Q:=λ a=>fK a.late) (fun {w cs a} (h:bn.rep.has w cs a)=>(show cs=a.cells∧fK a.late from h).2) h
structure ch where
 waits:List aO
 late:Int
 gone:Bool
 deriving DecidableEq
def oS (w:World) (T:List bn) (S:List ch):Prop:=n_ w (T.map bn.fh) (S.map ch.waits)∧T.map (λ v=>(v.late,v.gone))=S.map (λ s=>(s.late,s.gone))
section
variable {w w':World} {T j3:List bn} {S S':List ch} {k:Nat}
theorem oS.len (h:oS w T S):T.length=S.length:=by have:=h.1.1;simpa using this
theorem oS.keep (h:oS w T S) (x:Ext w w'):oS w' T S:=⟨h.1.keep x,h.2⟩
theorem oS.at_ (h:oS w T S) (aw:k<T.length):∃ A c s,T[k]? =some ⟨A,s.waits.length,c,s.late,s.gone⟩∧S[k]? =some s∧aO.rep.aK 48 w A c s.waits:=by
 have gv:k<S.length:=by rw [← h.len];exact aw
 obtain ⟨A,c,l,γ,aa,av⟩:=h.1.at_ (k:=k) (by simpa using aw);rw [aUx,aUk aw] at γ;rw [aUx,aUk gv] at aa;have aV:=aVA (λ l=>l[k]?) h.2;simp only [aUx,aUk aw,aUk gv,aVL,aWm,aYB] at aV;have γ:=aUh γ;have aa:=aUh aa;refine ⟨A,c,S[k], ?_,aUk gv,by rw [aa];exact av⟩;rw [aUk aw,aa];generalize T[k]=t at γ aV;obtain ⟨a,n,b_,aOB,g⟩:=t;simp only [bn.fh,ej.mk.injEq] at γ;obtain ⟨rfl,rfl,rfl⟩:=γ;rw [← aV.1,← aV.2]
end
def ch.yg (p:Int) (s:ch):Bool:= !(decide (s.late<0) || decide (1000000<s.late) || (s.gone && (s.late != 0 || decide (0<(s.waits.length:Int))))) && !s.waits.any λ o=>o.by_ != p || o.bq != 0
def xk (S:List ch):Prop:=1≤S.length∧S.length≤8∧∀ (i:Nat) (s:ch),S[i]? =some s→s.waits.length≤50∧s.yg i=true
theorem aD0 {S:List ch} {k:Nat} {bc:ch} (aS:∀ (i:Nat) (s:ch),i<k→S[i]? =some s→s.yg i=true) (hS:S[k]? =some bc) (hr:bc.yg k=true) {i:Nat} {s:ch} (aq:i<k+1) (hs:S[i]? =some s):s.yg i=true:=by
 rcases aVf i k with h | h
 ·exact aS i s h hs
 ·obtain rfl:i=k:=by omega
  rw [hS] at hs;obtain rfl:=aUh hs;exact hr
theorem aDX {w:World} {T:List bn} {S:List ch} (hS:oS w T S) (h:(T.any λ t=>decide (50<(t.n:Int)))=true):¬ xk S:=λ aI=>by
 obtain ⟨t,aF,Φ⟩:=aVE.1 h;obtain ⟨i,aq,rfl⟩:=aVj.1 aF;obtain ⟨A,c,s,γ,aa,_⟩:=hS.at_ aq;rw [aUk aq] at γ;rw [aUh γ] at Φ;have:=(aI.2.2 i s aa).1;simp at Φ;omega
theorem aDZ {w:World} {T:List bn} {S:List ch} (hS:oS w T S) (h:(T.any λ t=>decide (50<(t.n:Int)))=false):∀ (i:Nat) (s:ch),S[i]? =some s→s.waits.length≤50:=λ i s hs=>by
 have aq:i<T.length:=by rw [hS.len];exact (aUj.1 hs).1
 obtain ⟨A,c,s',γ,aa,_⟩:=hS.at_ aq;rw [hs] at aa;obtain rfl:=aUh aa;rw [aUk aq] at γ;have:=aX6.1 h T[i] (aVv aq);rw [aUh γ] at this;simp at this;omega
theorem awL (ff:FuncId) (cs:List Value) (p:aO→Bool) (A:Option Addr) (c:Nat) (l:List aO) (w:World) (aB:aO.rep.aK 48 w A c l) (nC:Enters prog ff) (eg:∀ x∈l,∀ w',Ext w w'→Calls prog ff (([.agg #[.int .i64 x.by_, .int .i64 x.kind, .int .i64 x.aU, .int .i64 x.spot.x, .int .i64 x.spot.y, .int .i64 x.what]]:List Value)++cs).toArray w' λ e lN=>e= .returned (.bool (p x))∧Ext w' lN):
  Calls prog 172 #[.slice A l.length c, .func (.func ff) #[] cs.toArray] w (λ e w'=>e= .returned (.bool (l.any p))∧Ext w w'):=by
 refine cl (n:=9) func172 Z Z Z ?_;refine ai<|va Z<|ag<|ai<|vm Z<|vm Z<|ca atx Z Z ((azw ff cs p _ _ l _ (aB.keep (Ext.bK w)) nC (λ x hx w' h=>eg x hx w' (τ (Ext.bK w) h))).mono ?_);rintro e cW ⟨rfl,et⟩;refine ⟨_,Z, ?_⟩;have:=et.size;have bk:=τ (Ext.bK w) et;refine J (j4 Z Z)<|va Z<|ag<|rt<|bb (.tmp Z .nil)<| ?_;exact ⟨by rw [MB];rfl,bk⟩
theorem azx (ff:FuncId) (cs:List Value) (p:bn→Bool) (A:Option Addr) (c:Nat) (l:List bn) (w:World) (aB:bn.rep.aK 40 w A c l) (nC:Enters prog ff) (eg:∀ x∈l,∀ w',Ext w w'→Calls prog ff (([.agg #[.slice x.a x.n x.c, .int .i64 x.late, .bool x.gone]]:List Value)++cs).toArray w' λ e lN=>e= .returned (.bool (p x))∧Ext w' lN):
  Calls prog 171 #[.slice A l.length c, .func (.func ff) #[] cs.toArray] w (λ e w'=>e= .returned (.int .i64 (gA p l))∧Ext w w'):=by
 have qR:=aB.dT;refine cl (n:=19) func171 Z Z Z ?_;refine ai<|va Z<|ag<|az<|ai<|vm Z<|J (cj underlying80 Z)<|vm Z<|ag<|bA<| ?_;refine dX (λ b4 b2 aG=>∃ k:Nat,b2= [(0, .slice A l.length c),(1, .func (.func ff) #[] cs.toArray),(7, .int .i64 (l.length:Int)),(8, .int .i64 (k:Int))]∧b4=l.length - k∧Ext w aG∧(k≤l.length)∧(∀ i,i<k→p (l.getD i default)=false)) _ _ ⟨0,Z,Z,(Ext.bK w),by omega,λ i aq=>by omega⟩ (.cons Z (.cons Z (.cons Z (.cons (bO Z) .nil)))) ?_;rintro Nr Kl cW ⟨k,rfl,rfl,bk,aw,aS⟩;have:=bk.size;refine ai<|J (blt Z Z)<|ag<|az<| ?_;refine dw Z (λ lY=> ?_) (λ lY=> ?_)
 ·refine bt<|az<|bA<|ai<|vm Z<|va Z<|ag<|ai<|vm Z<|vm Z<|vm Z<|J (bY k underlying80 h9 Z Z ((aB.keep bk).bu (aX k)) Z (by omega))<|J (ak Z (κ.aK.hb l0 ((aB.keep bk).cr (aX k)) (dH (l:=l) (u:=default) (by omega)) xB h9))<|HK nC Z Z Z ((eg (l.getD k default) (jT (by omega)) _ bk).mono ?_);rintro e JN ⟨rfl,yu⟩;refine ⟨_,Z, ?_⟩;have:=yu.size;have mE:=τ bk yu;refine ag<| ?_;refine ee Z (λ lZ=> ?_) (λ lZ=> ?_)
  ·refine ai<|vm Z<|va Z<|ag<|rt<|eK<|bT<|my<|eK<|bT<|bb (.tmp Z .nil)<| ?_;exact ⟨by have e:=RP (p:=p) (l:=l) (d:=default) (k:=k) (by omega) lZ aS;rw [e];rfl,mE⟩
  ·refine fv<|bX<|aT<|rg<|J (bad Z Z (bH (by omega)))<|vm Z<|nl<| ?_;exact cO _ _ ⟨k+1,Z,Z,mE,by omega,th aS lZ⟩ (by omega) (.cons Z (.cons Z (.cons Z (.cons (bO Z) .nil))))
 ·refine c_<|c9<|dn<|c8<|aT<|ai<|va Z<|ag<|rt<|bb (.tmp Z .nil)<| ?_;exact ⟨by have e:=RO (p:=p) (l:=l) (d:=default) (λ i aq=>aS i (by omega));rw [e];rfl,bk⟩
theorem awM (ff:FuncId) (cs:List Value) (p:bn→Bool) (A:Option Addr) (c:Nat) (l:List bn) (w:World) (aB:bn.rep.aK 40 w A c l) (nC:Enters prog ff) (eg:∀ x∈l,∀ w',Ext w w'→Calls prog ff (([.agg #[.slice x.a x.n x.c, .int .i64 x.late, .bool x.gone]]:List Value)++cs).toArray w' λ e lN=>e= .returned (.bool (p x))∧Ext w' lN):
  Calls prog 141 #[.slice A l.length c, .func (.func ff) #[] cs.toArray] w (λ e w'=>e= .returned (.bool (l.any p))∧Ext w w'):=by
 refine cl (n:=9) func141 Z Z Z ?_;refine ai<|va Z<|ag<|ai<|vm Z<|vm Z<|ca atz Z Z ((azx ff cs p _ _ l _ (aB.keep (Ext.bK w)) nC (λ x hx w' h=>eg x hx w' (τ (Ext.bK w) h))).mono ?_);rintro e cW ⟨rfl,et⟩;refine ⟨_,Z, ?_⟩;have:=et.size;have bk:=τ (Ext.bK w) et;refine J (j4 Z Z)<|va Z<|ag<|rt<|bb (.tmp Z .nil)<| ?_;exact ⟨by rw [MB];rfl,bk⟩
theorem aEt (o:aO) (p:Int) (b:Nat) (w:World) (aJ:aN w b [.int .i64 p] 3 (0,0)):
  Calls prog 173 #[.agg #[.int .i64 o.by_, .int .i64 o.kind, .int .i64 o.aU, .int .i64 o.spot.x, .int .i64 o.spot.y, .int .i64 o.what], .pointer (some ⟨b,0,none⟩)] w (λ e w'=>e= .returned (.bool (o.by_ != p || o.bq != 0))∧Ext w w'):=by
 have tz:=aJ.lt;refine cl (n:=13) func173 Z Z Z ?_;refine ai<|cI Z Z Z Z λ cW bw a7 eA ab=> ?_;have:=a7.size;have bk:=τ (Ext.bK w) a7;have eG:=ab.lt;refine va Z<|ag<|ai<|J (au pO Z)<|J (ak Z (ab.one bf Z))<| ?_;have aJ:=aJ.later a7;refine J (ak Z (aJ.one bf Z))<|J (bne Z Z)<|vm Z<|br Z Z Z Z (λ hc=>ak Z (ab.all iM eI)) Z<|zX Z Z Z Z VH (λ hc=>hM (gt hc Z) Z) (λ hc=>Y4 o _) Z λ eM cL=> ?_;have:=cL.size;have bR:=τ bk cL;refine br Z Z Z Z (λ hc=>bne (gt hc Z) Z) Z<|J (fM Z Z Z Z)<|va Z<|ag<|rt<|bb (.tmp Z .nil)<| ?_;exact ⟨Z,bR⟩
theorem aEu (A:Option Addr) (c:Nat) (s:ch) (p:Int) (w:World) (aB:aO.rep.aK 48 w A c s.waits):
  Calls prog 143 #[.agg #[.slice A s.waits.length c, .int .i64 s.late, .bool s.gone], .int .i64 p] w (λ e w'=>e= .returned (.bool (s.yg p))∧Ext w w'):=by
 refine cl (n:=33) func143 Z Z Z ?_;refine ai<|cI Z Z Z Z λ cW bw a7 eA ab=> ?_;have:=a7.size;have bk:=τ (Ext.bK w) a7;have eG:=ab.lt;refine cI Z Z Z Z λ eM cA bo iq ah=> ?_;have:=bo.size;have bR:=τ bk bo;have ia:=ah.lt;refine va Z<|ag<|az<|ai<|J (au HT Z)<| ?_;have ab:=ab.later bo;refine J (ak Z (ab.one bf Z))<|J (blt Z Z)<|vm Z<|br Z Z Z Z (λ hc=>au HT Z) Z<|br Z Z Z Z (λ hc=>ak (gt hc Z) (ab.one bf Z)) Z<|br Z Z Z Z (λ hc=>iK (gt hc Z) Z) Z<|J (fM Z Z Z Z)<|vm Z<|br Z Z Z Z (λ hc=>au Ll Z) Z<|br Z Z Z Z (λ hc=>ak (gt hc Z) (ab.one HX Z)) Z<|br Z Z Z Z (λ hc=>aM (gt hc Z)) Z<|su Z Z Z Z (λ hc=>au HT Z) Z<|su Z Z Z Z (λ hc=>ak (gt hc Z) (ab.one bf Z)) Z<|su Z Z Z Z (λ hc=>bne (gt hc Z) Z) Z<|su Z Z Z Z (λ hc=>aM (gt hc Z)) Z<|su Z Z Z Z (λ hc=>au oe Z) Z<|su Z Z Z Z (λ hc=>ak (gt hc Z) (ab.one kL Z)) Z<|su Z Z Z Z (λ hc=>cj underlying44 (gt hc Z)) Z<|su Z Z Z Z (λ hc=>iK (gt hc Z) Z) Z<|su Z Z Z Z (λ hc=>aCk hc (gt hc Z) Z Z) Z<|br Z Z Z Z (λ hc=>akI hc (gt hc Z) Z Z) Z<|J (fM Z Z Z Z)<|ag<| ?_;refine ee Z (λ iA=> ?_) (λ iA=> ?_)
 ·refine ai<|va Z<|ag<|rt<|bT<|bb (.tmp Z .nil)<| ?_;exact ⟨by unfold ch.yg;rw [iA];rfl,bR⟩
 ·refine bt<|ai<|J (au oe Z)<|J (ak Z (ab.one kL Z))<|J (I_ Z Z)<|ca atB Z Z ((awL 173 [.pointer (some ⟨cA,0,none⟩)] (λ o=>o.by_ != p || o.bq != 0) _ _ s.waits _ (aB.keep bR) atA (λ x hx w' h=>aEt x p cA w' (ah.later h))).mono ?_);rintro e ym ⟨rfl,b8⟩;refine ⟨_,Z, ?_⟩;have:=b8.size;have kC:=τ bR b8;refine J (eF Z)<|va Z<|ag<|rt<|bb (.tmp Z .nil)<| ?_;exact ⟨by unfold ch.yg;rw [iA];rfl,kC⟩
theorem aDU (t:bn) (w:World):
  Calls prog 142 #[.agg #[.slice t.a t.n t.c, .int .i64 t.late, .bool t.gone]] w (λ e w'=>e= .returned (.bool (decide (50<(t.n:Int))))∧Ext w w'):=by
 refine cl (n:=7) func142 Z Z Z ?_;refine ai<|cI Z Z Z Z λ cW bw a7 eA ab=> ?_;have:=a7.size;have bk:=τ (Ext.bK w) a7;have eG:=ab.lt;refine va Z<|ag<|ai<|J (au oe Z)<|J (ak Z (ab.one kL Z))<|J (cj underlying44 Z)<|J (iK Z Z)<|va Z<|ag<|rt<|bb (.tmp Z .nil)<| ?_;exact ⟨Z,bk⟩
theorem SI (A:Option Addr) (c:Nat) (T:List bn) (S:List ch) (w:World) (b7:bn.rep.aK 40 w A c T) (hS:oS w T S):
  Calls prog 102 #[.slice A T.length c] w (λ e w'=>∃ e':Int,e= .returned (.int .i64 e')∧(e'=0↔xk S)∧Ext w w'):=by
 have zi:=b7.dT;refine cl (n:=27) func102 Z Z Z ?_;refine ai<|va Z<|ag<|az<|ai<|vm Z<|J (cj underlying80 Z)<|J (blt Z Z)<|vm Z<|br Z Z Z Z (λ hc=>aM Z) Z<|br Z Z Z Z (λ hc=>cj underlying80 (gt hc Z)) Z<|br Z Z Z Z (λ hc=>iK (gt hc Z) Z) Z<|J (fM Z Z Z Z)<|ag<| ?_;refine ee Z (λ j'=> ?_) (λ j'=> ?_)
 ·simp only [cH] at j';refine ai<|va Z<|ag<|rt<|bT<|bb (.tmp Z .nil)<| ?_;exact ⟨1,Z,⟨λ bh=>absurd bh (by decide),λ bh=>absurd bh (by rintro ⟨γ,aa,_⟩;have:=hS.len;omega)⟩,(Ext.bK w)⟩
 ·simp only [cH] at j';refine bt<|az<|ai<|vm Z<|ca atD Z Z ((awM 142 [] (λ t=>decide (50<(t.n:Int))) _ _ T _ (b7.keep (Ext.bK w)) atC (λ x hx w' h=>aDU x w')).mono ?_);rintro e ku ⟨rfl,a7⟩;refine ⟨_,Z, ?_⟩;have:=a7.size;have di:=τ (Ext.bK w) a7;refine ag<| ?_;refine ee Z (λ lY=> ?_) (λ lY=> ?_)
  ·refine ai<|va Z<|ag<|rt<|bT<|bb (.tmp Z .nil)<| ?_;exact ⟨2,Z,⟨λ bh=>absurd bh (by decide),λ bh=>absurd bh (λ bh=>aDX hS lY bh)⟩,di⟩
  ·have ayO:=aDZ hS lY;refine bt<|az<|ai<|vm Z<|J (cj underlying80 Z)<|vm Z<|ag<|bA<| ?_;refine dX (λ b4 b2 aG=>∃ k:Nat,b2= [(15, .slice A T.length c),(16, .int .i64 (T.length:Int)),(17, .int .i64 (k:Int))]∧b4=T.length - k∧Ext w aG∧(k≤T.length)∧(∀ (i:Nat) (s:ch),i<k→S[i]? =some s→s.yg i=true)) _ _ ⟨0,Z,Z,di,by omega,λ i s aq=>by omega⟩ (.cons Z (.cons Z (.cons (bO Z) .nil))) ?_;rintro YO aJc JN ⟨k,rfl,rfl,mE,aw,aS⟩;have:=mE.size;refine ai<|J (blt Z Z)<|ag<|az<| ?_;refine dw Z (λ je=> ?_) (λ je=> ?_)
   ·obtain ⟨df,cJ,bc,eV,iP,hx⟩:=hS.at_ (k:=k) (by omega);refine bt<|az<|bA<|ai<|vm Z<|J (bY k underlying80 h9 Z Z ((b7.keep mE).bu (aX k)) Z (by omega))<|J (ak Z (κ.aK.hb l0 ((b7.keep mE).cr (aX k)) eV xB h9))<|al Z Fo Z Z λ wI yZ dC Nb gj=> ?_;have:=dC.size;have kB:=τ mE dC;have NJ:=gj.lt;refine va Z<|st (new:= [.slice ((⟨df,bc.waits.length,cJ,bc.late,bc.gone⟩:bn).a) ((⟨df,bc.waits.length,cJ,bc.late,bc.gone⟩:bn).n) ((⟨df,bc.waits.length,cJ,bc.late,bc.gone⟩:bn).c), .int .i64 ((⟨df,bc.waits.length,cJ,bc.late,bc.gone⟩:bn).late), .bool ((⟨df,bc.waits.length,cJ,bc.late,bc.gone⟩:bn).gone)]) Z Z gj Z h9 Z Z Z λ u6 sg gj=> ?_;have:=sg.size;have jr:=Ext.mod kB sg bx;refine ag<|ai<|J (ak Z (gj.all xB h9))<|vm Z<|ca atE Z Z ((aEu df cJ bc (k:Int) _ (hx.keep jr)).mono ?_);rintro e nd ⟨rfl,eN⟩;refine ⟨_,Z, ?_⟩;have:=eN.size;have eO:=τ jr eN;refine J (eF Z)<|ag<| ?_;refine ee Z (λ s4=> ?_) (λ s4=> ?_)
    ·refine ai<|va Z<|ag<|rt<|eK<|bT<|my<|eK<|bT<|bb (.tmp Z .nil)<| ?_;exact ⟨4,Z,⟨λ bh=>absurd bh (by decide),λ bh=>absurd bh (λ bh=>by have vW:=(bh.2.2 k bc iP).2;rw [vW] at s4;cases s4)⟩,eO⟩
    ·have ayK:bc.yg k=true:=by simpa using s4
     refine fv<|bX<|aT<|rg<|J (bad Z Z (bH (by omega)))<|vm Z<|nl<| ?_;exact cO _ _ ⟨k+1,Z,Z,eO,by omega,λ i s aq hs=>aD0 aS iP ayK aq hs⟩ (by omega) (.cons Z (.cons Z (.cons (bO Z) .nil)))
   ·refine c_<|c9<|dn<|c8<|aT<|ai<|va Z<|ag<|rt<|bb (.tmp Z .nil)<| ?_;exact ⟨0,Z,⟨λ _=>⟨by have:=hS.len;have Xd:=j';omega,by have:=hS.len;have Xd:=j';omega,λ i s hs=>⟨ayO i s hs,aS i s (by have:=(aUj.1 hs).1;have:=hS.len;omega) hs⟩⟩,λ _=>Z⟩,mE⟩
end
section
theorem V' {w:World}:∀ {ess:List (List Value)} {l:List Int},de (λ es a=>bS.has w es a) ess l→ess.flatten=l.map (Value.int .i64)
 | [], [],_=>rfl
 | es::ess,a::l,h=>by
  obtain ⟨γ,aa⟩:=h;rw [aVb,gV γ,V' aa];rfl
 | [],_::_,h=>h.elim
 | _::_, [],h=>h.elim
theorem US {w:World}:∀ {l:List Int},(∀ a∈l,fK a)→de (λ es a=>bS.has w es a) (l.map λ a=> [Value.int .i64 a]) l
 | [],_=>trivial
 | a::l,h=>⟨⟨rfl,h a aUH⟩,US λ b Φ=>h b (aUB _ Φ)⟩
end
end Go.Proofs.YtlikikpgmmkjbaaGreat
namespace Go.Proofs.YtlikikpgmmkjbaaGreat.kF
open Tryz
open Go.Proofs.YtlikikpgmmkjbaaGreat.fj
def step (n:BitVec 32):BitVec 32:=n >>> 1 ^^^ (3988292384#32 &&& -(n &&& 1#32))
def steps:Nat→BitVec 32→BitVec 32
 | 0,n=>n
 | k+1,n=>steps k (step n)
def take (n:BitVec 32) (b:UInt8):BitVec 32:=steps 8 (n ^^^ b.toBitVec.setWidth 32)
def fold (n:BitVec 32) (l:List UInt8):BitVec 32:=l.foldl take n
def more (n:BitVec 32) (l:List UInt8):BitVec 32:= ~~~(fold (~~~n) l)
def of (l:List UInt8):BitVec 32:=more 0#32 l

theorem avf (n:BitVec 32) (l m:List UInt8):fold n (l++m)=fold (fold n l) m:=by
 unfold fold;rw [aV9]
theorem avg (n:BitVec 32) (l:List UInt8) (b:UInt8):fold n (l++ [b])=take (fold n l) b:=by
 rw [avf];rfl

theorem ZX (m:BitVec 32):bits BinOp.xor IntKind.u32 (U m / 2) (bits BinOp.and IntKind.u32 3988292384 (-bits BinOp.and IntKind.u32 (U m) 1 % 4294967296))=U (step m):=by
 refine QD (PU _ _ _) (PT _ _ _) ?_;have γ:=akx (n:=32) (U m) 1 (UQ m) (by have:=apH m;omega);rw [Y8,akt,aBX,aB0,akt,wA];rw [show (U m / 2:Int)=U m / 2 ^ 1 by rfl,γ,wA];rfl
theorem azF (x y:Int) (aI:0≤y) (γ:y<256):bits BinOp.xor IntKind.u32 x y=U (BitVec.ofInt 32 x ^^^ (BitVec.ofInt 8 y).setWidth 32):=by
 refine QD (PU _ _ _) (PT _ _ _) ?_;rw [Y8];obtain ⟨m,rfl⟩:=aWb aI;congr 1;rw [aVk,aVk];apply aYW;simp only [aVY,BitVec.toNat_setWidth];omega
end Go.Proofs.YtlikikpgmmkjbaaGreat.kF
namespace Go.Proofs.YtlikikpgmmkjbaaGreat
open Tryz
end Go.Proofs.YtlikikpgmmkjbaaGreat
namespace Go.Proofs.YtlikikpgmmkjbaaGreat.kF
open Tryz
open Go.RowKit Go.Proofs.YtlikikpgmmkjbaaGreat.fj

theorem alp {a b:Int} (h:a=b):Ending.returned (.int .u32 a)= .returned (.int .u32 b):=by rw [h]

theorem aEN (m:BitVec 32) (x y:Int) (aI:0≤x) (γ:x≤4294967295) (aa:0≤y) (av:y≤255) (hm:m=BitVec.ofInt 32 x ^^^ (BitVec.ofInt 8 y).setWidth 32) (w:World):
  Calls prog 215 #[.int .u32 x, .int .u8 y] w fun e w'=>e= .returned (.int .u32 (U (steps 8 m)))∧w=w':=by
 have mf:=aUl (azF x y aa (by omega));rw [← hm] at mf;clear hm;go_enter func215,ntmps215;go_wp2
 go_loop [0,9] (fun x i=>∃ (k:Nat) (q:BitVec 32),k≤8∧i= .int .i64 k∧x= .int .u32 (U q)∧Hid (steps (8 - k) q=steps 8 m)) (fun _ i=>8 - (intOf i).toNat)
 case atStart=>exact ⟨0,m,by omega,rfl,by rw [mf.out],rfl⟩
 case round =>
  obtain ⟨k,q,aw,rfl,rfl,I⟩:=hrel;by_cases bE:k<8
  ·go_wp2
   go_round
   case rel =>
    refine ⟨k+1,step q,by omega,by go_num,by rw [ZX], ?_⟩;have h:=I.out;rw [show 8 - k=(8 - (k+1))+1 by omega] at h;exact h
   case measure=>simp [intOf];omega
  ·have ahp:k=8:=by omega
   have h:=I.out;rw [ahp] at h;clear I ahp;have b0:=aUl h;clear h;go_wp2
   go_ret;exact ⟨alp (by rw [← b0.out];rfl),Z⟩
theorem aEM (n:BitVec 32) (b:UInt8) (x y:Int) (hx:x=U n) (aH:y=(b.toNat:Int)) (w:World):
  Calls prog 215 #[.int .u32 x, .int .u8 y] w fun e w'=>e= .returned (.int .u32 (U (take n b)))∧w=w':=by
 subst hx aH;have Φ:=b.toNat_lt;refine aEN _ _ _ (UQ _) (apG _) (by omega) (by omega) ?_ w;rw [wA];congr 2;rw [aVk];exact (aWO 8 b.toBitVec).trans (aWN _) |>.symm

theorem akk (x:Int):bits BinOp.xor IntKind.u32 IntKind.u32.max x=U (~~~(BitVec.ofInt 32 x)):=by
 refine QD (PU _ _ _) (PT _ _ _) ?_;rw [Y8];exact BitVec.allOnes_xor

theorem aER (s:ByteArray) (k:Nat) (h:k<s.size):s.data.toList.take (k+1)=s.data.toList.take k++ [s[k]]:=by
 rw [aUM (by simpa using h)];rfl
theorem YY (x:Int) (s:ByteArray) (aI:0≤x) (γ:x≤4294967295) (hs:s.size≤9223372036854775807) (w:World):
  Calls prog 189 #[.int .u32 x, .string s] w fun e w'=>e= .returned (.int .u32 (U (more (BitVec.ofInt 32 x) s.data.toList)))∧w=w':=by
 obtain ⟨n,k7⟩:∃ n,Hid (n=BitVec.ofInt 32 x):=⟨_,rfl⟩;have fk:=aUl (akk x);rw [← k7.out] at fk;rw [← k7.out];clear aI γ;go_enter func189,ntmps189;go_wp2
 go_loop [0,10] (fun x i=>∃ k:Nat,k≤s.size∧i= .int .i64 k∧x= .int .u32 (U (fold (~~~n) (s.data.toList.take k)))) (fun _ i=>s.size - (intOf i).toNat)
 case atStart=>exact ⟨0,aU6 _,rfl,by rw [fk.out];rfl⟩
 case round =>
  obtain ⟨k,aw,rfl,rfl⟩:=hrel;by_cases bE:k<s.size
  ·go_wp2_with (go_at_call 215;refine (aEM _ s[k] _ _ rfl rfl _).mono ?_;rintro e w' ⟨rfl,rfl⟩)
   go_round
   case rel =>
    refine ⟨k+1,by omega,by go_num, ?_⟩;rw [aER s k bE,avg]
   case measure=>simp [intOf];omega
  ·go_wp2
   go_ret;have axD:k=s.size:=by omega
   exact ⟨alp (by rw [akk,wA,axD,aUI (by simp)];rfl),Z⟩
theorem Y6 (s:ByteArray) (hs:s.size≤9223372036854775807) (w:World):
  Calls prog 154 #[.string s] w fun e w'=>e= .returned (.int .u32 (U (of s.data.toList)))∧w=w':=by
 go_enter func154,ntmps154;go_wp2_with (go_at_call 189;refine (YY _ s (by decide) (by decide) hs _).mono ?_;rintro e w' ⟨rfl,rfl⟩)
 go_ret;exact ⟨Z,Z⟩

end Go.Proofs.YtlikikpgmmkjbaaGreat.kF
namespace Go.Proofs.YtlikikpgmmkjbaaGreat
open Tryz
end Go.Proofs.YtlikikpgmmkjbaaGreat
namespace Go.Proofs.YtlikikpgmmkjbaaGreat.kF
open Tryz
open Go.RowKit Go.Proofs.YtlikikpgmmkjbaaGreat.fj
def Bn (n:BitVec 32):List UInt8:= [UInt8.ofNat n.toNat,UInt8.ofNat (n.toNat / 256),UInt8.ofNat (n.toNat / 65536),UInt8.ofNat (n.toNat / 16777216)]
def wE (s:ByteArray):ByteArray:=s++⟨(Bn (of s.data.toList)).toArray⟩
theorem alC (s:ByteArray):(wE s).data.toList=s.data.toList++Bn (of s.data.toList):=by
 unfold wE;rw [ByteArray.data_append,aXT]
theorem SK (s:ByteArray):(wE s).size=s.size+4:=by
 have h:=aVA List.length (alC s);rw [aUq] at h;simp only [aWD] at h;exact h

theorem arB (n:BitVec 32) (u:World):(convert 76 9 (.slice (some ⟨u.heap.size,0,none⟩) 4 4)).run prog (u.alloc (.cells #[.int .u8 (U n % 256), .int .u8 (U n / 256 % 256), .int .u8 (U n / 65536 % 256), .int .u8 (U n / 16777216 % 256)] 5))=
  .ok (.string ⟨(Bn n).toArray⟩) (u.alloc (.cells #[.int .u8 (U n % 256), .int .u8 (U n / 256 % 256), .int .u8 (U n / 65536 % 256), .int .u8 (U n / 16777216 % 256)] 5)):=by
 refine aY3 (P:=prog) _ 76 9 5 ⟨u.heap.size,0,none⟩ 4 (Bn n) underlying76 underlying5 underlying9 ?_;intro j aA;rw [ac7];have axA:j<4:=aA;have uC:U n=(n.toNat:Int):=rfl;rw [uC]
 match j,axA with
 | 0,_=>simp [Bn,aWo]
 | 1,_=>simp [Bn,aWo]
 | 2,_=>simp [Bn,aWo]
 | 3,_=>simp [Bn,aWo]

theorem ZK (s:ByteArray) (hs:s.size≤9223372036854775800) (w:World):
  Calls prog 115 #[.string s] w fun e w'=>e= .returned (.string (wE s))∧Below w.heap.size w w':=by
 have hcv:=arB (of s.data.toList);have aB:(Bn (of s.data.toList)).length≤4:=aUu _;go_enter func115,ntmps115;go_wp2_with (go_at_call 154;refine (Y6 _ (by omega) _).mono ?_;rintro e w' ⟨rfl,rfl⟩)
 go_ret;exact ⟨Z,(aUN _ _).alloc (aUu _) _⟩
def l5 (s:ByteArray):ByteArray×Int :=
 if s.size<4 then (⟨#[]⟩,3) else if wE (s.extract 0 (s.size - 4))=s then (s.extract 0 (s.size - 4),0) else (⟨#[]⟩,5)

theorem Zy {a b:ByteArray×Int} (h:b=a):Ending.returned (.tuple #[.string a.1, .int .i64 a.2])= .returned (.tuple #[.string b.1, .int .i64 b.2]):=by rw [h]

theorem aB3 (s:ByteArray) (hs:s.size≤9223372036854775800) (w:World):
  Calls prog 84 #[.string s] w fun e w'=>e= .returned (.tuple #[.string (l5 s).1, .int .i64 (l5 s).2])∧Below w.heap.size w w':=by
 by_cases aV:s.size<4
 ·have b0:=aUl (show l5 s=(⟨#[]⟩,3) by unfold l5;rw [aUz aV]);go_enter func84,ntmps84;go_wp2_with fail
  go_ret2
  exact ⟨Zy b0.out,aUN _ _⟩
 ·have hm:((s.size:Int) - 4)=((s.size - 4:Nat):Int):=by omega
  have bB:(s.extract 0 (s.size - 4)).size≤9223372036854775800:=by rw [ByteArray.size_extract];omega
  obtain ⟨m,k7⟩:∃ m,Hid (m=s.size - 4):=⟨_,rfl⟩;rw [← k7.out] at hm bB;have ax5:m+4≤s.size:=by have:=k7.out;omega
  have aMf:s.size≤m+4:=by have:=k7.out;omega
  by_cases bJ:wE (s.extract 0 m)=s
  ·have b0:=aUl (show l5 s=(s.extract 0 m,0) by unfold l5;rw [← k7.out,aUr aV,aUz bJ]);have avT:=adA bJ;have yJ:=aUl bJ;clear bJ;go_enter func84,ntmps84;go_wp2_with (go_at_call 115;refine (ZK _ bB _).mono ?_;rintro e aP ⟨rfl,Φ⟩)
   go_ret2
   exact ⟨Zy b0.out,by assumption⟩
  ·have b0:=aUl (show l5 s=(⟨#[]⟩,5) by unfold l5;rw [← k7.out,aUr aV,aUr bJ]);have avT:=adz bJ;clear bJ;go_enter func84,ntmps84;go_wp2_with (go_at_call 115;refine (ZK _ bB _).mono ?_;rintro e aP ⟨rfl,Φ⟩)
   go_ret2
   exact ⟨Zy b0.out,by assumption⟩

theorem aB4 (s:ByteArray):l5 (wE s)=(s,0):=by
 have γ:(wE s).extract 0 ((wE s).size - 4)=s:=by
  apply Va;rw [aXx,alC,SK,aWT];have e:s.size+4 - 4 - 0=s.data.toList.length:=by simp
  rw [e,aXJ]
 have aa:=SK s;unfold l5;rw [aUr (by omega),γ,aUz rfl]
theorem akE (s:ByteArray):(l5 s).2=0∧wE (l5 s).1=s∨((l5 s).2=3∨(l5 s).2=5)∧(l5 s).1=⟨#[]⟩:=by
 unfold l5;split
 ·exact .inr ⟨.inl Z,Z⟩
 ·split
  ·rename_i h;exact .inl ⟨Z,h⟩
  ·exact .inr ⟨.inr Z,Z⟩
end Go.Proofs.YtlikikpgmmkjbaaGreat.kF
namespace Go.Proofs.YtlikikpgmmkjbaaGreat
open Tryz
end Go.Proofs.YtlikikpgmmkjbaaGreat
