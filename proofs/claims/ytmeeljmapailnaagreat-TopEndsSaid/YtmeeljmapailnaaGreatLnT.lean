import Derived.Test.YtmeeljmapailnaaGreatHsc
set_option linter.unusedVariables false
set_option linter.unusedSimpArgs false
set_option maxRecDepth 100000
set_option maxHeartbeats 4000000
open Go.RowKit
namespace Go.Proofs.YtmeeljmapailnaaGreat
open Tryz
section
variable {S:List cT} {k m:Nat}
open Go.Proofs.YtmeeljmapailnaaGreat.fL
def uU (S:List cT) (D:Nat):Nat→List cT
 | 0=>S
 | k+1=>if D.testBit k then Di (uU S D k) (k:Int) else uU S D k
theorem Us (S:List cT) (p:Int):(Di S p).length=S.length:=by unfold Di;rw [aYn]
theorem abT (S:List cT) (D:Nat):∀ k,(uU S D k).length=S.length
 | 0=>rfl
 | k+1=>by rw [uU];split;rw [Us,abT S D k];exact abT S D k
theorem amR {i:Nat} (h:k≠i):(Di S (k:Int))[i]? =S[i]? :=by unfold Di;rw [aY2,aYJ h]
theorem abS {S:List cT} {D:Nat}:∀ {k i:Nat},k≤i→(uU S D k)[i]? =S[i]?
 | 0,_,_=>rfl
 | k+1,i,h=>by rw [uU];split;rw [amR (by omega)];exact abS (by omega);exact abS (by omega)
theorem aFt (h:yM S):yM (Di S (k:Int)):=by
 refine ⟨by rw [Us];exact h.1,by rw [Us];exact h.2.1,λ i s hs=> ?_⟩;by_cases e:k=i
 ·subst e;unfold Di at hs;rw [aY2] at hs;rw [aYz (by have:=(aX8.1 hs).1;simpa using this)] at hs;obtain rfl:=aYd hs;exact ⟨by simp,by simp [cT.zK]⟩
 ·rw [amR e] at hs;exact h.2.2 i s hs
theorem abU {S:List cT} {D:Nat} (h:yM S):∀ k,yM (uU S D k)
 | 0=>h
 | k+1=>by rw [uU];split;exact aFt (abU h k);exact abU h k
theorem aFr {x:cY} (hm:x.hC<4294967296) (h:G7 x) (ak:k<x.S.length) (ag:(b4.diff x.hC m).testBit k=true):amQ (uU x.S (b4.diff x.hC m) k) (k:Int):=by
 have gB:=h.2.1.2.1;rw [b4.axa _ _ _ hm (by omega),aYl] at ag;refine ⟨abU h.2.1 k,by omega,x.S[k], ?_, ?_⟩
 ·rw [aY2,abS (aYg _)];exact aYb ak
 ·rw [h.2.2.2.2.2.2 k _ (aYb ak),ag.1];rfl
theorem aob:∀ (f m:Nat) (l:List Nat),m<4294967296→(b4.zJ f m l).1<4294967296
 | 0,m,l,h=>h
 | f+1,m,l,h=>by rw [b4.zJ];split;exact aob f _ _ (b4.NL _ _);exact h
theorem aK9 {l:List Nat} {p q:Int} {r:Nat×List Nat} (hm:m<4294967296) (h:Hv m l p q) (e:r=ET m l p q):r.1<4294967296:=by
 rw [e];exact aob _ _ _ hm
def TH (x:cY) (p q:Int):cY:= {x with hC:=(ET x.hC x.V p q).1,V:=(ET x.hC x.V p q).2,S:=uU x.S (b4.diff x.hC (ET x.hC x.V p q).1) x.S.length}
def ar8 (x:cY) (p q e:Int) (fA:cY):Prop:=(e=0∧Hv x.hC x.V p q∧fA=TH x p q)∨(e≠0∧¬ Hv x.hC x.V p q∧fA=x)
def Nh (x:cY):Prop:=x.L.length<200∧iZ (mZ x.W x.L) (xg x.kj.toNat x.S).2=0
noncomputable def P9 (x:cY):cY:= {x with S:=(xg x.kj.toNat x.S).1,L:=x.L++ [(xg x.kj.toNat x.S).2]}
def atK (x:cY) (e:Int) (s:ByteArray) (fA:cY):Prop:=(e=0∧x.L.length<200∧iZ (mZ x.W x.L) (xg x.kj.toNat x.S).2=0∧s=jL (xg x.kj.toNat x.S).2∧fA=P9 x)∨(e≠0∧¬ Nh x∧s= .empty∧fA=x)
theorem aDx (b aA:Nat) (bW:m6) (Hx:cY) (w:World) (xx:aA≤w.heap.size) (aI:aM w b (cY.cells bW Hx) 40 (0,0)) (dI:fk w aA bW Hx) (Ia:∀ q∈fk.cR bW,q=b→False) (ak:G7 Hx):
  Calls prog 54 #[.pointer (bA b)] w (λ e w'=>∃ (e':Int) (s:ByteArray) (τ:m6) (fA:cY),e= .returned (.tuple #[.string s,Φ e'])∧atK Hx e' s fA∧aM w' b (cY.cells τ fA) 40 (0,0)∧fk w' aA τ fA∧Mod [b] w w'):=by
 have IW:=aI.lt;have DF:=bM dI.lt;refine ch (n:=48) func54 Z Z Z ?_;refine aw<|va Z<|aJ Z<|av<| ?_;refine cO [(3,0),(7,0),(8,2)] [0,1,2,3,4,5,6,7,8,9,10,11,12,13,14,15] ?_;refine a1 Z Z<|aq Z (λ _=>bx Z)<|aq Z (λ _=>aj uK Z)<|cf Z Z aI AU Z<|a1 Z Z<|aq Z (λ _=>bx Z)<|aq Z (λ _=>aj aic Z)<|cf Z Z aI aT Z<|ff Z Z Z λ cG dS Q hK=>ca ayy Z Z ((aJa _ _ bW.U Hx.S Hx.kj _ (dI.later dS).has.U (dI.later dS).has.S).mono ?_);rintro e eC ⟨aNM,aeH,c3,afZ,afU,aNx,aQr,Iu,rfl,ak7,Na,G9,Ey,aj3,akg,dm⟩;refine ⟨_,Z,hK _ _ ⟨γ dS dm, ?_⟩⟩;have:=dS.size;have de:=(Mod.cH [b] w).trans (Mod.a8 dS);have:=dm.size;have bO:=de.trans (Mod.a8 dm);have aKN:=bM Na.lt;have amY:=dx Na.lt;have VL:=bM Ey.lt;have am0:=dx Ey.lt;have aKv:=bM G9.lt;have amy:=dx G9.lt;refine a1 Z Z<|aq Z (λ _=>ex Z Z)<|aq Z (λ _=>ex Z Z)<|aq Z (λ _=>ex Z Z)<|aq Z (λ _=>ee Z)<|aq Z (λ _=>ee Z)<|aq Z (λ _=>ee Z)<|fn λ zS fi=> ?_;have:=fi.size;have m3:=bO.trans (Mod.a8 fi);refine aX<|av<|aB Z<|cS Z Z<|aC<| ?_;refine eU Z (λ jB=> ?_) (λ jB=> ?_)
 ·exact absurd (ak7.resolve_right λ bw=>bw.2.1 ⟨ak.2.1,ak.2.2.2.1⟩).1 (by simpa using jB)
 ·obtain ⟨_,_,kT⟩:=ak7.resolve_right λ bw=>bw.2.1 ⟨ak.2.1,ak.2.2.2.1⟩;have ra:Iu=(xg Hx.kj.toNat Hx.S).2:=aZb Prod.snd kT;have aad:afU=(xg Hx.kj.toNat Hx.S).1:=aZb Prod.fst kT;refine bm<|aB Z<|aa (bx Z)<|aa (aj CF Z)<| ?_;have aI:=aI.later (γ dS (γ dm fi));refine aa (ax Z (aI.par [Φ Hx.W.field.wide,Φ Hx.W.field.high, .slice bW.a.P Hx.W.field.a_.length bW.a.p, .slice bW.a.B Hx.W.bf.length bW.a.b, .slice bW.a.S Hx.W.bE.length bW.a.s, .slice bW.a.M Hx.W.bX.length bW.a.m, .slice bW.a.T Hx.W.ao.length bW.a.t,Φ Hx.W.next,Φ Hx.W.now, .slice bW.A bW.T.length bW.c] AS qV Z))<|vm Z<| ?_;have Ey:=Ey.later fi;have dI:=dI.later (γ dS (γ dm fi));refine ca ayz Z Z ((acn bW.a Hx.W _ _ bW.T Hx.L _ _ Iu _ dI.has.W dI.has.T dI.has.L Ey.has).mono ?_);rintro e zT ⟨arG,yP,Az,aeE,agC,afY,asJ,rfl,ak5,MO,M_,MU,aRC,aRI,ik⟩;refine cu ?_;have:=ik.size;have k3:=m3.trans (Mod.a8 ik);have aKD:=bM MO.lt;have amV:=dx MO.lt;have aKE:=bM M_.lt;have Uw:=dx M_.lt;have aKx:=bM MU.lt;have amC:=dx MU.lt;refine vm Z<|bs Z Z<|bs Z Z<|cU YX Z λ ua yQ cX amF ir=> ?_;have kM:=k3.trans (Mod.a8 cX);refine cF Z Z ir Z qV Z Z λ ud jI ir=> ?_;have hI:=kM.md jI (λ q I=> .inr (by have:=aYf.1 I;omega));refine aJ Z<|av<|aB Z<|cS Z Z<|aC<| ?_;refine eU Z (λ A5=> ?_) (λ A5=> ?_)
  ·refine aB Z<|va Z<|aY Z<|bD<|f_ Z Z Z<| ?_;have aI:=(aI.later (γ ik cX)).mod jI aO;have dI:=(dI.later (γ ik cX)).mod jI (bU DF);exact ⟨arG, .empty,bW,Hx,Z, .inr ⟨by simpa using A5,λ bw=>(ak5.resolve_left λ CO=>absurd CO.1 (by simpa using A5)).2.1 ⟨ak.1,bw.1,by rw [ra];exact bw.2⟩,rfl,rfl⟩,aI,dI,hI⟩
  ·obtain ⟨_,_,KY,TQ,aCL,aCM⟩:=ak5.resolve_right λ bw=>bw.1 (by simpa using A5);have Ih:=(Qb (VC TQ).1).1;refine bm<|av<| ?_;refine P0 [b] [(3,0),(6,2),(9,2)] [0,1,2,3,4,5,6,7,8,9] (by kernel_rfl) (by kernel_rfl) ?_;refine fO Z Z (λ _=>gw Z) Z<|fO Z Z (λ _=>gw Z) Z<|fO Z Z (λ _=>gw Z) Z<|r8 Z Z (λ _ x=>ax Z ((ir.mod x aO).all AS qV)) Z<|fO Z Z (λ _=>bx Z) Z<|fO Z Z (λ _=>aj uK Z) Z<| ?_;have aI:=(aI.later (γ ik cX)).mod jI aO;refine CN Z Z Z λ L1 o3 Q hK=>dU Z Z (aI.later o3) Z SS Z Z λ Jc rq aI=>hK _ _ ⟨(Mod.a8 o3).trans rq, ?_⟩;have um:=hI.trans (Mod.a8 o3);have z8:=um.md rq lr;refine fO Z Z (λ _=>bx Z) Z<|fO Z Z (λ _=>aj CF Z) Z<|CN Z Z Z λ wH fF Q hK=>st (new:= [Φ Az.field.wide,Φ Az.field.high, .slice yP.P Az.field.a_.length yP.p, .slice yP.B Az.bf.length yP.b, .slice yP.S Az.bE.length yP.s, .slice yP.M Az.bX.length yP.m, .slice yP.T Az.ao.length yP.t,Φ Az.next,Φ Az.now, .slice aeE afY.length agC, .slice aeH afZ.length c3, .int .u32 (Hx.hC:Int), .slice bW.C Hx.V.length bW.e,Φ Hx.kj]) Z Z (aI.later fF) Z qV Z Z Z λ Gt iH aI=>hK _ _ ⟨(Mod.a8 fF).trans iH, ?_⟩;have j6:=z8.trans (Mod.a8 fF);have rN:=j6.md iH lr;refine N1 λ wI fv=> ?_;have kt:=rN.trans (Mod.a8 fv);refine aX<|aB Z<| ?_;have Ey:=((((((Ey.later (γ ik cX)).mod jI (bU VL)).later o3).mod rq (bz am0)).later fF).mod iH (bz am0)).later fv;refine cM ayA Z (aHn _ _ Iu _ Ey.has) λ DM lS=> ?_;have pR:=kt.trans (Mod.a8 lS);refine bs Z Z<|bs Z Z<|va Z<|aY Z<|f_ Z Z Z<| ?_;have dA:=(γ fv lS);have aI:=aI.later dA;have gG:=nw (kW fF iH) (γ fv lS);have dI:=((((dI.later (γ ik cX)).mod jI (bU DF)).later o3).mod rq (bl Ia)).mod gG (bl Ia);have MO:=((((MO.later cX).mod jI (bU aKD)).later o3).mod rq (bz amV)).mod gG (bz amV);have M_:=((((M_.later cX).mod jI (bU aKE)).later o3).mod rq (bz Uw)).mod gG (bz Uw);have MU:=((((MU.later cX).mod jI (bU aKx)).later o3).mod rq (bl λ q I ag=>by have:=amC q I;omega)).mod gG (bl λ q I ag=>by have:=amC q I;omega);have Na:=((((Na.later (γ fi (γ ik cX))).mod jI (bU aKN)).later o3).mod rq (bz amY)).mod gG (bz amY);have G9:=((((G9.later (γ fi (γ ik cX))).mod jI (bU aKv)).later o3).mod rq (bl λ q I ag=>by have:=amy q I;omega)).mod gG (bl λ q I ag=>by have:=amy q I;omega);exact ⟨0,jL Iu,⟨yP,aeE,agC,afY,aeH,c3,afZ,bW.C,bW.e⟩,⟨Az,asJ,afU,Hx.hC,Hx.V,Hx.kj⟩,by rw [Ih];rfl, .inl ⟨rfl,KY,by rw [← ra];exact TQ,by rw [ra],by unfold P9;rw [aCL,aCM,ra,aad]⟩,aI,⟨MO.down (by omega),M_.down (by omega),MU.down (by omega),Na.down (by omega),G9.down (by omega),dI.V,dI.m⟩,pR⟩
theorem aBI (b aA:Nat) (bW:m6) (Hx:cY) (p iW:Int) (w:World) (xx:aA≤w.heap.size) (aI:aM w b (cY.cells bW Hx) 40 (0,0)) (dI:fk w aA bW Hx) (Ia:∀ q∈fk.cR bW,q=b→False) (ak:G7 Hx):
  Calls prog 55 #[.pointer (bA b),Φ p,Φ iW] w (λ e w'=>∃ (e':Int) (τ:m6) (fA:cY),e= .returned (Φ e')∧ar8 Hx p iW e' fA∧aM w' b (cY.cells τ fA) 40 (0,0)∧fk w' aA τ fA∧Mod [b] w w'):=by
 have IW:=aI.lt;have DF:=bM dI.lt;refine ch (n:=62) func55 Z Z Z ?_;refine aw<|aJ Z<|aB Z<|aa (bx Z)<|aa (aj E4 Z)<|aa (ax Z (aI.par [.int .u32 (Hx.hC:Int), .slice bW.C Hx.V.length bW.e] p7 lI Z))<|vm Z<|vm Z<|ca ayB Z Z ((aK8 Hx.hC dI.m _ _ Hx.V p iW _ dI.has.V).mono ?_);rintro e VY ⟨G0,zp,JE,Ss,Nj,bb1,rfl,ak3,rZ,m2⟩;refine cu ?_;have:=m2.size;have GL:=(Mod.cH [b] w).trans (Mod.a8 m2);have apE:=bM rZ.lt;have abZ:=dx rZ.lt;refine vm Z<|bs Z Z<|bs Z Z<|bs Z Z<|cU SR Z λ BI R3 dm aEX qE=> ?_;have mg:=GL.trans (Mod.a8 dm);refine cF Z Z qE Z lI Z Z λ L0 Bj qE=> ?_;have yk:=mg.md Bj (λ q I=> .inr (by have:=aYf.1 I;omega));refine va Z<|aJ Z<|av<|aB Z<|cS Z Z<|aC<| ?_;refine eU Z (λ nd=> ?_) (λ nd=> ?_)
 ·refine aB Z<|aY Z<|bD<|b_ Z Z<| ?_;have aI:=(aI.later (γ m2 dm)).mod Bj aO;have dI:=(dI.later (γ m2 dm)).mod Bj (bU DF);exact ⟨G0,bW,Hx,Z, .inr ⟨by simpa using nd,λ bw=>(ak3.resolve_left λ CO=>absurd CO.1 (by simpa using nd)).2.1 bw,rfl⟩,aI,dI,yk⟩
 ·obtain ⟨_,TJ,aaC⟩:=ak3.resolve_right λ bw=>bw.1 (by simpa using nd);have aCP:zp=(ET Hx.hC Hx.V p iW).1:=aZb Prod.fst aaC;have aCJ:Nj=(ET Hx.hC Hx.V p iW).2:=aZb Prod.snd aaC;have Oi:=ak.2.1.2.1;have OM:=dI.S.len;have aDK:=aK9 dI.m TJ aaC;refine bm<|av<|aB Z<|aa (bx Z)<|aa (aj uK Z)<| ?_;have aI:=(aI.later (γ m2 dm)).mod Bj aO;refine bk Z aI AU Z<|aa (b5 underlying34 Z)<|vm Z<|aC<|bJ<| ?_;have dI:=(dI.later (γ m2 dm)).mod Bj (bU DF);have apy:∀ q∈J.ab bW.B,q<w.heap.size:=λ q I=>DF q (by unfold fk.cR;simp [I]);have awC:∀ q∈J.ab bW.B,q=b→False:=λ q I=>Ia q (by unfold fk.cR;simp [I]);have rZ:=(rZ.later dm).mod Bj (bU apE);refine eV (λ cp cn aP=>∃ k:Nat,∃ Ac:Option Addr,∃ J8:Nat,∃ oB:List bS,cn= [(0, .pointer (bA b)),(6,Φ 0),(7, .pointer (bA R3)),(29,Φ (bW.U.length:Int)),(30,Φ (k:Int))]∧cp=Hx.S.length - k∧Mod [b] w aP∧fk aP aA bW Hx∧eR.rep.aF 35 4 aP w.heap.size (J.ab JE) JE Ss (Nj)∧aM aP R3 [.int .u32 (zp:Int), .slice JE Nj.length Ss] 38 (0,0)∧aM aP b [Φ Hx.W.field.wide,Φ Hx.W.field.high, .slice bW.a.P Hx.W.field.a_.length bW.a.p, .slice bW.a.B Hx.W.bf.length bW.a.b, .slice bW.a.S Hx.W.bE.length bW.a.s, .slice bW.a.M Hx.W.bX.length bW.a.m, .slice bW.a.T Hx.W.ao.length bW.a.t,Φ Hx.W.next,Φ Hx.W.now, .slice bW.A bW.T.length bW.c, .slice Ac oB.length J8, .int .u32 (Hx.hC:Int), .slice bW.C Hx.V.length bW.e,Φ Hx.kj] 40 (0,0)∧bS.rep.aF 163 40 aP aA (J.ab Ac) Ac J8 oB∧iD aP aA oB (uU Hx.S (b4.diff Hx.hC zp) k)∧(k≤Hx.S.length)∧(oB.length=Hx.S.length)∧(∀ q∈gS oB,q=b→False)∧(∀ q∈J.ab Ac,q=R3→False)∧(∀ q∈J.ab Ac,q=b→False)∧(∀ q∈J.ab Ac,q∈J.ab JE→False)) _ _ ⟨0,bW.B,bW.d,bW.U,Z,Z,yk,dI,rZ,qE,aI,dI.U,dI.S,by omega,OM,λ q I=>Ia q (by unfold fk.cR;simp [I]),(λ q I ag=>by (have:=apy q I;omega)),awC,(λ q I ag=>by (have:=abZ q ag;(have:=apy q I;omega)))⟩ (eO Z Z Z) ?_;rintro FR arM nR ⟨k,Ac,J8,oB,rfl,rfl,eZ,dI,rZ,qE,cC,Ck,B9,aaY,vZ,ajq,awO,ahi,awQ⟩;have DJ:=bM rZ.lt;have aoi:=qE.lt;have Va:=cC.lt;refine aw<|dR Z Z<|aC<|av<| ?_;refine en Z (λ Om=> ?_) (λ Om=> ?_)
  ·refine bm<|av<|bJ<|aB Z<|aJ Z<|av<| ?_;refine cO [(4,0),(6,0)] [0,1,2,3,4,5,6,7,8,9,10,11] ?_;refine a1 Z Z<|aq Z (λ _=>bx Z)<|aq Z (λ _=>aj E4 Z)<|aq Z (λ _=>aj xn Z)<|cf Z Z cC r4 Z<|aq Z (λ _=>aj xn Z)<|cf Z Z qE r4 Z<|aq Z (λ _=>VQ Z Z)<|a1 Z Z<|aq Z (λ _=>Gm (m:=k) Z Z Z (by omega))<|aq Z (λ _=>LZ (a:=(b4.diff Hx.hC zp)) Z Z (b4.NL _ _))<|aq Z (λ _=>beq Z Z)<|fn λ ud dH=> ?_;have:=dH.size;have hI:=eZ.trans (Mod.a8 dH);refine aX<| ?_;refine iE Z (λ qc=> ?_) (λ qc=> ?_)
   ·have KO:=VP.1 qc;have aCI:=aFr dI.m ak (by omega) KO;refine rg<|vm Z<|vm Z<|aa (bx Z)<|aa (aj uK Z)<| ?_;have cC:=cC.later dH;refine bk Z cC AU Z<|vm Z<| ?_;have Ck:=Ck.later dH;have B9:=B9.later dH;refine ca ayC Z Z ((aJy _ _ oB _ (k:Int) _ Ck.has B9.zN).mono ?_);rintro e Jc ⟨aNN,aqH,avh,atQ,aOV,rfl,aDk,Rx,MT,aRE,kJ⟩;refine cu ?_;have z8:=hI.trans (Mod.a8 kJ);have xM:=dx Rx.lt;have amz:=dx MT.lt;have aAE:=aDk.resolve_right λ bw=>bw.2.1 aCI;have ajz:=aAE.2.2;refine vm Z<|bs Z Z<|bs Z Z<|aa (bx Z)<|aa (aj uK Z)<| ?_;have cC:=cC.later kJ;refine dU Z Z cC Z SS Z Z λ L2 qg cC=> ?_;have vw:=z8.md qg lr;refine nl<|b1<|eM Z Z Z<| ?_;have po:=kW (γ dH kJ) qg;have dI:=dI.mod po (bl Ia);have rZ:=rZ.mod po (bz abZ);have qE:=qE.mod po aO;have Rx:=Rx.mod qg (bz xM);have MT:=MT.mod qg (bl λ q I ag=>by have:=amz q I;omega);exact eJ ⟨k+1,aqH,avh,atQ,Z,Z,vw,dI,rZ,qE,cC,(Rx.down (by omega)),(by rw [uU,aYq KO,← ajz];exact MT.LP.down (by omega)),by omega,by have ajd:=MT.zN.len;rw [ajz,Us,abT] at ajd;exact ajd,λ q I ag=>by (have:=amz q I;omega),(λ q I ag=>by (have:=xM q I;omega)),(λ q I ag=>by (have:=xM q I;omega)),(λ q I ag=>by (have:=xM q I;(have:=DJ q ag;have:=apE q ag;omega)))⟩
   ·have KO:¬ (b4.diff Hx.hC zp).testBit k=true:=λ bw=>qc (VP.2 bw);refine fu<|b1<|eM Z Z Z<| ?_;have dI:=dI.later dH;have rZ:=rZ.later dH;have qE:=qE.later dH;have cC:=cC.later dH;have Ck:=Ck.later dH;have B9:=B9.later dH;exact eJ ⟨k+1,Ac,J8,oB,Z,Z,hI,dI,rZ,qE,cC,Ck,(by rw [uU,aYi KO];exact B9),by omega,vZ,ajq,awO,ahi,awQ⟩
  ·have mr:k=Hx.S.length:=by omega
   refine dn<|dk<|dG<|dj<|aX<|aB Z<|aa (ax Z (qE.all p7 lI))<|aa (bx Z)<|aa (aj E4 Z)<|st (new:= [Φ Hx.W.field.wide,Φ Hx.W.field.high, .slice bW.a.P Hx.W.field.a_.length bW.a.p, .slice bW.a.B Hx.W.bf.length bW.a.b, .slice bW.a.S Hx.W.bE.length bW.a.s, .slice bW.a.M Hx.W.bX.length bW.a.m, .slice bW.a.T Hx.W.ao.length bW.a.t,Φ Hx.W.next,Φ Hx.W.now, .slice bW.A bW.T.length bW.c, .slice Ac oB.length J8, .int .u32 (zp:Int), .slice JE Nj.length Ss,Φ Hx.kj]) Z Z cC Z lI Z Z Z λ Gt iH cC=> ?_;have rN:=eZ.md iH lr;refine aC<|aw<|aY Z<|b_ Z Z<| ?_;have dI:=dI.mod iH (bl Ia);have Ck:=Ck.mod iH (bl ahi);have B9:=B9.mod iH (bl ajq);have rZ:=rZ.mod iH (bz abZ);exact ⟨0,⟨bW.a,bW.A,bW.c,bW.T,Ac,J8,oB,JE,Ss⟩,⟨Hx.W,Hx.L,uU Hx.S (b4.diff Hx.hC zp) k,zp,Nj,Hx.kj⟩,Z, .inl ⟨Z,TJ,by unfold TH;rw [← aCP,← aCJ,mr]⟩,cC,⟨dI.W,dI.T,dI.L,Ck,B9,rZ.down (by omega),aDK⟩,rN⟩
end
structure h' where
 kind:Int
 o:aQ
 by_:Int
 sat:Int
 deriving DecidableEq,Inhabited
namespace h'
def cells (a:h'):List Value:= [.int .i64 (a.kind), .int .i64 (a.o.by_), .int .i64 (a.o.kind), .int .i64 (a.o.bd), .int .i64 (a.o.spot.x), .int .i64 (a.o.spot.y), .int .i64 (a.o.what), .int .i64 (a.by_), .int .i64 (a.sat)]
def ok (a:h'):Prop:=(Lit.int .i64 a.kind).wf=true∧(Lit.int .i64 a.o.by_).wf=true∧(Lit.int .i64 a.o.kind).wf=true∧(Lit.int .i64 a.o.bd).wf=true∧(Lit.int .i64 a.o.spot.x).wf=true∧(Lit.int .i64 a.o.spot.y).wf=true∧(Lit.int .i64 a.o.what).wf=true∧(Lit.int .i64 a.by_).wf=true∧(Lit.int .i64 a.sat).wf=true
def raw (j:Nat) (u:Value):Prop:=match j with
 | 0 | 1 | 2 | 3 | 4 | 5 | 6 | 7 | 8=>∃ n:Int,u= .int .i64 n
 | _=>True
theorem qQ (a:h'):∀ (j:Nat) u,a.cells[j]? =some u→raw j u:=by
 intro j u hu
 match j,hu with
 | 0,hu | 1,hu | 2,hu | 3,hu | 4,hu | 5,hu | 6,hu | 7,hu | 8,hu=>exact ⟨_,(aYd hu).symm⟩
 | j+9,hu=>exact trivial
theorem qP (a:h'):∀ u∈a.cells,u.oneCell'=true:=by
 intro u hu;unfold cells at hu;simp only [aYk,aZA,baq] at hu;rcases hu with rfl | rfl | rfl | rfl | rfl | rfl | rfl | rfl | rfl<;>rfl
def rep:J h':=J.flat 9 cells ok raw (λ _=>rfl) qP qQ
def zero:Value:= .agg #[.int .i64 0, .int .i64 0, .int .i64 0, .int .i64 0, .int .i64 0, .int .i64 0, .int .i64 0, .int .i64 0, .int .i64 0]
theorem oD {by_:Nat} {w:World} {A:Option Addr} {c:Nat} {l:List h'} (h:rep.aK by_ w A c l):∀ a∈l,a.ok:=J.aK.AB (R:=rep) (Q:=ok) (fun {w cs a} (h:rep.has w cs a)=>(show cs=a.cells∧a.ok from h).2) h
def sh:hl:=(.cons (.int .i64) (.cons (.cons (.int .i64) (.cons (.int .i64) (.cons (.int .i64) (.cons (.cons (.int .i64) (.cons (.int .i64) .nil)) (.cons (.int .i64) .nil))))) (.cons (.int .i64) (.cons (.int .i64) .nil))))
theorem opens (w:World) (cs:List Value) (h:sh.j_ w cs):∃ a,rep.has w cs a:=by
 obtain ⟨_,_,rfl,_,_,⟨dO,rfl,xJ⟩,⟨_,_,rfl,_,_,⟨_,_,rfl,_,_,⟨eX,rfl,dw⟩,⟨_,_,rfl,_,_,⟨fA,rfl,dN⟩,⟨_,_,rfl,_,_,⟨i_,rfl,hb⟩,⟨_,_,rfl,_,_,⟨_,_,rfl,_,_,⟨rG,rfl,sj⟩,⟨_,_,rfl,_,_,⟨qw,rfl,mU⟩,rfl⟩⟩,⟨_,_,rfl,_,_,⟨rH,rfl,rj⟩,rfl⟩⟩⟩⟩⟩,⟨_,_,rfl,_,_,⟨sD,rfl,xK⟩,⟨_,_,rfl,_,_,⟨pK,rfl,Dd⟩,rfl⟩⟩⟩⟩:=h;exact ⟨⟨dO,⟨eX,fA,i_,⟨rG,qw⟩,rH⟩,sD,pK⟩,Z,xJ,dw,dN,hb,sj,mU,rj,xK,Dd⟩
end h'
section
open Go.Proofs.YtmeeljmapailnaaGreat.fL
def Cz (x:cY) (c:h'):Prop:=G7 x∧((c.kind=1∧adk x.S c.o)∨(c.kind=2∧Nh x)∨(c.kind=3∧Hv x.hC x.V c.by_ c.sat))
noncomputable def AP (x:cY) (c:h'):cY:=if c.kind=1 then {x with S:=LJ x.S c.o} else if c.kind=2 then P9 x else TH x c.by_ c.sat
def CA (x:cY) (c:h'):ByteArray:=if c.kind=2 then jL (xg x.kj.toNat x.S).2 else .empty
section
variable {x:cY} {c:h'}
theorem YI (h:c.kind=1):AP x c= {x with S:=LJ x.S c.o}:=aYq h
theorem YJ (h:c.kind=2):AP x c=P9 x:=by unfold AP;rw [aYi (by omega),aYq h]
theorem ahJ (h:c.kind=3):AP x c=TH x c.by_ c.sat:=by unfold AP;rw [aYi (by omega),aYi (by omega)]
theorem axi (h:c.kind=1):CA x c= .empty:=aYi (by omega)
theorem YL (h:c.kind=2):CA x c=jL (xg x.kj.toNat x.S).2:=aYq h
theorem axj (h:c.kind=3):CA x c= .empty:=aYi (by omega)
theorem axf (h:c.kind=1) (k:Cz x c):adk x.S c.o:=by rcases k.2 with ⟨_,k⟩ | ⟨_,k⟩ | ⟨_,k⟩;exact k;omega;omega
theorem axg (h:c.kind=2) (k:Cz x c):Nh x:=by rcases k.2 with ⟨_,k⟩ | ⟨_,k⟩ | ⟨_,k⟩;omega;exact k;omega
theorem axh (h:c.kind=3) (k:Cz x c):Hv x.hC x.V c.by_ c.sat:=by rcases k.2 with ⟨_,k⟩ | ⟨_,k⟩ | ⟨_,k⟩;omega;omega;exact k
end
def JH (x:cY) (c:h') (e:Int) (s:ByteArray) (ly:cY):Prop:=(e=0∧Cz x c∧ly=AP x c∧s=CA x c)∨(e≠0∧¬ Cz x c∧ly=x∧s= .empty)
theorem aaJ (bW:m6) (Hx:cY) (cy:h') (w:World) (hT:cY.Has w bW Hx) (TJ:cy.o.ok):
  Calls prog 29 #[.agg ((cY.cells bW Hx).toArray), .agg #[Φ cy.kind,Φ cy.o.by_,Φ cy.o.kind,Φ cy.o.bd,Φ cy.o.spot.x,Φ cy.o.spot.y,Φ cy.o.what,Φ cy.by_,Φ cy.sat]] w (λ e w'=>∃ (e':Int) (s:ByteArray) (dh:m6) (ly:cY),e= .returned (.tuple #[.agg (cY.cells dh ly).toArray, .string s,Φ e'])∧JH Hx cy e' s ly∧fk w' w.heap.size dh ly∧Ext w w'):=by
 refine ch (n:=51) func29 Z Z Z ?_;refine dZ Z Z λ cG bB aR d' ae=> ?_;have hE:=ae.lt;refine jR Z Z λ eC cJ bt hP ar=> ?_;have bO:=γ aR bt;have mB:=ar.lt;refine cU CE Z λ hG jf cr rm br=> ?_;have:=cr.size;have c6:=γ bO cr;have xX:=br.lt;refine va Z<|aJ Z<|aw<| ?_;have ae:=ae.later (γ bt cr);refine aa (ax Z (ae.all jz fe))<|ca ayD Z Z ((aC9 bW Hx _ (hT.keep c6)).mono ?_);rintro e vh ⟨qY,rfl,gK,ey⟩;refine cu ?_;have:=ey.size;have ks:=γ c6 ey;have ya:=bM gK.lt;have zl:=dx gK.lt;have ae:=ae.later ey;refine st Z Z ae Z fe Z Z Z λ DK kG ae=> ?_;have:=kG.size;have rM:=Ext.mod ks kG bo;refine aC<|aw<|aa (ax Z (ae.all jz fe))<| ?_;have gK:=gK.mod kG (bl λ q I ag=>by have:=zl q I;omega);refine ca ayE Z Z ((aBJ qY Hx _ gK.has).mono ?_);rintro e ud ⟨W0,rfl,ajS,dH⟩;refine cu ?_;have:=dH.size;have hI:=γ rM dH;refine aJ Z<|av<|aB Z<|cS Z Z<|aC<| ?_;refine eU Z (λ qc=> ?_) (λ qc=> ?_)
 ·refine aw<| ?_;have ae:=ae.later dH;refine aa (ax Z (ae.all jz fe))<|vm Z<| ?_;have br:=((br.later ey).mod kG aO).later dH;refine st Z Z br Z fe Z Z Z λ Gs og br=> ?_;have oy:=Ext.mod hI og bo;refine va Z<|aY Z<|bD<|cz (.cell Z (br.all jz fe) (.tmp Z (.tmp Z .nil)))<| ?_;have gK:=(gK.later dH).mod og (bl λ q I ag=>by have:=zl q I;omega);exact ⟨W0, .empty,qY,Hx,Z, .inr ⟨(by simpa using qc),(λ bw=>(show ¬ W0=0 by simpa using qc) (ajS.2 bw.1)),Z,Z⟩,gK.down (by omega),oy⟩
 ·have di:=ajS.1 (by simpa using qc);refine bm<|aw<| ?_;have ae:=ae.later dH;refine aa (ax Z (ae.all jz fe))<|cU CE Z λ wG agj im aTP Aj=> ?_;have mH:=γ hI im;have aWf:=Aj.lt;refine st Z Z Aj Z fe Z Z Z λ L4 kX Aj=> ?_;have:=kX.size;have rO:=Ext.mod mH kX bo;refine aJ Z<|av<|aw<|aa (aj aie Z)<| ?_;have ar:=(((ar.later (γ cr ey)).mod kG aO).later (γ dH im)).mod kX aO;refine bk Z ar aT Z<|aC<|bJ<|aw<|aa (beq Z Z)<|aJ Z<| ?_;refine iE Z (λ jC=> ?_) (λ jC=> ?_)
  ·have tC:cy.kind=1:=by omega
   refine rg<|aa (aj uK Z)<| ?_;have ae:=(ae.later im).mod kX aO;refine bk Z ae AU Z<|aa (aj ayF Z)<|aa (ax Z (ar.par [Φ cy.o.by_,Φ cy.o.kind,Φ cy.o.bd,Φ cy.o.spot.x,Φ cy.o.spot.y,Φ cy.o.what] ky gm Z))<| ?_;have gK:=(gK.later (γ dH im)).mod kX (bU ya);refine ca ayG Z Z ((aJO _ _ qY.U Hx.S cy.o _ gK.has.U gK.has.S TJ).mono ?_);rintro e ap8 ⟨arI,aqJ,avm,atS,atE,rfl,ak9,Ry,Ri,aRF,uh⟩;refine cu ?_;have GM:=γ rO uh;have amZ:=dx Ry.lt;have amB:=dx Ri.lt;refine vm Z<|bs Z Z<|bs Z Z<|aa (aj uK Z)<| ?_;have Aj:=Aj.later uh;refine dU Z Z Aj Z SS Z Z λ ue oi Aj=> ?_;have j7:=Ext.mod GM oi bo;refine va Z<|nl<|b1<|aX<|av<|aB Z<|cS Z Z<|aC<| ?_;refine eU Z (λ Ty=> ?_) (λ Ty=> ?_)
   ·refine aw<| ?_;have ae:=(ae.later uh).mod oi aO;refine aa (ax Z (ae.all jz fe))<|vm Z<| ?_;have br:=(((((br.later ey).mod kG aO).later (γ dH im)).mod kX aO).later uh).mod oi aO;refine st Z Z br Z fe Z Z Z λ Gu kH br=> ?_;have pS:=Ext.mod j7 kH bo;refine va Z<|aY Z<|bD<|cz (.cell Z (br.all jz fe) (.tmp Z (.tmp Z .nil)))<| ?_;have gK:=((gK.later uh).mod oi (bU ya)).mod kH (bl λ q I ag=>by have:=zl q I;omega);exact ⟨arI, .empty,qY,Hx,Z, .inr ⟨(by simpa using Ty),(λ bw=>(ak9.resolve_left λ CO=>absurd CO.1 (by simpa using Ty)).2.1 (axf tC bw)),Z,Z⟩,gK.down (by omega),pS⟩
   ·refine bm<|aw<|aa (ax Z (Aj.all jz fe))<|vm Z<| ?_;have br:=(((((br.later ey).mod kG aO).later (γ dH im)).mod kX aO).later uh).mod oi aO;refine cF Z Z br Z fe Z Z λ L9 UO br=> ?_;have D7:=Ext.mod j7 UO bo;refine va Z<|aY Z<|cz (.cell Z (br.all jz fe) (.tmp Z (.tmp Z .nil)))<| ?_;have gK:=((gK.later uh).mod oi (bU ya)).mod UO (bl λ q I ag=>by have:=zl q I;omega);have Ry:=(Ry.mod oi (bz amZ)).mod UO (bz amZ);have Ri:=(Ri.mod oi (bl λ q I ag=>by have:=amB q I;omega)).mod UO (bl λ q I ag=>by have:=amB q I;omega);obtain ⟨_,aDz,aDA⟩:=ak9.resolve_right λ bw=>bw.1 (by simpa using Ty);exact ⟨0, .empty,⟨qY.a,qY.A,qY.c,qY.T,aqJ,avm,atS,qY.C,qY.e⟩, {Hx with S:=atE},Z, .inl ⟨Z,⟨di, .inl ⟨tC,aDz⟩⟩,by rw [YI tC,aDA],by rw [axi tC]⟩,⟨gK.W.down (by omega),gK.T.down (by omega),gK.L.down (by omega),Ry.down (by omega),Ri.LP.down (by omega),gK.V.down (by omega),hT.m⟩,D7⟩
  ·refine aw<|aa (beq Z Z)<|aJ Z<| ?_;refine iE Z (λ CY=> ?_) (λ CY=> ?_)
   ·have tC:cy.kind=2:=by omega
    refine rg<| ?_;have gK:=(gK.later (γ dH im)).mod kX (bU ya);refine ca ayH Z Z ((aDx agj hG.heap.size qY Hx _ (by omega) Aj gK (λ q I ag=>by (have:=ya q I;omega)) di).mono ?_);rintro e Ma ⟨arJ,aIZ,aAy,aL4,rfl,ala,ar2,Rf,kY⟩;refine cu ?_;have uq:=Ext.mod rO kY bo;have aES:=dx Rf.lt;refine vm Z<|bs Z Z<|bs Z Z<|va Z<|va Z<|nl<|b1<|aX<|av<|aB Z<|cS Z Z<|aC<| ?_;refine eU Z (λ xA=> ?_) (λ xA=> ?_)
    ·refine aw<| ?_;have ae:=((ae.later im).mod kX aO).mod kY aO;refine aa (ax Z (ae.all jz fe))<|vm Z<| ?_;have br:=((((br.later ey).mod kG aO).later (γ dH im)).mod kX aO).mod kY aO;refine st Z Z br Z fe Z Z Z λ ad4 py br=> ?_;have Jy:=Ext.mod uq py bo;refine va Z<|aY Z<|bD<|cz (.cell Z (br.all jz fe) (.tmp Z (.tmp Z .nil)))<| ?_;have gK:=(gK.mod kY (bU ya)).mod py (bl λ q I ag=>by have:=zl q I;omega);exact ⟨arJ, .empty,qY,Hx,Z, .inr ⟨(by simpa using xA),(λ bw=>(ala.resolve_left λ CO=>absurd CO.1 (by simpa using xA)).2.1 (axg tC bw)),Z,Z⟩,gK.down (by omega),Jy⟩
    ·refine bm<|aw<|aa (ax Z (ar2.all jz fe))<|vm Z<| ?_;have br:=((((br.later ey).mod kG aO).later (γ dH im)).mod kX aO).mod kY aO;refine st Z Z br Z fe Z Z Z λ DO jj br=> ?_;have pT:=Ext.mod uq jj bo;refine va Z<|aY Z<|cz (.cell Z (br.all jz fe) (.tmp Z (.tmp Z .nil)))<| ?_;have gK:=(gK.mod kY (bU ya)).mod jj (bl λ q I ag=>by have:=zl q I;omega);have Rf:=Rf.mod jj (bl λ q I ag=>by have:=aES q I;omega);obtain ⟨_,hN,hO,C8,abh⟩:=ala.resolve_right λ bw=>bw.1 (by simpa using xA);exact ⟨0,aIZ,aAy,aL4,Z, .inl ⟨Z,⟨di, .inr (.inl ⟨tC,hN,hO⟩)⟩,by rw [YJ tC,abh],by rw [YL tC,C8]⟩,Rf.down (by omega),pT⟩
   ·refine aw<|aa (beq Z Z)<|aJ Z<| ?_;refine iE Z (λ vW=> ?_) (λ vW=> ?_)
    ·have tC:cy.kind=3:=by omega
     refine rg<|aa (aj ayI Z)<|bk Z ar aT Z<|aa (aj ayJ Z)<|bk Z ar aT Z<| ?_;have gK:=(gK.later (γ dH im)).mod kX (bU ya);refine ca ayK Z Z ((aBI agj hG.heap.size qY Hx cy.by_ cy.sat _ (by omega) Aj gK (λ q I ag=>by (have:=ya q I;omega)) di).mono ?_);rintro e Gv ⟨arL,aAz,aL5,rfl,alb,ar3,Rg,kh⟩;refine cu ?_;have lA:=Ext.mod rO kh bo;have aET:=dx Rg.lt;refine va Z<|nl<|b1<|aX<|av<|aB Z<|cS Z Z<|aC<| ?_;refine eU Z (λ TA=> ?_) (λ TA=> ?_)
     ·refine aw<| ?_;have ae:=((ae.later im).mod kX aO).mod kh aO;refine aa (ax Z (ae.all jz fe))<|vm Z<| ?_;have br:=((((br.later ey).mod kG aO).later (γ dH im)).mod kX aO).mod kh aO;refine st Z Z br Z fe Z Z Z λ Md xR br=> ?_;have vz:=Ext.mod lA xR bo;refine va Z<|aY Z<|bD<|cz (.cell Z (br.all jz fe) (.tmp Z (.tmp Z .nil)))<| ?_;have gK:=(gK.mod kh (bU ya)).mod xR (bl λ q I ag=>by have:=zl q I;omega);exact ⟨arL, .empty,qY,Hx,Z, .inr ⟨(by simpa using TA),(λ bw=>(alb.resolve_left λ CO=>absurd CO.1 (by simpa using TA)).2.1 (axh tC bw)),Z,Z⟩,gK.down (by omega),vz⟩
     ·refine bm<|aw<|aa (ax Z (ar3.all jz fe))<|vm Z<| ?_;have br:=((((br.later ey).mod kG aO).later (γ dH im)).mod kX aO).mod kh aO;refine st Z Z br Z fe Z Z Z λ Ji mX br=> ?_;have sL:=Ext.mod lA mX bo;refine va Z<|aY Z<|cz (.cell Z (br.all jz fe) (.tmp Z (.tmp Z .nil)))<| ?_;have gK:=(gK.mod kh (bU ya)).mod mX (bl λ q I ag=>by have:=zl q I;omega);have Rg:=Rg.mod mX (bl λ q I ag=>by have:=aET q I;omega);obtain ⟨_,hN,hO⟩:=alb.resolve_right λ bw=>bw.1 (by simpa using TA);exact ⟨0, .empty,aAz,aL5,Z, .inl ⟨Z,⟨di, .inr (.inr ⟨tC,hN⟩)⟩,by rw [ahJ tC,hO],by rw [axj tC]⟩,Rg.down (by omega),sL⟩
    ·refine rg<|va Z<|nl<|b1<|aX<|av<|aB Z<|cS Z Z<|aC<|eT Z<|aw<| ?_;have ae:=(ae.later im).mod kX aO;refine aa (ax Z (ae.all jz fe))<|vm Z<| ?_;have br:=(((br.later ey).mod kG aO).later (γ dH im)).mod kX aO;refine st Z Z br Z fe Z Z Z λ Me u_ br=> ?_;have wR:=Ext.mod rO u_ bo;refine va Z<|aY Z<|bD<|cz (.cell Z (br.all jz fe) (.tmp Z (.tmp Z .nil)))<| ?_;have gK:=((gK.later (γ dH im)).mod kX (bU ya)).mod u_ (bl λ q I ag=>by have:=zl q I;omega);exact ⟨1, .empty,qY,Hx,Z, .inr ⟨(by decide),(λ bw=>by rcases bw.2 with ⟨bw,_⟩ | ⟨bw,_⟩ | ⟨bw,_⟩<;>omega),Z,Z⟩,gK.down (by omega),wR⟩
end
section
variable {m:Nat}
open Go.Proofs.YtmeeljmapailnaaGreat.fL
def m6.zero:m6:=⟨⟨none,none,none,none,none,0,0,0,0,0⟩,none,0, [],none,0, [],none,0⟩
def cY.zero:cY:=⟨ai.zero, [], [],0, [],0⟩
theorem fk.zero (w:World) (aA:Nat):fk w aA m6.zero cY.zero:=⟨bH.zero _ _,J.aF.nil _,ju.nil _ _,J.aF.nil _,iD.nil _ _,J.aF.nil _,by decide⟩
theorem acG (h:m<32):2 ^ m - 1<4294967296:=by have:=b4.PT h;omega
def Bp (W:ai) (n:Int):cY:=⟨W, [],List.replicate W.bf.length ⟨[],0,false⟩,2 ^ W.bf.length - 1,List.replicate 16 0,n⟩
def acs (W:ai) (n:Int):Prop:=W.a7=0∧W.bf.length≠0∧1≤n∧n≤100
def afM (W:ai) (n e:Int) (x:cY):Prop:=(e=0∧acs W n∧x=Bp W n)∨(e≠0∧¬ acs W n∧x=cY.zero)
section
variable {P:Program} {E:List (Nat×Value)} {w:World} {d:Option Nat} {ty:TypeId} {pos:String} {af:Array Edge} {g:Option (Nat×Bool)} {x y:Operand} {t u:TypeId}
theorem aLg (hx:ev E x=some (.int .u32 ((2 ^ m:Nat):Int))) (aE:ev E y=some (.int .u32 1)) (hm:m<32):c9 P E ⟨d, .binOp .sub t x y u,ty,pos,af,g⟩ w (.int .u32 ((2 ^ m - 1:Nat):Int)) w:=by
 have h:=avb (P:=P) (w:=w) (d:=d) (ty:=ty) (pos:=pos) (af:=af) (g:=g) (t:=t) (u:=u) hx aE;have κ:=b4.PT hm;have τ:0<2 ^ m:=bbu m
 rwa [show (((2 ^ m:Nat):Int) - 1)=((2 ^ m - 1:Nat):Int) by omega,b4.Wf _ (bap _) (Int.ofNat_lt.2 (acG hm))] at h
end
theorem akI (a:ai.b7) (W:ai) (n:Int) (w:World) (bZ:ai.Has w a W):
  Calls prog 6 #[.agg ((ai.cells a W).toArray),Φ n] w (λ e w'=>∃ (e':Int) (dh:m6) (ly:cY),e= .returned (.tuple #[.agg (cY.cells dh ly).toArray,Φ e'])∧afM W n e' ly∧fk w' w.heap.size dh ly∧Ext w w'):=by
 refine ch (n:=49) func6 Z Z Z ?_;refine dZ Z Z λ cG bB aR d' ae=> ?_;have hE:=ae.lt;refine cU CE Z λ eC cJ bt hP ar=> ?_;have:=bt.size;have bO:=γ aR bt;have mB:=ar.lt;refine aJ Z<|aw<| ?_;have ae:=ae.later bt;refine aa (ax Z (ae.all dz cd))<|ca HI Z Z ((IY a W _ _ ([]:List iC) ([]) _ (bZ.keep bO) (J.aK.nil _) oA.nil).mono ?_);rintro e wE ⟨yy,gA,eA,WD,ave,aGv,rfl,OY,uz,Xo,aaE,fK⟩;refine cu ?_;have:=fK.size;have lz:=γ bO fK;have ou:=bM uz.lt;have oe:=dx uz.lt;refine vm Z<|bs Z Z<|bs Z Z<|bs Z Z<| ?_;have ae:=ae.later fK;refine st Z Z ae Z cd Z Z Z λ vh oQ ae=> ?_;have:=oQ.size;have ks:=Ext.mod lz oQ bo;refine va Z<|aJ Z<|av<|aB Z<|cS Z Z<|aC<| ?_;refine eU Z (λ A4=> ?_) (λ A4=> ?_)
 ·refine aw<|aa (v:= .agg #[Φ 0,Φ 0, .slice none 0 0, .slice none 0 0, .slice none 0 0, .slice none 0 0, .slice none 0 0,Φ 0,Φ 0, .slice none 0 0, .slice none 0 0, .int .u32 0, .slice none 0 0,Φ 0]) (eu Z)<|vm Z<| ?_;have ar:=(ar.later fK).mod oQ aO;refine cF Z Z ar Z fe Z Z λ zU sw ar=> ?_;have k4:=Ext.mod ks sw bo;refine aY Z<|bD<|cz (.cell Z (ar.all jz fe) (.tmp Z .nil))<| ?_;exact ⟨yy,m6.zero,cY.zero,Z, .inr ⟨(by simpa using A4),(λ bw=>(show ¬ yy=0 by simpa using A4) (OY.Vu.2 ⟨by simp,bw.1,rfl⟩)),Z⟩,fk.zero _ _,k4⟩
 ·obtain ⟨_,ob,_,A3,_⟩:=OY.ok (by simpa using A4);have A3:eA=W:=A3;refine bm<|aw<|aa (aj s8 Z)<|bk Z ae xq Z<|aa (b5 underlying25 Z)<|aJ Z<|av<|aB Z<|aa (beq Z Z)<|vm Z<|ec Z Z<|sB Z aid (λ hc=>gp (gt hc Z) Z) (λ hc=>akE n _) λ zV il=> ?_;have:=il.size;have mG:=γ ks il;refine bh Z (λ hc=>dJ (gt hc Z))<|aa (eW Z Z Z Z)<|aC<| ?_;refine du Z (λ A5=> ?_) (λ A5=> ?_)
  ·simp only [bn] at A5;refine aw<|aa (v:= .agg #[Φ 0,Φ 0, .slice none 0 0, .slice none 0 0, .slice none 0 0, .slice none 0 0, .slice none 0 0,Φ 0,Φ 0, .slice none 0 0, .slice none 0 0, .int .u32 0, .slice none 0 0,Φ 0]) (eu Z)<| ?_;have ar:=((ar.later fK).mod oQ aO).later il;refine cF Z Z ar Z fe Z Z λ L1 FT ar=> ?_;have um:=Ext.mod mG FT bo;refine aY Z<|bD<|cz (.cell Z (ar.all jz fe) (.tmp Z .nil))<| ?_;exact ⟨1,m6.zero,cY.zero,Z, .inr ⟨(by decide),(λ bw=>by rw [← A3] at bw;have:=bw.2;omega),Z⟩,fk.zero _ _,um⟩
  ·simp only [bn] at A5;have dc:1≤eA.bf.length:=by omega
   have KK:eA.bf.length≤8:=by rw [A3];exact (Good.Dx ob).iJ
   have TD:eA.bf.length<32:=by omega
   refine bm<|aB Z<|ca ayL Z Z ((aJC eA.bf.length dc KK _).mono ?_);rintro e wH ⟨JB,J7,rfl,EB,Er,aBQ,fF⟩;refine cu ?_;have:=fF.size;have j6:=γ mG fF;have zP:=bM EB.lt;have uV:=dx EB.lt;have apB:=bM Er.lt;have amA:=dx Er.lt;refine vm Z<|bs Z Z<|bs Z Z<|va Z<|aJ Z<|av<| ?_;refine aoo [(3,2),(5,2),(6,3)] [0,1,2] 3 [4,5,6] 5 [3,4,6] (by kernel_rfl) (by kernel_rfl) ?_;refine a1 Z Z<|aq Z (λ _=>VS (m:=eA.bf.length) Z Z Z TD)<|aq Z (λ _=>aLg (m:=eA.bf.length) Z Z TD)<|fn λ L4 kK=> ?_;have:=kK.size;have rO:=γ j6 kK;refine aiJ ?_ ?_
   ·refine ff Z Z Z λ Qo vt Q hK=>PB (R:=eR.rep) (by_:=4) (B:=w.heap.size) (c:=16) (zv:=eR.zero) (q:=0) J.qa underlying36 eR.info Z Z eR.j8 (λ _=>⟨Z,by decide⟩) Z Z Z (by omega) (by omega) (by have:=vt.size;omega) λ L6 Hq lR amK RK=>hK _ _ ⟨γ vt lR, ?_⟩;have:=vt.size;have ym:=γ rO vt;have:=lR.size;have wP:=γ ym lR;have I9:=bM RK.lt;have aFI:∀ q∈J.ab (bA Hq),Hq≤q:=λ q I=>aZQ (aYf.1 I).symm;refine r9 (v:= .agg #[.int .u32 (((2 ^ eA.bf.length - 1:Nat):Int)), .slice (bA Hq) 16 16]) Z Z (λ _=>lH Z (by kernel_rfl)) Z<|ff Z Z Z λ DN hX Q hK=>cU SR Z λ Gu auJ k1 aFb Ee=>hK _ _ ⟨γ hX k1, ?_⟩;have:=hX.size;have rP:=γ wP hX;have pS:=γ rP k1;refine dE Z Z Z λ Qq sG Q hK=>cF Z Z (Ee.later sG) Z lI Z Z λ Jg zy Ee=>hK _ _ ?_;have Aa:=γ pS sG;have wQ:=Ext.mod Aa zy bo;refine fn λ Mc dK=> ?_;have qD:=γ wQ dK;refine aX<|aw<| ?_;have ae:=((ae.later (γ il (γ fF (γ kK (γ vt (γ lR (γ hX (γ k1 sG)))))))).mod zy aO).later dK;refine aa (ax Z (ae.all dz cd))<|aa (v:= .agg #[Φ eA.field.wide,Φ eA.field.high, .slice gA.P eA.field.a_.length gA.p, .slice gA.B eA.bf.length gA.b, .slice gA.S eA.bE.length gA.s, .slice gA.M eA.bX.length gA.m, .slice gA.T eA.ao.length gA.t,Φ eA.next,Φ eA.now, .slice none 0 0]) (eu Z)<|vm Z<| ?_;have Ee:=Ee.later dK;refine aa (ax Z (Ee.all p7 lI))<|vm Z<|aa (v:= .agg #[Φ eA.field.wide,Φ eA.field.high, .slice gA.P eA.field.a_.length gA.p, .slice gA.B eA.bf.length gA.b, .slice gA.S eA.bE.length gA.s, .slice gA.M eA.bX.length gA.m, .slice gA.T eA.ao.length gA.t,Φ eA.next,Φ eA.now, .slice none 0 0, .slice JB ((List.replicate eA.bf.length (default:bS)).length) J7, .int .u32 (((2 ^ eA.bf.length - 1:Nat):Int)), .slice (bA Hq) 16 16,Φ n]) (eu Z)<| ?_;have ar:=((((ar.later fK).mod oQ aO).later (γ il (γ fF (γ kK (γ vt (γ lR (γ hX (γ k1 sG)))))))).mod zy aO).later dK;refine cF Z Z ar Z fe Z Z λ DO jj ar=> ?_;have pT:=Ext.mod qD jj bo;refine aY Z<|cz (.cell Z (ar.all jz fe) (.tmp Z .nil))<| ?_;have uz:=((((uz.mod oQ (bz oe)).later (γ il (γ fF (γ kK (γ vt (γ lR (γ hX (γ k1 sG)))))))).mod zy (bU ou)).later dK).mod jj (bz oe);have EB:=(((EB.later (γ kK (γ vt (γ lR (γ hX (γ k1 sG)))))).mod zy (bU zP)).later dK).mod jj (bz uV);have Er:=(((Er.later (γ kK (γ vt (γ lR (γ hX (γ k1 sG)))))).mod zy (bU apB)).later dK).mod jj (bl λ q I ag=>by have:=amA q I;omega);have RK:=(((RK.later (γ hX (γ k1 sG))).mod zy (bU I9)).later dK).mod jj (bz aFI);have Of:Bp W n=⟨eA, [],List.replicate eA.bf.length ⟨[],0,false⟩,2 ^ eA.bf.length - 1,List.replicate 16 0,n⟩:=by unfold Bp;rw [A3]
    exact ⟨0,⟨gA,none,0, [],JB,J7,List.replicate eA.bf.length default,some ⟨Hq,0,none⟩,16⟩,Bp W n,by rw [Of];rfl, .inl ⟨rfl,⟨ob,by rw [← A3];omega,by omega⟩,rfl⟩,by rw [Of];exact ⟨uz.down (by omega),J.aF.nil _,ju.nil _ _,EB.down (by omega),Er.LP.down (by omega),RK.down (by omega),acG TD⟩,pT⟩
   ·refine ff Z Z Z λ V5 iO Q hK=>cU SR Z λ Qt aPV fS aT9 Eh=>hK _ _ ⟨γ iO fS, ?_⟩;have:=iO.size;have D8:=γ rO iO;have yr:=γ D8 fS;have aIx:=Eh.lt;refine ff Z Z Z λ Ji kL Q hK=>PB (R:=eR.rep) (by_:=4) (B:=w.heap.size) (c:=16) (zv:=eR.zero) (q:=0) J.qa underlying36 eR.info Z Z eR.j8 (λ _=>⟨Z,by decide⟩) Z Z Z (by omega) (by omega) (by have:=kL.size;omega) λ ad5 Nt GJ aUe Xu=>hK _ _ ⟨γ kL GJ, ?_⟩;have:=kL.size;have sL:=γ yr kL;have JA:=γ sL GJ;have Uv:∀ q∈J.ab (bA Nt),Nt≤q:=λ q I=>aZQ (aYf.1 I).symm;refine r9 (v:= .agg #[.int .u32 (((2 ^ eA.bf.length - 1:Nat):Int)), .slice (bA Nt) 16 16]) Z Z (λ _=>lH Z (by kernel_rfl)) Z<| ?_;have Eh:=Eh.later (γ kL GJ);refine dE Z Z Z λ aLn ye Q hK=>cF Z Z (Eh.later ye) Z lI Z Z λ VV zr Eh=>hK _ _ ?_;have aei:=γ JA ye;have BN:=Ext.mod aei zr bo;refine fn λ ad1 Gz=> ?_;have Mk:=γ BN Gz;refine aX<|aw<| ?_;have ae:=((ae.later (γ il (γ fF (γ kK (γ iO (γ fS (γ kL (γ GJ ye)))))))).mod zr aO).later Gz;refine aa (ax Z (ae.all dz cd))<|aa (v:= .agg #[Φ eA.field.wide,Φ eA.field.high, .slice gA.P eA.field.a_.length gA.p, .slice gA.B eA.bf.length gA.b, .slice gA.S eA.bE.length gA.s, .slice gA.M eA.bX.length gA.m, .slice gA.T eA.ao.length gA.t,Φ eA.next,Φ eA.now, .slice none 0 0]) (eu Z)<|vm Z<| ?_;have Eh:=Eh.later Gz;refine aa (ax Z (Eh.all p7 lI))<|vm Z<|aa (v:= .agg #[Φ eA.field.wide,Φ eA.field.high, .slice gA.P eA.field.a_.length gA.p, .slice gA.B eA.bf.length gA.b, .slice gA.S eA.bE.length gA.s, .slice gA.M eA.bX.length gA.m, .slice gA.T eA.ao.length gA.t,Φ eA.next,Φ eA.now, .slice none 0 0, .slice JB ((List.replicate eA.bf.length (default:bS)).length) J7, .int .u32 (((2 ^ eA.bf.length - 1:Nat):Int)), .slice (bA Nt) 16 16,Φ n]) (eu Z)<| ?_;have ar:=((((ar.later fK).mod oQ aO).later (γ il (γ fF (γ kK (γ iO (γ fS (γ kL (γ GJ ye)))))))).mod zr aO).later Gz;refine cF Z Z ar Z fe Z Z λ ad2 nj ar=> ?_;have Jw:=Ext.mod Mk nj bo;refine aY Z<|cz (.cell Z (ar.all jz fe) (.tmp Z .nil))<| ?_;have uz:=((((uz.mod oQ (bz oe)).later (γ il (γ fF (γ kK (γ iO (γ fS (γ kL (γ GJ ye)))))))).mod zr (bU ou)).later Gz).mod nj (bz oe);have EB:=(((EB.later (γ kK (γ iO (γ fS (γ kL (γ GJ ye)))))).mod zr (bU zP)).later Gz).mod nj (bz uV);have Er:=(((Er.later (γ kK (γ iO (γ fS (γ kL (γ GJ ye)))))).mod zr (bU apB)).later Gz).mod nj (bl λ q I ag=>by have:=amA q I;omega);have Xu:=(((Xu.later ye).mod zr (bz Uv)).later Gz).mod nj (bz Uv);have Of:Bp W n=⟨eA, [],List.replicate eA.bf.length ⟨[],0,false⟩,2 ^ eA.bf.length - 1,List.replicate 16 0,n⟩:=by unfold Bp;rw [A3]
    exact ⟨0,⟨gA,none,0, [],JB,J7,List.replicate eA.bf.length default,some ⟨Nt,0,none⟩,16⟩,Bp W n,by rw [Of];rfl, .inl ⟨rfl,⟨ob,by rw [← A3];omega,by omega⟩,rfl⟩,by rw [Of];exact ⟨uz.down (by omega),J.aF.nil _,ju.nil _ _,EB.down (by omega),Er.LP.down (by omega),Xu.down (by omega),acG TD⟩,Jw⟩
end
section
variable {V:ai} {ls:List ByteArray} {k:Nat} {m:List aQ}
open Go.Proofs.YtmeeljmapailnaaGreat.fL
theorem apd {by_:Nat} {w:World} {A:Option Addr} {c:Nat} {l:List ByteArray} (h:gi.aK by_ w A c l):∀ s∈l,s.size≤140737488351232:=J.aK.AB (R:=gi) (Q:=λ s:ByteArray=>s.size≤140737488351232) (fun {w cs a} (h:gi.has w cs a)=>(show cs= [.string a]∧a.size≤140737488351232 from h).2) h
def Ei (W:ai) (ls:List ByteArray) (k:Nat) (V:ai) (M:List (List aQ)):Prop:=M.length=k∧ls.take k=M.map jL∧(∀ m∈M,ix m=0∧(∀ o∈m,o.ok)∧EF (jL m) m 0)∧lN W M=0∧V=mZ W M
theorem Ei.start {W:ai} (h:V=mZ W []):Ei W ls 0 V []:=⟨rfl,rfl,λ m h=>by simp at h,rfl,h⟩
theorem Ei.next {W:ai} {M:List (List aQ)} {s:ByteArray} (h:Ei W ls k V M) (aN:ls[k]? =some s) (κ:ix m=0) (τ:jL m=s) (au:∀ o∈m,o.ok) {K9:Int} (hR:EF s m K9) (ak:K9=0) (aU:iZ V m=0):Ei W ls (k+1) (pH V m) (M++ [m]):=by
 obtain ⟨a,b,c,d,e⟩:=h;refine ⟨by rw [aX9,a];rfl, ?_, ?_, ?_, ?_⟩
 ·rw [aYA,← b,List.map_singleton,τ];exact Gb aN
 ·intro m' aCK;rcases aYo.1 aCK with h | h
  ·exact c m' h
  ·rw [aYf.1 h];refine ⟨κ,au, ?_⟩;rw [τ,← ak];exact hR
 ·rw [P3,aYi (by rw [d];simp),Vi,← e];exact aU
 ·rw [aoz,← e];rfl
def afn (W:ai) (ls:List ByteArray) (V:ai) (k:Nat):Prop:=k≤ls.length∧∃ M,Ei W ls k V M∧(k=ls.length∨∀ m,ix m=0→(∀ o∈m,o.ok)→ls[k]? =some (jL m)→iZ V m≠0)
theorem aL2 {l:List aQ} (h:ix l=0) (di:∀ o∈l,o.ok) (hR:EF (jL m) m 0) (he:jL l=jL m):l=m:=(acH h di (by rw [he];exact hR)).2.symm
theorem aqo:∀ {L M:List (List aQ)},(∀ m∈L,ix m=0∧∀ o∈m,o.ok)→(∀ m∈M,EF (jL m) m 0)→L.map jL=M.map jL→L=M
 | [], [],_,_,_=>rfl
 | [],_::_,_,_,h=>by simp at h
 | _::_, [],_,_,h=>by simp at h
 | l::L,m::M,κ,τ,h=>by
  rw [aY3,aY3] at h;obtain ⟨aW,bb⟩:=bbi h;rw [aL2 (κ l (aYE)).1 (κ l (aYE)).2 (τ m (aYE)) aW,aqo (λ x hx=>κ x (aYm _ hx)) (λ x hx=>τ x (aYm _ hx)) bb]
theorem aiP {W:ai} {L:List (List aQ)} (h:afn W (L.map jL) V k) (dY:∀ m∈L,ix m=0∧∀ o∈m,o.ok) (hr:lN W L=0):k=L.length∧V=mZ W L:=by
 obtain ⟨ak,M,⟨a,b,c,d,e⟩,hs⟩:=h;rw [aYT] at ak hs;have qZ:L.take k=M:=aqo (λ m hm=>dY m (aZp hm)) (λ m hm=>(c m hm).2.2) (by rw [← b,ba1]);rcases hs with hs | hs
 ·rw [hs,aYS] at qZ;exact ⟨hs,by rw [e,qZ]⟩
 ·rcases aZc k L.length with bF | tz
  ·have aN:L[k]? =some L[k]:=aYb bF;have κ:=dY _ (aZs bF);refine absurd ?_ (hs L[k] κ.1 κ.2 (by rw [aYv,aN];rfl));have τ:lN W (L.take k)=0:=aZN λ aG=>Vj aG hr;have au:lN W (L.take (k+1))=0:=aZN λ aG=>Vj aG hr;rw [Vk τ aN] at au;rw [e,← qZ];exact au
  ·have:k=L.length:=by omega
   rw [this,aYS] at qZ;exact ⟨this,by rw [e,qZ]⟩
def MF (W:ai) (ls:List ByteArray) (e:Int) (V:ai) (k:Nat):Prop:=(e=0∧(ls.length≤200∧W.a7=0)∧afn W ls V k)∨(e≠0∧¬(ls.length≤200∧W.a7=0)∧V=ai.zero∧k=0)
theorem akc (a:ai.b7) (W:ai) (A:Option Addr) (c:Nat) (ls:List ByteArray) (w:World) (bZ:ai.Has w a W) (ah:gi.aK 16 w A c ls):
  Calls prog 22 #[.agg ((ai.cells a W).toArray), .slice A ls.length c] w (λ e w'=>∃ (e':Int) (k:Nat) (a':ai.b7) (V:ai),e= .returned (.tuple #[.agg (ai.cells a' V).toArray,Φ (k:Int),Φ e'])∧MF W ls e' V k∧bH w' w.heap.size a' V∧Ext w w'):=by
 have tD:=ah.fa;refine ch (n:=61) func22 Z Z Z ?_;refine dZ Z Z λ cG bB aR d' ae=> ?_;have hE:=ae.lt;refine cU nG Z λ eC cJ bt hP ar=> ?_;have:=bt.size;have bO:=γ aR bt;have mB:=ar.lt;refine va Z<|aJ Z<|av<|aB Z<|aa (b5 underlying45 Z)<|aa (gO Z Z)<|aC<| ?_;refine en Z (λ jB=> ?_) (λ jB=> ?_)
 ·refine aw<|aa (v:= .agg #[Φ 0,Φ 0, .slice none 0 0, .slice none 0 0, .slice none 0 0, .slice none 0 0, .slice none 0 0,Φ 0,Φ 0]) (eu Z)<|cF Z Z ar Z cd Z Z λ wD wk ar=> ?_;have jq:=Ext.mod bO wk bo;refine va Z<|aY Z<|bD<|cz (.cell Z (ar.all dz cd) (.tmp Z (.tmp Z .nil)))<| ?_;exact ⟨2,0,⟨none,none,none,none,none,0,0,0,0,0⟩,ai.zero,Z, .inr ⟨(by decide),(λ bw=>by omega),Z,Z⟩,bH.zero _ _,jq⟩
 ·have kc:ls.length≤200:=by omega
  refine bm<|aw<| ?_;have ae:=ae.later bt;refine aa (ax Z (ae.all dz cd))<|ca HI Z Z ((IY a W _ _ ([]:List iC) ([]) _ (bZ.keep bO) (J.aK.nil _) oA.nil).mono ?_);rintro e rF ⟨afk,a20,at2,aqF,avf,aUw,rfl,ak6,vD,aOD,aBP,cX⟩;refine cu ?_;have iA:=γ bO cX;have Iw:=dx vD.lt;refine vm Z<|bs Z Z<|bs Z Z<|bs Z Z<| ?_;have ae:=ae.later cX;refine st Z Z ae Z cd Z Z Z λ zU sw ae=> ?_;have k4:=Ext.mod iA sw bo;refine va Z<|aJ Z<|av<|aB Z<|cS Z Z<|aC<| ?_;refine eU Z (λ pc=> ?_) (λ pc=> ?_)
  ·refine aw<|aa (v:= .agg #[Φ 0,Φ 0, .slice none 0 0, .slice none 0 0, .slice none 0 0, .slice none 0 0, .slice none 0 0,Φ 0,Φ 0]) (eu Z)<|vm Z<| ?_;have ar:=(ar.later cX).mod sw aO;refine cF Z Z ar Z cd Z Z λ wF oR ar=> ?_;have mf:=Ext.mod k4 oR bo;refine va Z<|aY Z<|bD<|cz (.cell Z (ar.all dz cd) (.tmp Z (.tmp Z .nil)))<| ?_;exact ⟨afk,0,⟨none,none,none,none,none,0,0,0,0,0⟩,ai.zero,Z, .inr ⟨(by simpa using pc),(λ bw=>(show ¬ afk=0 by simpa using pc) (ak6.Vu.2 ⟨by simp,bw.2,rfl⟩)),Z,Z⟩,bH.zero _ _,mf⟩
  ·obtain ⟨_,ob,_,A3,_⟩:=ak6.ok (by simpa using pc);refine bm<|av<|aB Z<|aa (b5 underlying45 Z)<|vm Z<|aC<|bJ<| ?_;have vD:=vD.mod sw (bz Iw);have ar:=(ar.later cX).mod sw aO;refine eV (λ cp cn aP=>∃ k:Nat,∃ p5:ai.b7,∃ na:ai,∃ M:List (List aQ),cn= [(1, .slice A ls.length c),(2, .pointer (bA bB)),(4, .pointer (bA cJ)),(29, .slice A ls.length c),(30,Φ (ls.length:Int)),(31,Φ (k:Int))]∧cp=ls.length - k∧Ext w aP∧aM aP cJ [Φ 0,Φ 0, .slice none 0 0, .slice none 0 0, .slice none 0 0, .slice none 0 0, .slice none 0 0,Φ 0,Φ 0] 28 (0,0)∧aM aP bB (ai.cells p5 na) 28 (0,0)∧bH aP w.heap.size p5 na∧(k≤ls.length)∧(Ei W ls k na M)∧(∀ q∈bH.cR p5,q=bB→False)∧(∀ q∈bH.cR p5,q=cJ→False)) _ _ ⟨0,a20,at2, [],Z,Z,k4,ar,ae,(vD.down (by omega)),by omega,Ei.start A3,(λ q I ag=>by exfalso;(have:=Iw q I;omega)),(λ q I ag=>by exfalso;(have:=Iw q I;omega))⟩ (eO Z Z Z) ?_;rintro oS arN vk ⟨k,p5,na,M,rfl,rfl,jr,ar,cP,nC,ak,sa,awK,Yx⟩;have aIq:=ar.lt;have aIr:=cP.lt;have LU:=bM nC.lt;refine aw<|dR Z Z<|aC<|av<| ?_;refine en Z (λ On=> ?_) (λ On=> ?_)
   ·have aaT:ls[k]? =some (ls.getD k ByteArray.empty):=dt (by omega);refine bm<|av<|bJ<|aB Z<|aa (cl k underlying45 E5 Z Z ((ah.keep jr).bT (aV k)) Z (by omega))<|aa (ax Z (J.aK.fh KP ((ah.keep jr).cD (aV k)) (dt (l:=ls) (u:=ByteArray.empty) (by omega)) Z HJ))<|va Z<|aJ Z<|aB Z<|ca ayM Z Z ((aHg (ls.getD k ByteArray.empty) _ (apd ah _ (jk (by omega)))).mono ?_);rintro e L5 ⟨oT,aEH,aNw,agH,Tt,rfl,afQ,jM⟩;refine cu ?_;have:=jM.size;have qA:=γ jr jM;have aDs:=aIG Tt;have aC5:∀ o∈oT,o.ok:=aQ.oD afQ.has;refine vm Z<|bs Z Z<|bs Z Z<|va Z<|aJ Z<|av<|aB Z<|cS Z Z<|aC<| ?_;refine eU Z (λ tq=> ?_) (λ tq=> ?_)
    ·refine aw<| ?_;have cP:=cP.later jM;refine aa (ax Z (cP.all dz cd))<|vm Z<| ?_;have ar:=ar.later jM;refine st Z Z ar Z cd Z Z Z λ Jd iw ar=> ?_;have qB:=Ext.mod qA iw bo;refine va Z<|aY Z<|bD<|eb<|bD<|m0<|eb<|bD<|cz (.cell Z (ar.all dz cd) (.tmp Z (.tmp Z .nil)))<| ?_;have nC:=(nC.later jM).mod iw (bl Yx);exact ⟨0,k,p5,na,Z, .inl ⟨Z,⟨kc,ob⟩,⟨by omega,M,sa, .inr λ m κ τ au=>by rw [aaT] at au;have ZW:=aYd au;have ZX:=(acH κ τ (by rw [← ZW];exact Tt)).1;exact absurd ZX (by simpa using tq)⟩⟩,nC,qB⟩
    ·have q7:aEH=0:=by simpa using tq
     obtain ⟨oN,O6⟩:=aDs.1 q7;refine bm<|aw<| ?_;have cP:=cP.later jM;refine aa (ax Z (cP.all dz cd))<|vm Z<| ?_;have nC:=nC.later jM;refine ca YW Z Z ((Qg p5 na _ _ oT _ nC.has afQ.has).mono ?_);rintro e Jf ⟨J2,aqL,aQa,aqM,aQb,aqN,aQc,rfl,Am,aOH,aOI,aOJ,TK,hk⟩;refine cu ?_;have:=hk.size;have qC:=γ qA hk;have adP:=bM Am.lt;have Lc:=dx Am.lt;have aQx:∀ q∈J.ab aqL,q∈bH.cR J2→False:=λ q I=>TK q (.inl I);have aQy:∀ q∈J.ab aqM,q∈bH.cR J2→False:=λ q I=>TK q (.inr (.inl I));have aQz:∀ q∈J.ab aqN,q∈bH.cR J2→False:=λ q I=>TK q (.inr (.inr I));refine vm Z<|bs Z Z<|bs Z Z<|bs Z Z<|cU nG Z λ L_ aPN i' aTZ Ef=> ?_;have z_:=γ qC i';have aWs:=Ef.lt;refine cU Kg Z λ Jh auL kq aFd pV=> ?_;have yp:=γ z_ kq;have Ef:=Ef.later kq;refine st Z Z Ef Z cd Z Z Z λ aqa j3 Ef=> ?_;have GN:=Ext.mod yp j3 bo;have pV:=pV.mod j3 aO;refine cF Z Z pV Z CC Z Z λ Qt l6 pV=> ?_;have yr:=Ext.mod GN l6 bo;refine aJ Z<|av<|aB Z<|cS Z Z<|aC<| ?_;refine eU Z (λ HZ=> ?_) (λ HZ=> ?_)
     ·refine aw<| ?_;have cP:=((cP.later (γ hk (γ i' kq))).mod j3 aO).mod l6 aO;refine aa (ax Z (cP.all dz cd))<|vm Z<| ?_;have ar:=((ar.later (γ jM (γ hk (γ i' kq)))).mod j3 aO).mod l6 aO;refine st Z Z ar Z cd Z Z Z λ V7 Bn ar=> ?_;have D_:=Ext.mod yr Bn bo;refine va Z<|aY Z<|bD<|eb<|bD<|m0<|eb<|bD<|cz (.cell Z (ar.all dz cd) (.tmp Z (.tmp Z .nil)))<| ?_;have nC:=(((nC.later (γ hk (γ i' kq))).mod j3 (bU LU)).mod l6 (bU LU)).mod Bn (bl Yx);exact ⟨0,k,p5,na,Z, .inl ⟨Z,⟨kc,ob⟩,⟨by omega,M,sa, .inr λ m κ τ au=>by rw [aaT] at au;have ZW:=aYd au;have ZX:=(acH κ τ (by rw [← ZW];exact Tt)).2;rw [← ZX];simpa using HZ⟩⟩,nC,D_⟩
     ·have Ip:iZ na oT=0:=by simpa using HZ
      refine bm<|rg<| ?_;have Ef:=Ef.mod l6 aO;refine aa (ax Z (Ef.all dz cd))<| ?_;have cP:=((cP.later (γ hk (γ i' kq))).mod j3 aO).mod l6 aO;refine st Z Z cP Z cd Z Z Z λ V_ qj cP=> ?_;have Eb:=Ext.mod yr qj bo;refine nl<|b1<|eM Z Z Z<| ?_;have ar:=(((ar.later (γ jM (γ hk (γ i' kq)))).mod j3 aO).mod l6 aO).mod qj aO;have nC:=(((nC.later (γ hk (γ i' kq))).mod j3 (bU LU)).mod l6 (bU LU)).mod qj (bl awK);have Am:=(((Am.later (γ i' kq)).mod j3 (bU adP)).mod l6 (bU adP)).mod qj (bz Lc);exact eJ ⟨k+1,J2,pH na oT,M++ [oT],Z,Z,Eb,ar,cP,(Am.down (by omega)),by omega,sa.next aaT oN O6 aC5 Tt q7 Ip,(λ q I ag=>by exfalso;(have:=Lc q I;omega)),(λ q I ag=>by exfalso;(have:=Lc q I;omega))⟩
   ·refine dn<|dk<|dG<|dj<|aX<|aw<|aa (ax Z (cP.all dz cd))<|vm Z<|aa (b5 underlying45 Z)<|st Z Z ar Z cd Z Z Z λ Mf FP ar=> ?_;have rS:=Ext.mod jr FP bo;refine va Z<|aY Z<|cz (.cell Z (ar.all dz cd) (.tmp Z (.tmp Z .nil)))<| ?_;have nC:=nC.mod FP (bl Yx);exact ⟨0,ls.length,p5,na,Z, .inl ⟨Z,⟨kc,ob⟩,⟨aYg _,M,(by rw [show ls.length=k by omega];exact sa), .inl Z⟩⟩,nC,rS⟩
theorem aB4 (a:ai.b7) (W:ai) (A:Option Addr) (c:Nat) (ls:List ByteArray) (n:Nat) (w:World) (hn:ls.length=n) (bZ:ai.Has w a W) (ah:gi.aK 16 w A c ls):Calls prog 22 #[.agg (ai.cells a W).toArray, .slice A n c] w (λ e w'=>∃ (e':Int) (k:Nat) (a':ai.b7) (V:ai),e= .returned (.tuple #[.agg (ai.cells a' V).toArray,Φ (k:Int),Φ e'])∧MF W ls e' V k∧bH w' w.heap.size a' V∧Ext w w'):=by
 subst hn;exact akc a W A c ls w bZ ah
end
section
open Go.Proofs.YtmeeljmapailnaaGreat.fL
theorem ahM {x ly:cY} {c:h'} {e:Int} {s:ByteArray} (h:JH x c e s ly):s.size≤140737488351232:=by
 have aG:(ByteArray.empty).size≤140737488351232:=by decide
 rcases h with ⟨_,_,_,rfl⟩ | ⟨_,_,_,rfl⟩
 ·unfold CA;split
  ·exact aqn _
  ·exact aG
 ·exact aG
def aoW:cY:=Bp l8 5
def aWL:h':=⟨1,⟨0,3,1,⟨2,0⟩,0⟩,0,0⟩
def P_:cY:= {aoW with S:= [⟨o2,0,false⟩]}
theorem aoZ:m_ l8 []:=⟨by decide,by decide +kernel,rfl⟩
theorem aoX:G7 aoW:=⟨aoZ,⟨by decide,by decide,λ i s h=>by
 match i,h with
 | 0,h=>obtain rfl:=aYd h;exact ⟨by decide,by decide⟩⟩,⟨Z,by decide +kernel⟩,by decide,by decide,by decide,λ i s h=>by
 match i,h with
 | 0,h=>obtain rfl:=aYd h;rfl⟩
theorem aJz:G7 P_:=⟨aoZ,⟨by decide,by decide,λ i s h=>by
 match i,h with
 | 0,h=>obtain rfl:=aYd h;exact ⟨by decide,by decide +kernel⟩⟩,⟨Z,by decide +kernel⟩,by decide,by decide,by decide,λ i s h=>by
 match i,h with
 | 0,h=>obtain rfl:=aYd h;rfl⟩
theorem ads:xg P_.kj.toNat P_.S=([⟨[],0,false⟩],o2):=by decide +kernel
theorem aJA:Nh P_:=by
 unfold Nh;rw [ads];exact ⟨by decide,adI.1⟩
theorem aFD {aW bb df jy:Int} {eX fA i_:cY} {s2 F7:ByteArray} {V:ai} {k:Nat} (κ:afM l8 5 aW eX) (τ:JH eX ⟨1,⟨0,3,1,⟨2,0⟩,0⟩,0,0⟩ bb s2 fA) (au:JH fA ⟨2,⟨0,0,0,⟨0,0⟩,0⟩,0,0⟩ df F7 i_) (aU:MF l8 [F7] jy V k):
  aW=0∧bb=0∧df=0∧jy=0∧k=1∧i_.L.length=1∧V=adD:=by
 obtain ⟨b2,_,rfl⟩:=κ.resolve_right λ h=>h.2.1 ⟨by decide +kernel,by decide,by decide⟩;obtain ⟨a2,_,a3,_⟩:=τ.resolve_right λ h=>h.2.1 ⟨aoX, .inl ⟨rfl,aoX.2.1,by decide +kernel,⟨[],0,false⟩,rfl,rfl,by decide⟩⟩;have a4:fA=P_:=by rw [a3,YI rfl];rfl
 subst a4;obtain ⟨a5,_,EI,EJ⟩:=au.resolve_right λ h=>h.2.1 ⟨aJz, .inr (.inl ⟨rfl,aJA⟩)⟩;rw [YJ rfl] at EI;rw [YL rfl,ads] at EJ;obtain ⟨af3,_,a9⟩:=aU.resolve_right λ h=>h.2.1 ⟨by simp,by decide +kernel⟩;have dY:∀ m∈ [o2],ix m=0∧∀ o∈m,o.ok:=λ m hm=>by
  rw [aYf.1 hm];exact ⟨by decide +kernel,λ o bK=>by rw [aYf.1 bK];exact ⟨b8.2 (by decide),b8.2 (by decide),b8.2 (by decide),b8.2 (by decide),b8.2 (by decide),b8.2 (by decide)⟩⟩
 rw [EJ] at a9;obtain ⟨k_,fw⟩:=aiP (L:= [o2]) a9 dY (by rw [Vi];exact adI.1);exact ⟨b2,a2,a5,af3,k_,by rw [EI];unfold P9;rw [ads];rfl,by rw [fw];exact adI.2.1⟩
end
section
open Go.Proofs.YtmeeljmapailnaaGreat.fL
theorem aBF {w:World} {cs:List Value} {a:h'} (h:h'.rep.has w cs a):cs=a.cells:=bas (show cs=a.cells∧a.ok from h)
theorem av5 {c:h'} (h:c.ok):c.o.ok:=⟨h.2.1,h.2.2.1,h.2.2.2.1,h.2.2.2.2.1,h.2.2.2.2.2.1,h.2.2.2.2.2.2.1⟩
open Classical in
noncomputable def wu (y:cY×List ByteArray×List aQ) (c:h'):cY×List ByteArray×List aQ:=if Cz y.1 c then (AP y.1 c,if c.kind=2 then y.2.1++ [CA y.1 c] else y.2.1,if c.kind=1 then y.2.2++ [c.o] else y.2.2) else y
noncomputable def pD (x:cY) (l:List h'):cY×List ByteArray×List aQ:=l.foldl wu (x, [], [])
section
variable {x lV ly:cY} {l:List h'} {k:Nat} {ot:List ByteArray} {Vc:List aQ} {e:Int} {s:ByteArray}
theorem acN (ak:k<l.length):pD x (l.take (k+1))=wu (pD x (l.take k)) (l.getD k default):=by
 unfold pD;rw [x_ (d:=default) ak,aZU];rfl
theorem aHE (he:e≠0) (h:JH lV (l.getD k default) e s ly) (hp:pD x (l.take k)=(lV,ot,Vc)) (ak:k<l.length:=by omega):pD x (l.take (k+1))=(lV,ot,Vc):=by
 rw [acN ak,hp];exact aYi (h.resolve_left λ h=>absurd h.1 he).2.1
theorem aHF (h:Cz lV (l.getD k default)) (κ:ly=AP lV (l.getD k default)) (τ:s=CA lV (l.getD k default)) (au:(l.getD k default).kind=2) (_:(l.getD k default).kind≠1) (hp:pD x (l.take k)=(lV,ot,Vc)) (ak:k<l.length:=by omega):pD x (l.take (k+1))=(ly,ot++ [s],Vc):=by
 rw [acN ak,hp,κ,τ];unfold wu;rw [aYq h,aYq au,aYi (by omega)]
end
end
section
theorem atW:ez prog gi 45 9 16:=ez.ki (z:= .string .empty) (k:=1) underlying45 Uf rfl rfl (by decide) (λ j u h=>Vf j u h)
open Go.Proofs.YtmeeljmapailnaaGreat.fL
section
variable {x lV ly:cY} {l:List h'} {k:Nat} {ot:List ByteArray} {e:Int} {s:ByteArray}
theorem aHH (he:e≠0) (h:JH lV (l.getD k default) e s ly) (hp:∃ q,pD x (l.take k)=(lV,ot,q)) (ak:k<l.length:=by omega):∃ q,pD x (l.take (k+1))=(lV,ot,q):=by
 obtain ⟨q,hp⟩:=hp;exact ⟨q,aHE he h hp ak⟩
theorem aHI (h:Cz lV (l.getD k default)) (κ:ly=AP lV (l.getD k default)) (τ:s=CA lV (l.getD k default)) (au:(l.getD k default).kind=2) (hp:∃ q,pD x (l.take k)=(lV,ot,q)) (ak:k<l.length:=by omega):∃ q,pD x (l.take (k+1))=(ly,ot++ [s],q):=by
 obtain ⟨q,hp⟩:=hp;exact ⟨q,aHF h κ τ au (by omega) hp ak⟩
theorem aHG (h:Cz lV (l.getD k default)) (κ:ly=AP lV (l.getD k default)) (_:s=CA lV (l.getD k default)) (au:(l.getD k default).kind≠2) (hp:∃ q,pD x (l.take k)=(lV,ot,q)) (ak:k<l.length:=by omega):∃ q,pD x (l.take (k+1))=(ly,ot,q):=by
 obtain ⟨q,hp⟩:=hp;rw [acN ak,hp,κ];unfold wu;rw [aYq h,aYi au];exact ⟨_,Z⟩
end
theorem aoY  (w:World):
  Calls prog 28 #[] w (λ e w'=>∃ a,e= .returned (.agg (ai.cells a l8).toArray)∧bH w' w.heap.size a l8∧Ext w w'):=by
 refine ch (n:=11) func28 Z Z Z ?_;refine aw<|cU nG Z λ cG bB aR d' ae=> ?_;have hE:=ae.lt;refine aC<|aw<|c7 (e:= 3) (cs:= [Φ 0,Φ 0,Φ 3]) Z (λ _=>by kernel_rfl) Z λ eC cJ bt hP ar=> ?_;have bO:=γ aR bt;have mB:=ar.lt;refine aa (v:= .agg #[Φ 3,Φ 1, .slice (bA cJ) 3 3]) (eu Z)<|aa (v:= .agg #[Φ 0,Φ 0]) (eu Z)<|c7 (e:= 55) (cs:= [Φ 0,Φ 0]) Z (λ _=>by kernel_rfl) Z λ hG jf cr rm br=> ?_;have c6:=γ bO cr;have xX:=br.lt;refine c7 (e:= 3) (cs:= [Φ 20]) Z (λ _=>by kernel_rfl) Z λ nR Nq ey abO uu=> ?_;have eZ:=γ c6 ey;have Va:=uu.lt;refine c7 (e:= 3) (cs:= [Φ 0,Φ 0,Φ 9]) Z (λ _=>by kernel_rfl) Z λ ub X5 ko aE4 yv=> ?_;have hH:=γ eZ ko;have aWa:=yv.lt;refine aa (v:= .agg #[Φ 1,Φ 0]) (eu Z)<|aa (v:= .agg #[Φ 1,Φ 0,Φ 1,Φ 1,Φ 0,Φ 10,Φ 0]) (eu Z)<|c7 (e:= 57) (cs:= [Φ 1,Φ 0,Φ 1,Φ 1,Φ 0,Φ 10,Φ 0]) Z (λ _=>by kernel_rfl) Z λ L1 R2 eL amI Ai=> ?_;have um:=γ hH eL;refine aa (v:= .agg #[Φ 3,Φ 1, .slice (bA cJ) 3 3, .slice (bA jf) 1 1, .slice (bA Nq) 1 1, .slice (bA X5) 3 3, .slice (bA R2) 1 1,Φ 2,Φ 0]) (eu Z)<| ?_;have ae:=ae.later (γ bt (γ cr (γ ey (γ ko eL))));refine cF Z Z ae Z cd Z Z λ wH qh ae=> ?_;have j6:=Ext.mod um qh bo;refine sk<|cz (.cell Z (ae.all dz cd) .nil)<| ?_;have ar:=(ar.later (γ cr (γ ey (γ ko eL)))).mod qh aO;have br:=(br.later (γ ey (γ ko eL))).mod qh aO;have uu:=(uu.later (γ ko eL)).mod qh aO;have yv:=(yv.later eL).mod qh aO;have Ai:=Ai.mod qh aO;exact ⟨⟨some ⟨cJ,0,none⟩,some ⟨jf,0,none⟩,some ⟨Nq,0,none⟩,some ⟨X5,0,none⟩,some ⟨R2,0,none⟩,3,1,1,3,1⟩,Z,⟨aM.xW (R:=bu) (by_:=8) (B:=w.heap.size) (k:= [0,0,3]) ar [[Φ 0], [Φ 0], [Φ 3]] Z ⟨⟨Z,b8.2 (by decide)⟩,⟨Z,b8.2 (by decide)⟩,⟨Z,b8.2 (by decide)⟩,trivial⟩ (by simp) (by simp) (by decide) (by omega),aM.xW (R:=az.rep) (by_:=16) (B:=w.heap.size) (k:= [⟨0,0⟩]) br [[Φ 0,Φ 0]] Z ⟨⟨Z,b8.2 (by decide),b8.2 (by decide)⟩,trivial⟩ (by simp) (by simp) (by decide) (by omega),aM.xW (R:=bu) (by_:=8) (B:=w.heap.size) (k:= [20]) uu [[Φ 20]] Z ⟨⟨Z,b8.2 (by decide)⟩,trivial⟩ (by simp) (by simp) (by decide) (by omega),aM.xW (R:=bu) (by_:=8) (B:=w.heap.size) (k:= [0,0,9]) yv [[Φ 0], [Φ 0], [Φ 9]] Z ⟨⟨Z,b8.2 (by decide)⟩,⟨Z,b8.2 (by decide)⟩,⟨Z,b8.2 (by decide)⟩,trivial⟩ (by simp) (by simp) (by decide) (by omega),aM.xW (R:=bj.rep) (by_:=56) (B:=w.heap.size) (k:= [⟨1,0,1,⟨1,0⟩,10,0⟩]) Ai [[Φ 1,Φ 0,Φ 1,Φ 1,Φ 0,Φ 10,Φ 0]] Z ⟨⟨Z,b8.2 (by decide),b8.2 (by decide),b8.2 (by decide),b8.2 (by decide),b8.2 (by decide),b8.2 (by decide),b8.2 (by decide)⟩,trivial⟩ (by simp) (by simp) (by decide) (by omega),by simp [J.ab];omega,b8.2 (by decide),b8.2 (by decide),b8.2 (by decide),b8.2 (by decide)⟩,j6⟩
theorem amT  (w:World):
  Calls prog 7 #[] w (λ e w'=>e= .returned (.bool true)∧Ext w w'):=by
 refine ch (n:=72) func7 Z Z Z ?_;refine aw<|aJ Z<|aw<|ca aif Z Z ((aoY _).mono ?_);rintro e VY ⟨aub,rfl,asl,m2⟩;refine cu ?_;have:=m2.size;refine ca aih Z Z ((akI aub l8 5 _ asl.has).mono ?_);rintro e eC ⟨aNQ,ew,sD,rfl,aDm,Re,dm⟩;refine cu ?_;have:=dm.size;have bO:=γ m2 dm;have aKt:=bM Re.lt;refine vm Z<|bs Z Z<|bs Z Z<|cU CE Z λ wC uE fi K_ iB=> ?_;have k2:=γ bO fi;have aIi:=iB.lt;refine st Z Z iB Z fe Z Z Z λ t_ tL iB=> ?_;have:=tL.size;have iP:=Ext.mod k2 tL bo;refine aJ Z<|aw<|aa (ax Z (iB.all jz fe))<|aa (v:= .agg #[Φ 2,Φ 0]) (eu Z)<|aa (v:= .agg #[Φ 0,Φ 3,Φ 1,Φ 2,Φ 0,Φ 0]) (eu Z)<|aa (v:= .agg #[Φ 1,Φ 0,Φ 3,Φ 1,Φ 2,Φ 0,Φ 0,Φ 0,Φ 0]) (eu Z)<| ?_;have Re:=(Re.later fi).mod tL (bU aKt);refine ca Y2 Z Z ((aaJ ew sD (⟨1,⟨0,3,1,⟨2,0⟩,0⟩,0,0⟩:h') _ Re.has ⟨b8.2 (by decide),b8.2 (by decide),b8.2 (by decide),b8.2 (by decide),b8.2 (by decide),b8.2 (by decide)⟩).mono ?_);rintro e vh ⟨aNL,aWJ,qY,aL3,rfl,aDi,gK,ey⟩;refine cu ?_;have:=ey.size;have ks:=γ iP ey;have zl:=dx gK.lt;refine vm Z<|bs Z Z<|bs Z Z<|bs Z Z<| ?_;have iB:=iB.later ey;refine st Z Z iB Z fe Z Z Z λ DK kG iB=> ?_;have:=kG.size;have rM:=Ext.mod ks kG bo;refine va Z<|aJ Z<|aw<|aa (ax Z (iB.all jz fe))<|aa (v:= .agg #[Φ 2,Φ 0,Φ 0,Φ 0,Φ 0,Φ 0,Φ 0,Φ 0,Φ 0]) (eu Z)<| ?_;have gK:=gK.mod kG (bl λ q I ag=>by have:=zl q I;omega);refine ca Y2 Z Z ((aaJ qY aL3 (⟨2,⟨0,0,0,⟨0,0⟩,0⟩,0,0⟩:h') _ gK.has ⟨b8.2 (by decide),b8.2 (by decide),b8.2 (by decide),b8.2 (by decide),b8.2 (by decide),b8.2 (by decide)⟩).mono ?_);rintro e ud ⟨W0,Vl,nI,qv,rfl,ak8,mK,dH⟩;refine cu ?_;have:=dH.size;have hI:=γ rM dH;refine vm Z<|bs Z Z<|bs Z Z<|bs Z Z<|cU CE Z λ Jb R1 nT aE7 Mv=> ?_;have sJ:=γ hI nT;have aWd:=Mv.lt;refine st Z Z Mv Z fe Z Z Z λ L2 qg Mv=> ?_;have:=qg.size;have vw:=Ext.mod sJ qg bo;refine va Z<|aJ Z<|aw<|ca aif Z Z ((aoY _).mono ?_);rintro e L5 ⟨XR,rfl,Ca,jM⟩;refine cu ?_;have:=jM.size;have qA:=γ vw jM;refine vm Z<|c7 (e:= 9) (cs:= [.string Vl]) Z (λ _=>by kernel_rfl) Z λ L6 Hq lR amK GY=> ?_;have wP:=γ qA lR;have Vb:=GY.lt;have Ca:=Ca.later lR;refine ca aii Z Z ((aB4 XR l8 _ _ ([Vl]) 1 _ (by simp) Ca.has (aM.Ow (R:=gi) (by_:=16) (k:= [Vl]) GY [[.string Vl]] Z (⟨⟨Z,(ahM ak8)⟩,trivial⟩) (by simp) (by simp))).mono ?_);rintro e L7 ⟨aNP,aSZ,aO9,at4,rfl,aDl,MR,rI⟩;refine cu ?_;have:=rI.size;have sK:=γ wP rI;have BE:=bM MR.lt;refine vm Z<|bs Z Z<|bs Z Z<|bs Z Z<|cU nG Z λ Qp aPK hk aTW QY=> ?_;have rQ:=γ sK hk;refine st Z Z QY Z cd Z Z Z λ L' kY QY=> ?_;have uo:=Ext.mod rQ kY bo;refine va Z<|aJ Z<|aB Z<|aa (beq Z Z)<|vm Z<|ec Z Z<|bh Z (λ hc=>beq (gt hc Z) Z)<|aa (ei Z Z Z Z)<|vm Z<|ec Z Z<|bh Z (λ hc=>beq (gt hc Z) Z)<|aa (ei Z Z Z Z)<|vm Z<|ec Z Z<|bh Z (λ hc=>beq (gt hc Z) Z)<|aa (ei Z Z Z Z)<|vm Z<|ec Z Z<|bh Z (λ hc=>beq (gt hc Z) Z)<|aa (ei Z Z Z Z)<| ?_;refine vm Z<|bh Z (λ hc=>aj ld Z)<|bh Z (λ hc=>ax (gt hc Z) (QY.one nb Z))<|bh Z (λ hc=>b5 underlying26 (gt hc Z))<|bh Z (λ hc=>beq (gt hc Z) Z)<|aa (ei Z Z Z Z)<|vm Z<|bh Z (λ hc=>aj ld Z)<|bh Z (λ hc=>ax (gt hc Z) (QY.one nb Z))<| ?_;have MR:=(MR.later hk).mod kY (bU BE);refine bh Z (λ hc=>cl 0 underlying26 lJ (gt hc Z) Z (MR.T.has.bT (aV 0 (by have:=hc;simp only [aYl,aZf,bb7] at this;omega))) Z (by have:=hc;simp only [aYl,aZf,bb7] at this;omega))<|bh Z (λ hc=>aj CB (gt hc Z))<|bh Z (λ hc=>ax (gt hc Z) (J.aK.lg kC (MR.T.has.cD (aV 0 (by have:=hc;simp only [aYl,aZf,bb7] at this;omega))) 6 (dt (l:=at4.ao) (u:=default) (j:=0) (by have:=hc;simp only [aYl,aZf,bb7] at this;omega)) Z aT))<|bh Z (λ hc=>beq (gt hc Z) Z)<|aa (ei Z Z Z Z)<|aY Z<|b_ Z Z<| ?_;obtain ⟨f1,f2,f3,f4,f5,f6,f7⟩:=aFD aDm aDi ak8 aDl;exact ⟨ac7 (by rw [f7];simp [f1,f2,f3,f4,f5];decide),uo⟩
theorem aDb (aA:Nat) (bW:m6) (Hx:cY) (A:Option Addr) (c:Nat) (l:List h') (w:World) (xx:aA≤w.heap.size) (dI:fk w aA bW Hx) (ah:h'.rep.aK 72 w A c l):
  Calls prog 8 #[.agg ((cY.cells bW Hx).toArray), .slice A l.length c] w (λ e w'=>∃ (dh:m6) (ly:cY) (b7:Option Addr) (Cs:Nat) (t:List ByteArray),e= .returned (.tuple #[.agg (cY.cells dh ly).toArray, .slice b7 t.length Cs])∧(∃ q,pD Hx l=(ly,t,q))∧fk w' aA dh ly∧(∀ q∈fk.cR dh,q∈fk.cR bW∨w.heap.size≤q)∧gi.aF 9 16 w' w.heap.size (J.ab b7) b7 Cs t∧Ext w w'):=by
 have tD:=ah.fa;have akt:=ah.2.2.1;have DF:=bM dI.lt;refine ch (n:=38) func8 Z Z Z ?_;refine dZ Z Z λ cG bB aR d' ae=> ?_;have hE:=ae.lt;refine cU CE Z λ eC cJ bt hP ar=> ?_;have bO:=γ aR bt;refine aJ Z<|aw<|aJ Z<|av<|aB Z<|aa (b5 underlying29 Z)<|vm Z<|aC<|bJ<| ?_;have dI:=dI.later (γ aR bt);have ae:=ae.later bt;refine eV (λ cp cn aP=>∃ k:Nat,∃ ak:m6,∃ lV:cY,∃ ot:List ByteArray,∃ b7:Option Addr,∃ Cs:Nat,cn= [(2, .pointer (bA bB)),(4, .pointer (bA cJ)),(5, .slice none 0 0),(6, .slice b7 ot.length Cs),(12, .slice A l.length c),(13,Φ (l.length:Int)),(14,Φ (k:Int))]∧cp=l.length - k∧Ext w aP∧aM aP cJ [Φ 0,Φ 0, .slice none 0 0, .slice none 0 0, .slice none 0 0, .slice none 0 0, .slice none 0 0,Φ 0,Φ 0, .slice none 0 0, .slice none 0 0, .int .u32 0, .slice none 0 0,Φ 0] 40 (0,0)∧aM aP bB (cY.cells ak lV) 40 (0,0)∧gi.aF 9 16 aP w.heap.size (J.ab b7) b7 Cs ot∧fk aP aA ak lV∧(k≤l.length)∧(∃ q,pD Hx (l.take k)=(lV,ot,q))∧(ot.length≤k)∧(∀ q∈fk.cR ak,q∈fk.cR bW∨w.heap.size≤q)∧(∀ q∈fk.cR ak,q=bB→False)∧(∀ q∈fk.cR ak,q=cJ→False)∧(∀ q∈fk.cR ak,q∈J.ab b7→False)∧(∀ q∈J.ab b7,q=cJ→False)∧(∀ q∈J.ab b7,q=bB→False)) _ _ ⟨0,bW,Hx, [],none,0,Z,Z,bO,ar,ae,(J.aF.nil _),dI,by omega,⟨[],rfl⟩,by simp,λ q I=> .inl I,λ q I ag=>by exfalso;(have:=DF q I;omega),λ q I ag=>by exfalso;(have:=DF q I;omega),λ q κ τ=>by simp [J.ab] at τ,(λ q I ag=>by (simp [J.ab] at I)),(λ q I ag=>by (simp [J.ab] at I))⟩ (eO Z Z Z) ?_;rintro tK afm Gq ⟨k,ak,lV,ot,b7,Cs,rfl,rfl,m4,ar,cP,uC,uA,aaY,pg,abp,ag3,Yw,ag1,ag2,Cv,vP⟩;have xX:=ar.lt;have aIk:=cP.lt;have tX:=bM uC.lt;have VG:=bM uA.lt;refine aw<|dR Z Z<|aC<|av<| ?_;refine en Z (λ y6=> ?_) (λ y6=> ?_)
 ·refine bm<|av<|bJ<|aw<|aa (cl k underlying29 SU Z Z ((ah.keep m4).bT (aV k)) Z (by omega))<|aa (ax Z (J.aK.iu aBF ((ah.keep m4).cD (aV k)) (dt (l:=l) (u:=default) (by omega)) aij SU))<|cU ayN Z λ rF Nr l' amG pU=> ?_;have iA:=γ m4 l';have aIn:=pU.lt;refine cF Z Z pU Z SU Z Z λ zV mV pU=> ?_;have:=mV.size;have mG:=Ext.mod iA mV bo;refine aC<|aw<| ?_;have cP:=(cP.later l').mod mV aO;refine aa (ax Z (cP.all jz fe))<|aa (ax Z (pU.all aij SU))<| ?_;have uA:=(uA.later l').mod mV (bU VG);refine ca Y2 Z Z ((aaJ ak lV (l.getD k default) _ uA.has (av5 (h'.oD ah _ (jk (by omega))))).mono ?_);rintro e vk ⟨aNO,adg,aje,aqt,rfl,abe,Ep,eL⟩;refine cu ?_;have:=eL.size;have jr:=γ mG eL;have adJ:=bM Ep.lt;have zm:=dx Ep.lt;refine vm Z<|bs Z Z<|bs Z Z<|bs Z Z<|cU CE Z λ DL Ns pO aE8 yw=> ?_;have nz:=γ jr pO;have aWg:=yw.lt;refine st Z Z yw Z fe Z Z Z λ BH oU yw=> ?_;have:=oU.size;have nA:=Ext.mod nz oU bo;refine va Z<|aJ Z<|av<|aB Z<|cS Z Z<|aC<| ?_;refine eU Z (λ tq=> ?_) (λ tq=> ?_)
  ·have abc:=aHH (by simpa using tq) abe pg;refine dn<|dk<|dj<|eM Z Z Z<| ?_;have dA:=kW (γ eL pO) oU;have ar:=((ar.later l').mod mV aO).mod dA aO;have cP:=cP.mod dA aO;have uC:=((uC.later l').mod mV (bU tX)).mod dA (bU tX);have uA:=uA.mod dA (bU VG);exact eJ ⟨k+1,ak,lV,ot,b7,Cs,Z,Z,nA,ar,cP,uC,uA,by omega,abc,by first | omega | (rw [aX9,aYr];omega),ag3,λ q I ag=>by exfalso;(exact Yw q I ag),λ q I ag=>by exfalso;(exact ag1 q I ag),λ q κ τ=>by exfalso;(exact ag2 q κ τ),Cv,vP⟩
  ·obtain ⟨_,akO,alk,ald⟩:=abe.resolve_right λ bw=>bw.1 (by simpa using tq);refine bm<|av<|aw<|aa (aj aie Z)<| ?_;have pU:=(pU.later (γ eL pO)).mod oU aO;refine bk Z pU aT Z<|aa (beq Z Z)<|aC<| ?_;refine iE Z (λ aBh=> ?_) (λ aBh=> ?_)
   ·refine rg<|vm Z<|vm Z<|c7 (e:= 9) (cs:= [.string adg]) Z (λ _=>by kernel_rfl) Z λ DM aPH uh aTS ae9=> ?_;have pR:=γ nA uh;have aIs:=ae9.lt;have uC:=((((uC.later l').mod mV (bU tX)).later (γ eL pO)).mod oU (bU tX)).later uh;refine ap atW Vg uC (aM.gu (R:=gi) (by_:=16) (q:=adg) ae9 ⟨Z,(ahM abe)⟩ (by decide)) Z Z (by simp only [aYc,aYh];omega) (by simp only [aYc,aYh];omega) (by omega) Z λ DN Ec AG kH Cm xu ant=> ?_;have rP:=Ext.mod pR kH (λ q I=>aYF (by omega) (uC.lt q I).1);refine aJ Z<|rg<| ?_;have yw:=yw.later uh;have awY:∀ q∈J.ab b7,q=Ns→False:=λ q I ag=>by (have:=tX q I;omega)
    have yw:=yw.mod kH (λ I=>awY _ I rfl);refine aa (ax Z (yw.all jz fe))<| ?_;have cP:=(((cP.later (γ eL pO)).mod oU aO).later uh).mod kH (λ I=>vP _ I rfl);refine st Z Z cP Z fe Z Z Z λ L' kY cP=> ?_;have uo:=Ext.mod rP kY bo;refine nl<|b1<|eM Z Z Z<| ?_;have ar:=((((((ar.later l').mod mV aO).later (γ eL pO)).mod oU aO).later uh).mod kH (λ I=>Cv _ I rfl)).mod kY aO;have Cm:=Cm.mod kY (bl λ q I ag=>aYC (xu q I) (λ amn=>by (exact vP q amn ag)) (λ amn=>by omega));have uA:=((((uA.later (γ eL pO)).mod oU (bU VG)).later uh).mod kH ag2).mod kY (bl Yw);have Ep:=((((Ep.later pO).mod oU (bU adJ)).later uh).mod kH (λ q I h=>by exfalso;(have:=zm q I;(have:=tX q h;omega)))).mod kY (bl λ q I ag=>by have:=zm q I;omega);exact eJ ⟨k+1,aje,aqt,ot++ [adg],Ec,AG,Z,Z,uo,ar,cP,Cm,(Ep.down (by omega)),by omega,aHI akO alk ald (by omega) pg,by first | omega | (rw [aX9,aYr];omega),λ q I=> .inr (by have:=zm q I;omega),λ q I ag=>by exfalso;(have:=zm q I;omega),λ q I ag=>by exfalso;(have:=zm q I;omega),λ q κ τ=>by exfalso;(exact aYC (xu q τ) (λ amm=>by (have:=zm q κ;(have:=tX q amm;omega))) (λ amm=>by (have:=adJ q κ;omega))),(fJ xu Cv),(fJ xu vP)⟩
   ·refine bm<|rg<|aa (ax Z (yw.all jz fe))<| ?_;have cP:=(cP.later (γ eL pO)).mod oU aO;refine st Z Z cP Z fe Z Z Z λ Qr mW cP=> ?_;have rR:=Ext.mod nA mW bo;refine nl<|b1<|eM Z Z Z<| ?_;have ar:=((((ar.later l').mod mV aO).later (γ eL pO)).mod oU aO).mod mW aO;have uC:=((((uC.later l').mod mV (bU tX)).later (γ eL pO)).mod oU (bU tX)).mod mW (bl vP);have uA:=((uA.later (γ eL pO)).mod oU (bU VG)).mod mW (bl Yw);have Ep:=((Ep.later pO).mod oU (bU adJ)).mod mW (bl λ q I ag=>by have:=zm q I;omega);exact eJ ⟨k+1,aje,aqt,ot,b7,Cs,Z,Z,rR,ar,cP,uC,(Ep.down (by omega)),by omega,aHG akO alk ald (by omega) pg,by first | omega | (rw [aX9,aYr];omega),λ q I=> .inr (by have:=zm q I;omega),λ q I ag=>by exfalso;(have:=zm q I;omega),λ q I ag=>by exfalso;(have:=zm q I;omega),λ q κ τ=>by exfalso;(have:=zm q κ;(have:=tX q τ;omega)),Cv,vP⟩
 ·have mr:k=l.length:=by omega
  refine dn<|dk<|dG<|dj<|aX<|aw<|aa (ax Z (cP.all jz fe))<|vm Z<|st Z Z ar Z fe Z Z Z λ DQ iI ar=> ?_;have m5:=Ext.mod m4 iI bo;refine aY Z<|cz (.cell Z (ar.all jz fe) (.tmp Z .nil))<| ?_;have uA:=uA.mod iI (bl ag1);have uC:=uC.mod iI (bl Cv);rw [mr,aYS] at pg;exact ⟨ak,lV,b7,Cs,ot,Z,pg,uA,ag3,uC,m5⟩
end
structure a6 where
 b':Int
 bC:List ByteArray
 base:Int
 next:Int
 way:List Int
 bV:List Int
 got:List ByteArray
 held:List Int
 deriving DecidableEq,Inhabited
namespace a6
structure b7 where
 S:Option Addr
 W:Option Addr
 K:Option Addr
 G:Option Addr
 H:Option Addr
 s:Nat
 w:Nat
 k:Nat
 g:Nat
 h:Nat
def cells (a:b7) (L:a6):List Value:= [.int .i64 L.b', .slice a.S L.bC.length a.s, .int .i64 L.base, .int .i64 L.next, .slice a.W L.way.length a.w, .slice a.K L.bV.length a.k, .slice a.G L.got.length a.g, .slice a.H L.held.length a.h]
structure Has (w:World) (a:b7) (L:a6):Prop where
 S:gi.aK 16 w a.S a.s L.bC
 W:bu.aK 8 w a.W a.w L.way
 K:bu.aK 8 w a.K a.k L.bV
 G:gi.aK 16 w a.G a.g L.got
 H:bu.aK 8 w a.H a.h L.held
 nums:ea L.b'∧ea L.base∧ea L.next
theorem Has.keep {w w':World} {a:b7} {L:a6} (h:Has w a L) (x:Ext w w'):Has w' a L:=⟨h.S.keep x,h.W.keep x,h.K.keep x,h.G.keep x,h.H.keep x,h.nums⟩
def sh:hl:=(.cons (.int .i64) (.cons (.slice .str 16) (.cons (.int .i64) (.cons (.int .i64) (.cons (.slice (.int .i64) 8) (.cons (.slice (.int .i64) 8) (.cons (.slice .str 16) (.cons (.slice (.int .i64) 8) .nil))))))))
end a6
structure sU (w:World) (aA:Nat) (a:a6.b7) (L:a6):Prop where
 S:gi.aF 9 16 w aA (J.ab a.S) a.S a.s L.bC
 W:bu.aF 3 8 w aA (J.ab a.W) a.W a.w L.way
 K:bu.aF 3 8 w aA (J.ab a.K) a.K a.k L.bV
 G:gi.aF 9 16 w aA (J.ab a.G) a.G a.g L.got
 H:bu.aF 3 8 w aA (J.ab a.H) a.H a.h L.held
 kb:∀ q∈J.ab a.W,q∈J.ab a.S→False
 jx:∀ q∈J.ab a.K,q∈J.ab a.S→False
 iT:∀ q∈J.ab a.K,q∈J.ab a.W→False
 kO:∀ q∈J.ab a.G,q∈J.ab a.S→False
 j':∀ q∈J.ab a.G,q∈J.ab a.W→False
 jT:∀ q∈J.ab a.G,q∈J.ab a.K→False
 kQ:∀ q∈J.ab a.H,q∈J.ab a.S→False
 ka:∀ q∈J.ab a.H,q∈J.ab a.W→False
 jU:∀ q∈J.ab a.H,q∈J.ab a.K→False
 kP:∀ q∈J.ab a.H,q∈J.ab a.G→False
 nums:ea L.b'∧ea L.base∧ea L.next
def above (aA:Nat) (w:World):List Nat:=(List.range w.heap.size).filter λ q=>decide (aA≤q)
theorem aus {l:List Int} {lo hi:Int}:l.all (λ n=>b9 n lo hi)= !(l.any λ n=> !b9 n lo hi):=by
 induction l with
 | nil=>rfl
 | cons x l bL=>rw [List.all_cons,List.any_cons,bL];cases b9 x lo hi<;>simp
theorem aiA (A B:Option Addr) (c d k_ fw:Nat) (l m:List ByteArray) (w:World) (κ:gi.aK k_ w A c l) (τ:gi.aK fw w B d m):
  Calls prog 19 #[.slice A l.length c, .slice B m.length d] w (λ e w'=>e= .returned (.bool (decide (l=m)))∧Ext w w'):=by
 have hle:=κ.fa;refine ch (n:=26) func19 Z Z Z ?_;refine aw<|aJ Z<|av<|aB Z<|aa (b5 underlying45 Z)<|vm Z<|aa (b5 underlying45 Z)<|cS Z Z<|aC<| ?_;refine eU Z (λ hy=> ?_) (λ hy=> ?_)
 ·refine aw<|aY Z<|bD<|b_ Z Z<| ?_;rw [aYL (λ e=>hy (by rw [e]))];exact ⟨Z,(Ext.cH w)⟩
 ·refine bm<|av<|aB Z<|aa (b5 underlying45 Z)<|vm Z<|aC<|bJ<| ?_;refine eV (λ cp cn aP=>∃ k:Nat,cn= [(0, .slice A l.length c),(1, .slice B m.length d),(12,Φ (l.length:Int)),(13,Φ (k:Int))]∧cp=l.length - k∧Ext w aP∧(k≤l.length)∧(∀ j,j<k→l[j]? =m[j]?)) _ _ ⟨0,Z,Z,(Ext.cH w),by omega,λ j ay=>absurd ay (by omega)⟩ (eO Z Z Z) ?_;rintro Lk JJ l9 ⟨k,rfl,rfl,fb,ak,gC⟩;have hle:=κ.fa;refine aw<|dR Z Z<|aC<|av<| ?_;refine en Z (λ ng=> ?_) (λ ng=> ?_)
  ·obtain ⟨eX,iG⟩:=ic (l:=l) (i:=k) (by omega);obtain ⟨uk,rh⟩:=ic (l:=m) (i:=k) (by omega);refine bm<|av<|bJ<|aB Z<|aJ Z<|av<| ?_;refine cO [(3,0),(7,0)] [0,1,2,3,4,5,6,7,8] ?_;refine a1 Z Z<|a1 Z Z<|aq Z (λ _=>cl k underlying45 E5 Z Z ((κ.keep fb).bT (aV k)) Z (by omega))<|dT Z (λ _ x=>ax Z (J.aK.fh KP ((κ.keep (γ fb x)).cD (aV k)) iG Z HJ))<|a1 Z Z<|a1 Z Z<|aq Z (λ _=>cl k underlying45 E5 Z Z ((τ.keep fb).bT (aV k)) Z (by omega))<|dT Z (λ _ x=>ax Z (J.aK.fh KP ((τ.keep (γ fb x)).cD (aV k)) rh Z HJ))<|aq Z (λ _=>au5 underlying9 Z Z)<|fn λ BI sI=> ?_;have mg:=γ fb sI;refine aX<| ?_;refine du Z (λ jA=> ?_) (λ jA=> ?_)
   ·refine aw<|aY Z<|eb<|bD<|m0<|eb<|bD<|b_ Z Z<| ?_;rw [aYL (λ e=>by rw [e,rh] at iG;injection iG with iG;exact absurd iG.symm (by first | exact UU jA | exact jA))];exact ⟨Z,mg⟩
   ·refine fu<|b1<|eM Z Z Z<| ?_;exact eJ ⟨k+1,Z,Z,mg,by omega,sr gC (by rw [iG,rh,(by first | exact S6 jA | exact jA:eX=uk)])⟩
  ·refine dn<|dk<|dG<|dj<|aX<|aw<|aY Z<|b_ Z Z<| ?_;rw [aYD (S5 (by omega) (by omega) gC)];exact ⟨Z,fb⟩
theorem Uz (n lo hi:Int) (w:World):
  Calls prog 78 #[Φ n,Φ lo,Φ hi] w (λ e w'=>e= .returned (.bool (b9 n lo hi))∧Ext w w'):=by
 refine ch (n:=15) func78 Z Z Z ?_;refine aw<|aJ Z<|aB Z<|vm Z<|aa (jg Z Z)<|vm Z<|ec Z Z<|ec Z Z<|bh Z (λ hc=>ble (gt hc Z) (gt hc Z))<|aa (ei Z Z Z Z)<|aY Z<|b_ Z Z<| ?_;exact ⟨Z,(Ext.cH w)⟩
theorem aFN (n lo hi:Int) (xa EO:Nat) (w:World) (arY:aM w xa [Φ lo] 3 (0,0)) (ux:aM w EO [Φ hi] 3 (0,0)):
  Calls prog 115 #[Φ n, .pointer (bA xa), .pointer (bA EO)] w (λ e w'=>e= .returned (.bool (!b9 n lo hi))∧Ext w w'):=by
 refine ch (n:=10) func115 Z Z Z ?_;refine aw<|aJ Z<|aB Z<|bk Z arY aT Z<|bk Z ux aT Z<|cM Kj Z (Uz n lo hi _) λ cG dS=> ?_;refine aa (dJ Z)<|aY Z<|b_ Z Z<| ?_;exact ⟨Z,dS⟩
theorem aD4 (ef:FuncId) (cs:List Value) (p:Int→Bool) (A:Option Addr) (c:Nat) (l:List Int) (w:World) (ah:bu.aK 8 w A c l) (ll:Enters prog ef) (gq:∀ x∈l,∀ w',Ext w w'→Calls prog ef (([Φ x]:List Value)++cs).toArray w' λ e lx=>e= .returned (.bool (p x))∧Ext w' lx):
  Calls prog 145 #[.slice A l.length c, .func (.func ef) #[] cs.toArray] w (λ e w'=>e= .returned (Φ (gY p l))∧Ext w w'):=by
 have tD:=ah.fa;refine ch (n:=19) func145 Z Z Z ?_;refine aw<|aJ Z<|av<|aB Z<|aa (b5 underlying22 Z)<|vm Z<|aC<|bJ<| ?_;refine eV (λ cp cn aP=>∃ k:Nat,cn= [(0, .slice A l.length c),(1, .func (.func ef) #[] cs.toArray),(7,Φ (l.length:Int)),(8,Φ (k:Int))]∧cp=l.length - k∧Ext w aP∧(k≤l.length)∧(∀ i,i<k→p (l.getD i 0)=false)) _ _ ⟨0,Z,Z,(Ext.cH w),by omega,λ i hi=>by omega⟩ (eO Z Z Z) ?_;rintro Lh JI cG ⟨k,rfl,rfl,de,ak,aN⟩;refine aw<|dR Z Z<|aC<|av<| ?_;refine en Z (λ mv=> ?_) (λ mv=> ?_)
 ·refine bm<|av<|bJ<|aB Z<|aJ Z<|aB Z<|vm Z<|vm Z<|aa (cl k underlying22 dg Z Z ((ah.keep de).bT (aV k)) Z (by omega))<|aa (ax Z (J.aK.fh fY ((ah.keep de).cD (aV k)) (dt (l:=l) (u:=0) (by omega)) Z aT))<|NB ll Z Z Z ((gq (l.getD k 0) (jk (by omega)) _ de).mono ?_);rintro e Je ⟨rfl,rJ⟩;refine cu ?_;have mI:=γ de rJ;refine aC<| ?_;refine du Z (λ jD=> ?_) (λ jD=> ?_)
  ·refine aB Z<|aY Z<|eb<|bD<|m0<|eb<|bD<|b_ Z Z<| ?_;exact ⟨by have e:=O_ (p:=p) (l:=l) (d:=0) (k:=k) (by omega) jD aN;rw [e];rfl,mI⟩
  ·refine fu<|b1<|eM Z Z Z<| ?_;exact eJ ⟨k+1,Z,Z,mI,by omega,sr aN jD⟩
 ·refine dn<|dk<|dG<|dj<|aX<|aw<|aY Z<|b_ Z Z<| ?_;exact ⟨by have e:=O9 (p:=p) (l:=l) (d:=0) (λ i hi=>aN i (by omega));rw [e];rfl,de⟩
theorem aBs (ef:FuncId) (cs:List Value) (p:Int→Bool) (A:Option Addr) (c:Nat) (l:List Int) (w:World) (ah:bu.aK 8 w A c l) (ll:Enters prog ef) (gq:∀ x∈l,∀ w',Ext w w'→Calls prog ef (([Φ x]:List Value)++cs).toArray w' λ e lx=>e= .returned (.bool (p x))∧Ext w' lx):
  Calls prog 109 #[.slice A l.length c, .func (.func ef) #[] cs.toArray] w (λ e w'=>e= .returned (.bool (l.any p))∧Ext w w'):=by
 refine ch (n:=9) func109 Z Z Z ?_;refine aw<|aJ Z<|aB Z<|vm Z<|cM ayP Z (aD4 ef cs p _ _ l _ (ah.keep (Ext.cH w)) ll (λ x hx w' h=>gq x hx w' (γ (Ext.cH w) h))) λ cG dS=> ?_;refine aa (jg Z Z)<|aY Z<|b_ Z Z<| ?_;exact ⟨by rw [K6];rfl,dS⟩
theorem Df (A:Option Addr) (c:Nat) (l:List Int) (lo hi:Int) (w:World) (ah:bu.aK 8 w A c l):
  Calls prog 79 #[.slice A l.length c,Φ lo,Φ hi] w (λ e w'=>e= .returned (.bool (l.all (λ n=>b9 n lo hi)))∧Ext w w'):=by
 refine ch (n:=11) func79 Z Z Z ?_;refine dZ Z Z λ cG bB aR d' ae=> ?_;refine jR Z Z λ eC cJ bt hP ar=> ?_;have bO:=γ aR bt;refine aJ Z<|aB Z<|aa (Ln Z Z)<| ?_;have ae:=ae.later bt;refine cM ayR Z (aBs 115 [.pointer (bA bB), .pointer (bA cJ)] (λ n=> !b9 n lo hi) _ _ l _ (ah.keep bO) ayQ (λ x hx w' h=>aFN x lo hi bB cJ w' (ae.later h) (ar.later h))) λ hG fD=> ?_;have c6:=γ bO fD;refine aa (dJ Z)<|aY Z<|b_ Z Z<| ?_;exact ⟨by rw [aus];rfl,c6⟩
section
theorem asM:ez prog bu 22 3 8:=ez.ki (z:=Φ 0) (k:=1) underlying22 xI rfl rfl (by decide) (λ j u h=>Bw j u h)
structure m7 (w:World) (aA b:Nat) (a:a6.b7) (L:a6):Prop where
 fI:aM w b (a6.cells a L) 79 (0,0)
 own:sU w aA a L
 le:aA≤b
 bn:∀ q∈J.ab a.S,q=b→False
 jw:∀ q∈J.ab a.W,q=b→False
 ia:∀ q∈J.ab a.K,q=b→False
 jd:∀ q∈J.ab a.G,q=b→False
 je:∀ q∈J.ab a.H,q=b→False
def iV (a:a6.b7):List Nat:=J.ab a.S++(J.ab a.W++(J.ab a.K++(J.ab a.G++J.ab a.H)))
theorem abV {a:a6.b7} {q:Nat} (h:q∈iV a):q∈J.ab a.S∨q∈J.ab a.W∨q∈J.ab a.K∨q∈J.ab a.G∨q∈J.ab a.H:=by simpa [iV] using h
theorem Dj {a:a6.b7} {P:Nat→Prop} (hS:∀ q∈J.ab a.S,P q) (bZ:∀ q∈J.ab a.W,P q) (hK:∀ q∈J.ab a.K,P q) (bP:∀ q∈J.ab a.G,P q) (hT:∀ q∈J.ab a.H,P q):∀ q∈iV a,P q:=λ q I=>by
 rcases abV I with h | h | h | h | h
 ·exact hS q h
 ·exact bZ q h
 ·exact hK q h
 ·exact bP q h
 ·exact hT q h
def jG (b:Nat) (a:a6.b7):List Nat:=b::(J.ab a.S++(J.ab a.W++(J.ab a.K++(J.ab a.G++J.ab a.H))))
section
variable {b q:Nat} {a:a6.b7}
theorem Be (h:q∈J.ab a.S):q∈jG b a:=aYm _ (aZJ _ h)
theorem xH (h:q∈J.ab a.W):q∈jG b a:=aYm _ (aY5 _ (aZJ _ h))
theorem uT (h:q∈J.ab a.K):q∈jG b a:=aYm _ (aY5 _ (aY5 _ (aZJ _ h)))
theorem Bc (h:q∈J.ab a.G):q∈jG b a:=aYm _ (aY5 _ (aY5 _ (aY5 _ (aZJ _ h))))
theorem Bd (h:q∈J.ab a.H):q∈jG b a:=aYm _ (aY5 _ (aY5 _ (aY5 _ (aY5 _ h))))
theorem aER (h:q∈jG b a):q=b∨q∈J.ab a.S∨q∈J.ab a.W∨q∈J.ab a.K∨q∈J.ab a.G∨q∈J.ab a.H:=by
 simpa [jG] using h
theorem abM {w:World} {aA:Nat} {L:a6} (h:m7 w aA b a L):∀ q∈jG b a,aA≤q:=λ q I=>by
 have:=h.le;rcases aER I with κ | κ | κ | κ | κ | κ
 ·omega
 ·exact (h.own.S.lt q κ).1
 ·exact (h.own.W.lt q κ).1
 ·exact (h.own.K.lt q κ).1
 ·exact (h.own.G.lt q κ).1
 ·exact (h.own.H.lt q κ).1
end
def iL (l:List Int) (i:Int):Bool:=decide (0≤i) && decide (i<(l.length:Int))
def mC (l:List Int) (i:Int):Int:=if iL l i=true then l.getD i.toNat 0 else 0
def hj (l:List Int) (i:Int) (keep:Bool):List Int:=if iL l i=true∧keep=false then l.take i.toNat++l.drop (i.toNat+1) else l
section
variable {l:List Int} {i:Int} {k:Nat} {keep:Bool}
theorem LO (h:k<l.length):iL l (k:Int)=true:=by unfold iL;simp;omega
theorem apl (h:iL l i=false):mC l i=0:=by unfold mC;rw [h];rfl
theorem Vz (h:iL l i=false):hj l i keep=l:=by unfold hj;rw [h];simp
theorem VA (h:k<l.length):mC l (k:Int)=l.getD k 0:=by unfold mC;rw [aYq (LO h)];rfl
theorem Qe:hj l i true=l:=by unfold hj;simp
theorem Vy (h:k<l.length):hj l (k:Int) false=l.take k++l.drop (k+1):=by unfold hj;rw [aYq ⟨LO h,rfl⟩];rfl
end
theorem ahD (w0:World) (A:Option Addr) (c i j:Nat) (l:List Int) (w:World) (fg:Ext w0 w) (iv:bu.aF 3 8 w w0.heap.size (J.ab A) A c l) (jF:i<j) (ay:j≤l.length):
  Calls prog 116 #[.slice A l.length c,Φ (i:Int),Φ (j:Int)] w (λ e w'=>e= .returned (.slice A (l.take i++l.drop j).length c)∧bu.aF 3 8 w' w0.heap.size (J.ab A) A c (l.take i++l.drop j)∧Mod (J.ab A) w w'):=by
 have zc:=iv.has;have tD:=zc.fa;have aCx:=zc.1;have akt:=iv.1;have abt:=fg.size;have hA:=iv.block (by omega);have aDC:(l.take i).length=i:=by rw [aYa];omega
 have T8:((l.drop j).take (l.length - j)).length=l.length - j:=by rw [aYa,aYs];omega
 refine ch (n:=33) func116 Z Z Z ?_;refine aw<|aJ Z<|aB Z<|vm Z<|vm Z<|vm Z<|aa (b5 underlying22 Z)<|aa (F7 i j l.length underlying22 dg Z Z Z Z Z Z Z (by omega) (by omega) (by omega))<|aC<|av<|aB Z<|vm Z<|aa (beq Z Z)<|aC<| ?_;have hy:((i:Int)== (j:Int))=false:=by simp only [bag];omega
 refine gj (by rw [← hy];rfl)<|bm<|aB Z<|aa (b5 underlying22 Z)<|aJ Z<|av<| ?_;refine cO [(6,3)] [0,1,2,3,4,5,6,7] ?_;refine a1 Z Z<|a1 Z Z<|aq Z (λ _=>LI i (l.take i).length underlying22 dg Z Z Z (by omega) aDC)<|a1 Z Z<|a1 Z Z<|aq Z (λ _=>Vm j underlying22 dg Z Z Z (by omega))<|dE Z Z Z λ l9 aR Q hK=>aut asM J.dQ (J.aF.cut (iv.later aR) J.dQ i (by omega)) hA ((iv.later aR).has.sub j l.length (by omega) (by omega)) (aI1 hA) Z (by rw [T8];rfl) (by omega) (by omega) (aYF abt (by have:=aR.size;omega)) Z λ VY UM Ng=>hK _ _ ?_;have fb:=(Mod.cH (J.ab A) w).trans (Mod.a8 aR);have GL:=fb.md UM (λ q I=> .inl I);refine aq Z (λ _=>ee Z)<|fn λ uf bt=> ?_;have jN:=GL.trans (Mod.a8 bt);refine aX<|aB Z<|vm Z<|aa (b5 underlying22 Z)<|vm Z<|aa (aoE ((l.take i).length+((l.drop j).take (l.length - j)).length) l.length underlying22 dg Z Z Z Z Z (by omega) (by omega))<| ?_;have Ng:=Ng.later bt;refine yU (k:=(l.take i).length+((l.drop j).take (l.length - j)).length) (q:=l.length - ((l.take i).length+((l.drop j).take (l.length - j)).length)) (z:=Φ 0) (m:=1) underlying22 xI Z (by decide) Z (by decide) (λ j u h=>Bw j u h) Ng J.dQ (by rw [aX9];omega) (by omega) (by omega) hA Z λ zS sv as6=> ?_;have m3:=jN.md sv (λ q I=> .inl I);refine aC<|aB Z<|aY Z<|b_ Z Z<| ?_;have hF:=as6;rw [aYp (by rw [aX9];exact aYg _),aYp (l:=l.drop j) (by rw [aYs];exact aYg _)] at hF;exact ⟨by rw [aX9,aYp (l:=l.drop j) (by rw [aYs];exact aYg _)];rfl,hF,m3⟩
theorem aKe (w0:World) (b:Nat) (a:a6.b7) (L:a6) (i:Int) (keep:Bool) (w:World) (fg:Ext w0 w) (ah:m7 w w0.heap.size b a L) (bK:iL L.way i=false):
  Calls prog 81 #[.pointer (some ⟨b,4,none⟩),Φ i, .bool keep] w (λ e w'=>e= .returned (.tuple #[Φ (mC L.way i), .bool (iL L.way i)])∧aM w' b (a6.cells a {L with way:=hj L.way i keep}) 79 (0,0)∧bu.aF 3 8 w' w0.heap.size (J.ab a.W) a.W a.w (hj L.way i keep)∧Mod (b::J.ab a.W) w w'):=by
 have aI:=ah.fI;have Ol:=ah.le;have cZ:=ah.own.S;have ed:=ah.own.W;have dB:=ah.own.K;have ct:=ah.own.G;have c_:=ah.own.H;have amD:∀ q∈J.ab a.W,w0.heap.size≤q:=λ q I=>(ed.lt q I).1;have OU:i<0∨(L.way.length:Int)≤i:=by unfold iL at bK;simp at bK;omega
 refine ch (n:=37) func81 Z Z Z ?_;refine aw<|va Z<|aJ Z<|av<|aB Z<|dR Z Z<|vm Z<|ec Z Z<|ec Z Z<|bh Z (λ hc=>bx (gt hc Z))<|bh Z (λ hc=>ax (gt hc Z) (aI.one c8 Z))<|bh Z (λ hc=>b5 underlying22 (gt hc Z))<|bh Z (λ hc=>jg (gt hc Z) (gt hc Z))<|aa (eW Z Z Z Z)<|aC<| ?_;have hy:((decide (i<0)) || (decide ((L.way.length:Int)≤i)))=true:=by first | (simp only [aYZ,aYB];omega)
 refine eT (by rw [← hy];rfl)<|aw<|va Z<|aY Z<|bD<|f_ Z Z Z<| ?_;exact ⟨by rw [apl bK,bK];rfl,by rw [Vz bK];exact aI,by rw [Vz bK];exact ed,(Mod.cH (b::J.ab a.W) w)⟩
theorem aKd (w0:World) (b:Nat) (a:a6.b7) (L:a6) (k:Nat) (keep:Bool) (w:World) (fg:Ext w0 w) (ah:m7 w w0.heap.size b a L) (ak:k<L.way.length):
  Calls prog 81 #[.pointer (some ⟨b,4,none⟩),Φ (k:Int), .bool keep] w (λ e w'=>e= .returned (.tuple #[Φ (mC L.way (k:Int)), .bool (iL L.way (k:Int))])∧aM w' b (a6.cells a {L with way:=hj L.way (k:Int) keep}) 79 (0,0)∧bu.aF 3 8 w' w0.heap.size (J.ab a.W) a.W a.w (hj L.way (k:Int) keep)∧Mod (b::J.ab a.W) w w'):=by
 have aI:=ah.fI;have Ol:=ah.le;have cZ:=ah.own.S;have ed:=ah.own.W;have dB:=ah.own.K;have ct:=ah.own.G;have c_:=ah.own.H;have amD:∀ q∈J.ab a.W,w0.heap.size≤q:=λ q I=>(ed.lt q I).1;have Zg:=ed.has.fa;have avt:=ed.1;have aaV:∀ q∈b::J.ab a.W,w0.heap.size≤q:=λ q I=>(aYk.1 I).elim (λ e=>by omega) (amD q);refine ch (n:=37) func81 Z Z Z ?_;refine aw<|va Z<|aJ Z<|av<|aB Z<|dR Z Z<|vm Z<|ec Z Z<|ec Z Z<|bh Z (λ hc=>bx (gt hc Z))<|bh Z (λ hc=>ax (gt hc Z) (aI.one c8 Z))<|bh Z (λ hc=>b5 underlying22 (gt hc Z))<|bh Z (λ hc=>jg (gt hc Z) (gt hc Z))<|aa (eW Z Z Z Z)<|aC<| ?_;have hy:((decide ((k:Int)<0)) || (decide ((L.way.length:Int)≤(k:Int))))=false:=by simp only [aYM,aYI];omega
 refine gj (by rw [← hy];rfl)<|bm<|aB Z<|aa (bx Z)<|bk Z aI c8 Z<|vm Z<|aa (cl k underlying22 dg Z Z (ed.has.bT (aV k)) Z (by omega))<|aa (ax Z (J.aK.fh fY (ed.has.cD (aV k)) (dt (l:=L.way) (u:=0) (by omega)) Z aT))<|aJ Z<|av<|aB Z<|aa (dJ Z)<|aC<| ?_;refine du Z (λ CW=> ?_) (λ CW=> ?_)
 ·obtain rfl:keep=false:=by simpa using CW
  refine rg<|vm Z<|vm Z<|aa (bx Z)<|bk Z aI c8 Z<|vm Z<|vm Z<|gx Z Z<|ca aik Z Z ((ahD w0 _ _ k (k+1) _ _ (Ext.mod fg (Mod.cH (b::J.ab a.W) w) aaV) ed (by omega) (by omega)).mono ?_);rintro e VZ ⟨rfl,Hc,Bl⟩;refine cu ?_;have vx:=(Mod.cH (b::J.ab a.W) w).md Bl (λ q I=> .inl (aYm _ I));refine aa (bx Z)<| ?_;have aI:=aI.mod Bl (λ I=>ah.jw _ I rfl);refine dU Z Z aI Z nH Z Z λ BI Ll aI=> ?_;have mg:=vx.md Ll lr;refine aC<|aB Z<|va Z<|aY Z<|f_ Z Z Z<| ?_;have Hc:=Hc.mod Ll (bl ah.jw);exact ⟨by rw [VA ak,LO ak];rfl,by rw [Vy ak];exact aI,by rw [Vy ak];exact Hc,mg⟩
 ·obtain rfl:keep=true:=by simpa using CW
  refine bm<|aB Z<|va Z<|aY Z<|f_ Z Z Z<| ?_;exact ⟨by rw [VA ak,LO ak];rfl,by rw [Qe];exact aI,by rw [Qe];exact ed,(Mod.cH (b::J.ab a.W) w)⟩
theorem adC (w0:World) (b:Nat) (a:a6.b7) (L:a6) (i:Int) (keep:Bool) (w:World) (fg:Ext w0 w) (ah:m7 w w0.heap.size b a L):Calls prog 81 #[.pointer (some ⟨b,4,none⟩),Φ i, .bool keep] w (λ e w'=>e= .returned (.tuple #[Φ (mC L.way i), .bool (iL L.way i)])∧aM w' b (a6.cells a {L with way:=hj L.way i keep}) 79 (0,0)∧bu.aF 3 8 w' w0.heap.size (J.ab a.W) a.W a.w (hj L.way i keep)∧Mod (b::J.ab a.W) w w'):=by
 cases bK:iL L.way i with
 | false=>have:=aKe w0 b a L i keep w fg ah bK;rwa [bK] at this
 | true =>
  obtain ⟨k,rfl⟩:∃ k:Nat,i=(k:Int):=⟨i.toNat,by unfold iL at bK;simp at bK;omega⟩;have ak:k<L.way.length:=by unfold iL at bK;simp at bK;omega
  have:=aKd w0 b a L k keep w fg ah ak;rwa [bK] at this
theorem aKc (w0:World) (b:Nat) (a:a6.b7) (L:a6) (i:Int) (keep:Bool) (w:World) (fg:Ext w0 w) (ah:m7 w w0.heap.size b a L) (bK:iL L.bV i=false):
  Calls prog 81 #[.pointer (some ⟨b,5,none⟩),Φ i, .bool keep] w (λ e w'=>e= .returned (.tuple #[Φ (mC L.bV i), .bool (iL L.bV i)])∧aM w' b (a6.cells a {L with bV:=hj L.bV i keep}) 79 (0,0)∧bu.aF 3 8 w' w0.heap.size (J.ab a.K) a.K a.k (hj L.bV i keep)∧Mod (b::J.ab a.K) w w'):=by
 have aI:=ah.fI;have Ol:=ah.le;have cZ:=ah.own.S;have ed:=ah.own.W;have dB:=ah.own.K;have ct:=ah.own.G;have c_:=ah.own.H;have amw:∀ q∈J.ab a.K,w0.heap.size≤q:=λ q I=>(dB.lt q I).1;have OU:i<0∨(L.bV.length:Int)≤i:=by unfold iL at bK;simp at bK;omega
 refine ch (n:=37) func81 Z Z Z ?_;refine aw<|va Z<|aJ Z<|av<|aB Z<|dR Z Z<|vm Z<|ec Z Z<|ec Z Z<|bh Z (λ hc=>bx (gt hc Z))<|bh Z (λ hc=>ax (gt hc Z) (aI.one c8 Z))<|bh Z (λ hc=>b5 underlying22 (gt hc Z))<|bh Z (λ hc=>jg (gt hc Z) (gt hc Z))<|aa (eW Z Z Z Z)<|aC<| ?_;have hy:((decide (i<0)) || (decide ((L.bV.length:Int)≤i)))=true:=by first | (simp only [aYZ,aYB];omega)
 refine eT (by rw [← hy];rfl)<|aw<|va Z<|aY Z<|bD<|f_ Z Z Z<| ?_;exact ⟨by rw [apl bK,bK];rfl,by rw [Vz bK];exact aI,by rw [Vz bK];exact dB,(Mod.cH (b::J.ab a.K) w)⟩
theorem aKb (w0:World) (b:Nat) (a:a6.b7) (L:a6) (k:Nat) (keep:Bool) (w:World) (fg:Ext w0 w) (ah:m7 w w0.heap.size b a L) (ak:k<L.bV.length):
  Calls prog 81 #[.pointer (some ⟨b,5,none⟩),Φ (k:Int), .bool keep] w (λ e w'=>e= .returned (.tuple #[Φ (mC L.bV (k:Int)), .bool (iL L.bV (k:Int))])∧aM w' b (a6.cells a {L with bV:=hj L.bV (k:Int) keep}) 79 (0,0)∧bu.aF 3 8 w' w0.heap.size (J.ab a.K) a.K a.k (hj L.bV (k:Int) keep)∧Mod (b::J.ab a.K) w w'):=by
 have aI:=ah.fI;have Ol:=ah.le;have cZ:=ah.own.S;have ed:=ah.own.W;have dB:=ah.own.K;have ct:=ah.own.G;have c_:=ah.own.H;have amw:∀ q∈J.ab a.K,w0.heap.size≤q:=λ q I=>(dB.lt q I).1;have azt:=dB.has.fa;have avq:=dB.1;have aaV:∀ q∈b::J.ab a.K,w0.heap.size≤q:=λ q I=>(aYk.1 I).elim (λ e=>by omega) (amw q);refine ch (n:=37) func81 Z Z Z ?_;refine aw<|va Z<|aJ Z<|av<|aB Z<|dR Z Z<|vm Z<|ec Z Z<|ec Z Z<|bh Z (λ hc=>bx (gt hc Z))<|bh Z (λ hc=>ax (gt hc Z) (aI.one c8 Z))<|bh Z (λ hc=>b5 underlying22 (gt hc Z))<|bh Z (λ hc=>jg (gt hc Z) (gt hc Z))<|aa (eW Z Z Z Z)<|aC<| ?_;have hy:((decide ((k:Int)<0)) || (decide ((L.bV.length:Int)≤(k:Int))))=false:=by simp only [aYM,aYI];omega
 refine gj (by rw [← hy];rfl)<|bm<|aB Z<|aa (bx Z)<|bk Z aI c8 Z<|vm Z<|aa (cl k underlying22 dg Z Z (dB.has.bT (aV k)) Z (by omega))<|aa (ax Z (J.aK.fh fY (dB.has.cD (aV k)) (dt (l:=L.bV) (u:=0) (by omega)) Z aT))<|aJ Z<|av<|aB Z<|aa (dJ Z)<|aC<| ?_;refine du Z (λ CW=> ?_) (λ CW=> ?_)
 ·obtain rfl:keep=false:=by simpa using CW
  refine rg<|vm Z<|vm Z<|aa (bx Z)<|bk Z aI c8 Z<|vm Z<|vm Z<|gx Z Z<|ca aik Z Z ((ahD w0 _ _ k (k+1) _ _ (Ext.mod fg (Mod.cH (b::J.ab a.K) w) aaV) dB (by omega) (by omega)).mono ?_);rintro e VZ ⟨rfl,Hc,Bl⟩;refine cu ?_;have vx:=(Mod.cH (b::J.ab a.K) w).md Bl (λ q I=> .inl (aYm _ I));refine aa (bx Z)<| ?_;have aI:=aI.mod Bl (λ I=>ah.ia _ I rfl);refine dU Z Z aI Z nH Z Z λ BI Ll aI=> ?_;have mg:=vx.md Ll lr;refine aC<|aB Z<|va Z<|aY Z<|f_ Z Z Z<| ?_;have Hc:=Hc.mod Ll (bl ah.ia);exact ⟨by rw [VA ak,LO ak];rfl,by rw [Vy ak];exact aI,by rw [Vy ak];exact Hc,mg⟩
 ·obtain rfl:keep=true:=by simpa using CW
  refine bm<|aB Z<|va Z<|aY Z<|f_ Z Z Z<| ?_;exact ⟨by rw [VA ak,LO ak];rfl,by rw [Qe];exact aI,by rw [Qe];exact dB,(Mod.cH (b::J.ab a.K) w)⟩
theorem api (w0:World) (b:Nat) (a:a6.b7) (L:a6) (i:Int) (keep:Bool) (w:World) (fg:Ext w0 w) (ah:m7 w w0.heap.size b a L):Calls prog 81 #[.pointer (some ⟨b,5,none⟩),Φ i, .bool keep] w (λ e w'=>e= .returned (.tuple #[Φ (mC L.bV i), .bool (iL L.bV i)])∧aM w' b (a6.cells a {L with bV:=hj L.bV i keep}) 79 (0,0)∧bu.aF 3 8 w' w0.heap.size (J.ab a.K) a.K a.k (hj L.bV i keep)∧Mod (b::J.ab a.K) w w'):=by
 cases bK:iL L.bV i with
 | false=>have:=aKc w0 b a L i keep w fg ah bK;rwa [bK] at this
 | true =>
  obtain ⟨k,rfl⟩:∃ k:Nat,i=(k:Int):=⟨i.toNat,by unfold iL at bK;simp at bK;omega⟩;have ak:k<L.bV.length:=by unfold iL at bK;simp at bK;omega
  have:=aKb w0 b a L k keep w fg ah ak;rwa [bK] at this
end
end Go.Proofs.YtmeeljmapailnaaGreat
