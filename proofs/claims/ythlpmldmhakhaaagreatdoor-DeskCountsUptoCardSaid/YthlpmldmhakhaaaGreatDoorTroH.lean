import Derived.Test.YthlpmldmhakhaaaGreatDoorGooP
set_option linter.unusedVariables false
set_option linter.unusedSimpArgs false
set_option maxRecDepth 100000
set_option maxHeartbeats 4000000
open Go.RowKit
namespace Go.Proofs.YthlpmldmhakhaaaGreatDoor
open Tryz
abbrev aO3:=@List.setIfInBounds_toArray
abbrev aQR:=@Go.wpQuiet_nil
abbrev aRb:=@Nat.le_of_lt
abbrev aRz:=@Go.World.cell?_of_block
section
variable {a b:ai} {f:av}
theorem ave (h: -1000≤a.x∧a.x≤1000∧ -1000≤a.y∧a.y≤1000) (τ: -1000≤b.x∧b.x≤1000∧ -1000≤b.y∧b.y≤1000):1≤(hV a b).length∧(hV a b).length≤2001∧(hV a b).length=(far a b).toNat+1:=by
 have aq:=iG (b.x - a.x);have bb:=iG (b.y - a.y);unfold hV;rw [Eo];unfold far;omega
def av.clear (f:av) (c:ai):Bool:= !(f.mb c == 1 || f.mb c == 2)
def sj (f:av) (a b:ai):Bool:=decide ((hV a b).length<3) || (((hV a b).drop 1).take ((hV a b).length - 1 - 1)).all f.clear
theorem alw (h:(hV a b).length<3):sj f a b=true:=by unfold sj;rw [aNp h];rfl
theorem aly (h:∀ i,i<(((hV a b).drop 1).take ((hV a b).length - 1 - 1)).length→f.clear ((((hV a b).drop 1).take ((hV a b).length - 1 - 1)).getD i default)=true):sj f a b=true:=by
 unfold sj;rw [aNG];refine .inr (aNJ.2 λ x hx=> ?_);obtain ⟨i,ak,rfl⟩:=aOO hx;have:=h i ak
 rwa [aM0,aM3 ak] at this
theorem alx {k:Nat} (aj:k<(((hV a b).drop 1).take ((hV a b).length - 1 - 1)).length) (h:f.clear ((((hV a b).drop 1).take ((hV a b).length - 1 - 1)).getD k default)=false):sj f a b=false:=by
 unfold sj;have aq:¬ (hV a b).length<3:=by rw [aM9,aNE] at aj;omega
 rw [aNu aq,aPP];rw [aPL];refine ⟨_,aOg aj, ?_⟩;rw [aM0,aM3 aj] at h;simpa using h
theorem Yh {c:ai} (h:f.cH c=0):0≤c.x∧c.x<40∧0≤c.y∧c.y<40:=by
 have hc:f.a7=0:=by
  cases hd:decide (f.a7=0) with
  | true=>simpa using hd
  | false=>rw [(av.Mu (by simpa using hd)).1] at h;exact h
 have ak:=Is hc h;unfold av.dV at ak;rw [aNa] at ak;have κ:=jw ak.1;have τ:=jw ak.2;unfold av.a7 at hc;split at hc
 ·rename_i hw
  rw [aNa] at hw;have aq:=jw hw.1;have bb:=jw hw.2;omega
 ·omega
def rT (f:av) (a b:ai):Int:=if f.cH a≠0 then f.cH a else f.cH b
def Cm (f:av) (a b:ai):Bool:=if rT f a b≠0 then false else sj f a b || sj f b a
def Eu (f:av) (a b:ai):Value:= .tuple #[.bool (Cm f a b),γ (rT f a b)]
theorem azm (h:¬ f.cH a=0):Eu f a b= .tuple #[.bool false,γ (f.cH a)]:=by
 have e:rT f a b=f.cH a:=by unfold rT;rw [aNd h]
 unfold Eu Cm;rw [e,aNd h]
theorem azn (aC:f.cH a=0) (h:¬ f.cH b=0):Eu f a b= .tuple #[.bool false,γ (f.cH b)]:=by
 have e:rT f a b=f.cH b:=by unfold rT;rw [aM4 (by simpa using aC)]
 unfold Eu Cm;rw [e,aNd h]
theorem azo (aC:f.cH a=0) (h:f.cH b=0):Eu f a b= .tuple #[.bool (sj f a b || sj f b a),γ 0]:=by
 have e:rT f a b=0:=by unfold rT;rw [aM4 (by simpa using aC)];exact h
 unfold Eu Cm;rw [e,aM4 (by simp)]
theorem Mz (f:av) (a b:ai) (A:Option Addr) (c:Nat) (w:World) (bL:bz.aQ 8 w A c f.places) (h: -1000≤a.x∧a.x≤1000∧ -1000≤a.y∧a.y≤1000) (τ: -1000≤b.x∧b.x≤1000∧ -1000≤b.y∧b.y≤1000):
  Calls prog 127 #[.agg #[γ f.wide,γ f.high, .slice A f.places.length c], .agg #[γ a.x,γ a.y], .agg #[γ b.x,γ b.y]] w (λ e w'=>e= .returned (.bool (sj f a b))∧Ext w w'):=by
 refine cx (n:=45) func127 Z Z Z ?_;refine fa Z Z λ dk bx bm fQ ag=> ?_;refine jn Z Z λ fT dJ bD j' aG=> ?_;have b7:=J bm bD;refine jn Z Z λ hX iW b4 rD bJ=> ?_;have cY:=J b7 b4;refine aT Z<|aF<| ?_;have aG:=aG.later b4;refine aa (aB Z (aG.all b2 bs))<|aa (aB Z (bJ.all b2 bs))<|ca apl Z Z ((am0 a b _ (by omega) (by omega)).mono ?_);rintro e y5 ⟨HC,Rn,rfl,zB,dT⟩;refine cF ?_;have lA:=J cY dT;have aGz:=ave (a:=a) (b:=b) (by omega) (by omega);refine vm Z<|b0 Z Z<|b0 Z Z<|va Z<|aT Z<|aI<|aK Z<|aa (dr underlying49 Z)<|fB Z Z<|aJ<| ?_;refine fH Z (λ S2=> ?_) (λ S2=> ?_)
 ·refine aF<|bH Z<|cU<|cZ Z Z<| ?_;exact ⟨by rw [alw (by omega)];rfl,lA⟩
 ·refine bE<|aI<|aK Z<|vm Z<|aa (dr underlying49 Z)<|aa (iM Z Z fP)<|aa (ay1 1 ((hV a b).length - 1) underlying49 bs Z Z Z Z (by omega) (by omega) (by have:=zB.has.1;omega))<|aa (dr underlying49 Z)<|vm Z<|aJ<|bT<| ?_;have ag:=ag.later (J bD (J b4 dT));refine gi (λ cJ cu aV=>∃ k:Nat,cu= [(3, .pointer (a_ bx)),(26, .slice (ez HC Rn 1 2) ((hV a b).length - 1 - 1) (Rn - 1)),(27,γ ((((hV a b).length - 1 - 1:Nat):Int))),(28,γ (k:Int))]∧cJ=(hV a b).length - 1 - 1 - k∧Ext w aV∧aO aV bx [γ f.wide,γ f.high, .slice A f.places.length c] 48 (0,0)∧ai.rep.aM 98 16 aV hX.heap.size (Φ.ab HC) HC Rn (hV a b)∧(k≤(hV a b).length - 1 - 1)∧(∀ i,i<k→f.clear ((((hV a b).drop 1).take ((hV a b).length - 1 - 1)).getD i default)=true)) _ _ ⟨0,Z,Z,lA,ag,zB,by omega,λ i ak=>by omega⟩ (eS Z Z Z) ?_;rintro Au aDI AP ⟨k,rfl,rfl,nw,ag,zB,aj,aU⟩;have ax9:=ag.lt;have aAw:=bZ zB.lt;refine aF<|fB Z Z<|aJ<|aI<| ?_;refine fH Z (λ NS=> ?_) (λ NS=> ?_)
  ·refine bE<|aI<|bT<|aF<|aa (bX k underlying49 bs Z Z ((zB.has.sub 1 ((hV a b).length - 1) (by omega) (by omega)).bw (aZ k (by rw [aM9,aNE];omega))) Z (by omega))<|aa (aB Z (Φ.aQ.jJ wh ((zB.has.sub 1 ((hV a b).length - 1) (by omega) (by omega)).cg (aZ k (by rw [aM9,aNE];omega))) (cj (l:=((hV a b).drop 1).take ((hV a b).length - 1 - 1)) (u:=default) (by rw [aM9,aNE];omega)) b2 bs))<|dn sC Z λ Cu Yr jE auo tl=> ?_;have l6:=J nw jE;refine c9 Z Z tl Z bs Z Z λ ED Kg tl=> ?_;have o7:=Ext.mod l6 Kg bF;refine aJ<|aF<| ?_;have ag:=(ag.later jE).mod Kg aY;refine aa (aB Z (ag.all hb gD))<|aa (aB Z (tl.all b2 bs))<|c0 pg Z (p_ f (((((hV a b).drop 1).take ((hV a b).length - 1 - 1)).getD k default)) _ _ _ (bL.keep o7)) λ xu dm=> ?_;have k5:=J o7 dm;refine vm Z<|b0 Z Z<|b0 Z Z<|va Z<|aT Z<|aK Z<|aa (beq Z Z)<|vm Z<|fS Z Z<|b9 Z (λ hc=>beq (gt hc Z) Z)<|aa (gv Z Z Z Z)<|aJ<| ?_;refine c1 Z (λ tQ=> ?_) (λ tQ=> ?_)
   ·refine aF<|bH Z<|hq<|cU<|Ey<|hq<|cU<|cZ Z Z<| ?_;exact ⟨by rw [alx (k:=k) (by rw [aM9,aNE];omega) (by unfold av.clear;rw [tQ];rfl)];rfl,k5⟩
   ·refine fZ<|cl<|eR Z Z Z<| ?_;have ag:=ag.later dm;have zB:=((zB.later jE).mod Kg (bl aAw)).later dm;exact eX ⟨k+1,Z,Z,k5,ag,zB,by omega,D3 aU (by unfold av.clear;rw [tQ];rfl)⟩
  ·refine ej<|ei<|eU<|eh<|br<|aF<|bH Z<|cZ Z Z<| ?_;exact ⟨by rw [aly λ i ak=>aU i (by rw [aM9,aNE] at ak;omega)];rfl,nw⟩
theorem azl (f:av) (a b:ai) (A:Option Addr) (c:Nat) (w:World) (bL:bz.aQ 8 w A c f.places):
  Calls prog 155 #[.agg #[γ f.wide,γ f.high, .slice A f.places.length c], .agg #[γ a.x,γ a.y], .agg #[γ b.x,γ b.y]] w (λ e w'=>e= .returned (Eu f a b)∧Ext w w'):=by
 refine cx (n:=38) func155 Z Z Z ?_;refine fa Z Z λ dk bx bm fQ ag=> ?_;have jd:=ag.lt;refine jn Z Z λ fT dJ bD j' aG=> ?_;have b7:=J bm bD;have qG:=aG.lt;refine jn Z Z λ hX iW b4 rD bJ=> ?_;have cY:=J b7 b4;have yV:=bJ.lt;refine va Z<|aT Z<|aI<|aF<| ?_;have aG:=aG.later b4;refine aa (aB Z (aG.all b2 bs))<|aa (aB Z (bJ.all b2 bs))<|aa (v:= .agg #[γ a.x,γ a.y,γ b.x,γ b.y]) (hC Z)<|vm Z<|aJ<|bT<|J_ 3<|mm<|aF<|fB Z Z<|aJ<|aI<|gZ Z<|bE<|aI<|bT<|aF<|aa (v:= .agg #[γ a.x,γ a.y]) (On Z Z (by kernel_rfl))<|dn sC Z λ qO Yo iH ad7 xN=> ?_;have gU:=J cY iH;have U0:=xN.lt;refine c9 Z Z xN Z bs Z Z λ AP Au xN=> ?_;have:=Au.size;have nw:=Ext.mod gU Au bF;refine aJ<|aF<| ?_;have ag:=(ag.later (J bD (J b4 iH))).mod Au aY;refine aa (aB Z (ag.all hb gD))<|aa (aB Z (xN.all b2 bs))<|c0 pg Z (p_ f a _ _ _ (bL.keep nw)) λ V2 lZ=> ?_;have:=lZ.size;have A6:=J nw lZ;refine vm Z<|b0 Z Z<|b0 Z Z<|va Z<|aT Z<|aK Z<|gN Z Z<|aJ<| ?_;refine oq Z (λ S8=> ?_) (λ S8=> ?_)
 ·refine aK Z<|va Z<|bH Z<|hq<|cU<|Ey<|hq<|cU<|ht Z Z Z<| ?_;exact ⟨by rw [azm S8];rfl,A6⟩
 ·have aGS:=Yh S8;refine fZ<|cl<|br<|rg<|aa (q_ (r:=1) Z Z (by decide) (by decide))<|vm Z<|nl<|rN<|mm<|aF<|fB Z Z<|aJ<|aI<|gZ Z<|bE<|aI<|bT<|aF<|aa (v:= .agg #[γ b.x,γ b.y]) (On Z Z (by kernel_rfl))<|dn sC Z λ xr alk jF aup E6=> ?_;have jW:=J A6 jF;refine c9 Z Z E6 Z bs Z Z λ V5 Kh E6=> ?_;have td:=Ext.mod jW Kh bF;refine aJ<|aF<| ?_;have ag:=(ag.later (J lZ jF)).mod Kh aY;refine aa (aB Z (ag.all hb gD))<|aa (aB Z (E6.all b2 bs))<|c0 pg Z (p_ f b _ _ _ (bL.keep td)) λ PF uU=> ?_;have th:=J td uU;refine vm Z<|b0 Z Z<|b0 Z Z<|va Z<|aT Z<|aK Z<|gN Z Z<|aJ<| ?_;refine oq Z (λ j7=> ?_) (λ j7=> ?_)
  ·refine aK Z<|va Z<|bH Z<|hq<|cU<|Ey<|hq<|cU<|ht Z Z Z<| ?_;exact ⟨by rw [azn ‹_› j7];rfl,th⟩
  ·have aGT:=Yh j7;refine fZ<|cl<|br<|rg<|aa (q_ (r:=2) Z Z (by decide) (by decide))<|vm Z<|nl<|rN<|mm<|aF<|fB Z Z<|aJ<|aI<|hP Z<|ej<|ei<|eU<|eh<|br<|aF<| ?_;have ag:=ag.later uU;refine aa (aB Z (ag.all hb gD))<| ?_;have aG:=((((aG.later iH).mod Au aY).later (J lZ jF)).mod Kh aY).later uU;refine aa (aB Z (aG.all b2 bs))<| ?_;have bJ:=((((bJ.later iH).mod Au aY).later (J lZ jF)).mod Kh aY).later uU;refine aa (aB Z (bJ.all b2 bs))<|c0 Nd Z (Mz f a b _ _ _ (bL.keep th) (by omega) (by omega)) λ EF A0=> ?_;have l7:=J th A0;refine vm Z<| ?_;have ag:=ag.later A0;refine b9 Z (λ hc=>aB Z (ag.all hb gD))<| ?_;have bJ:=bJ.later A0;refine b9 Z (λ hc=>aB Z (bJ.all b2 bs))<| ?_;have aG:=aG.later A0;refine b9 Z (λ hc=>aB Z (aG.all b2 bs))<|s0 Z Nd (λ hc=>fO (gt hc Z) (fO (gt hc Z) (fO (gt hc Z) Z))) (λ hc=>Mz f b a _ _ _ (bL.keep l7) (by omega) (by omega)) λ ahq Lj=> ?_;have Hw:=J l7 Lj;refine aa (gv Z Z Z Z)<|va Z<|bH Z<|ht Z Z Z<| ?_;exact ⟨by rw [azo ‹_› ‹_›];rfl,Hw⟩
end
structure eN where
 bf:Int
 kb:Int
 deriving DecidableEq,Inhabited
namespace eN
def cells (a:eN):List Value:= [.int .i64 (a.bf), .int .i64 (a.kb)]
def ok (a:eN):Prop:=(Lit.int .i64 a.bf).wf=true∧(Lit.int .i64 a.kb).wf=true
def raw (j:Nat) (u:Value):Prop:=match j with
 | 0=>∃ n:Int,u= .int .i64 n
 | 1=>∃ n:Int,u= .int .i64 n
 | _=>True
theorem sv (a:eN):∀ (j:Nat) u,a.cells[j]? =some u→raw j u:=by
 intro j u hu
 match j,hu with
 | 0,hu=>exact ⟨_,(aNf hu).symm⟩
 | 1,hu=>exact ⟨_,(aNf hu).symm⟩
 | j+2,hu=>exact trivial
theorem su (a:eN):∀ u∈a.cells,u.oneCell'=true:=by
 intro u hu;unfold cells at hu;simp only [aNg,aOx,aPi] at hu;rcases hu with rfl | rfl<;>rfl
def rep:Φ eN:=Φ.flat 2 cells ok raw (fun _=>rfl) su sv
def zero:Value:= .agg #[.int .i64 0, .int .i64 0]
theorem k6:∀ (j:Nat) u,zero.cells[j]? =some u→rep.raw j u:=by
 intro j u hu;have hu:(#[(.int .i64 0:Value),(.int .i64 0:Value)]:Array Value)[j]? =some u:=hu
 match j,hu with
 | 0,hu=>exact ⟨_,(aNf hu).symm⟩
 | 1,hu=>exact ⟨_,(aNf hu).symm⟩
 | j+2,hu=>cases hu
theorem info:(prog.info? 210).map (fun i=>(i.zero,i.size,i.bytes))=some (some zero,2,16):=by kernel_rfl
def sh:hB:=(.cons (.int .i64) (.cons (.int .i64) .nil))
end eN
theorem arB {w:World} {cs:List Value} {a:eN} (h:eN.rep.has w cs a):cs=a.cells:=aPs (show cs=a.cells∧a.ok from h)
theorem axL (a:ae.cW) (W:ae) (w:World) (b8:ae.Has w a W) (aC:W.field.a7=0) (fx:W.bj.length≤8):
    Calls prog 106 #[.agg (ae.cells a W).toArray] w λ e w'=>e= .returned (.bool W.ng)∧Below w.heap.size w w':=by
  obtain ⟨eH,gb,gd,fv,eP,eK,fj,fX,fz,eW⟩:=a;show Calls _ _ #[.agg #[.int .i64 W.field.wide, .int .i64 W.field.high, .slice eH W.field.places.length eK, .slice gb W.bj.length fj, .slice gd W.bh.length fX, .slice fv W.bY.length fz, .slice eP W.ah.length eW, .int .i64 W.next, .int .i64 W.now]] _ _;obtain ⟨gX,jI⟩:∃ n,Hid (W.bj.length=n):=⟨_,aNc rfl⟩;obtain ⟨ns,zt⟩:∃ n,Hid (W.bh.length=n):=⟨_,aNc rfl⟩;have fx:gX≤8:=by rw [← jI.out];exact fx
  have cT:=kB w (.cells (ae.cells ⟨eH,gb,gd,fv,eP,eK,fj,fX,fz,eW⟩ W).toArray 52);have kR:=aNc (aO.new w (ae.cells ⟨eH,gb,gd,fv,eP,eK,fj,fX,fz,eW⟩ W) 52 (0,0));have q2:=aNc (b8.keep cT);have kf:=aNc aC;obtain ⟨w0,iK⟩:∃ w0,Hid (w.alloc (.cells (ae.cells ⟨eH,gb,gd,fv,eP,eK,fj,fX,fz,eW⟩ W).toArray 52)=w0):=⟨_,aNc rfl⟩;rw [iK.out] at cT q2;have kR:Hid (aO w0 w.heap.size (ae.cells ⟨eH,gb,gd,fv,eP,eK,fj,fX,fz,eW⟩ W) 52 (0,0)):=by rw [← iK.out];exact kR
  have og:Hid (w.alloc (.cells #[.int .i64 W.field.wide, .int .i64 W.field.high, .slice eH W.field.places.length eK, .slice gb gX fj, .slice gd ns fX, .slice fv W.bY.length fz, .slice eP W.ah.length eW, .int .i64 W.next, .int .i64 W.now] 52)=w0):=by rw [← iK.out,← jI.out,← zt.out];rfl
  obtain ⟨bU,bd,bM,c3,c4,c5,dy,dX,dY⟩:=ae.rX kR.out;rw [jI.out] at c3;rw [zt.out] at c4;clear b8 aC;by_cases hlen:ns=gX
  · subst hlen
    have Bk:Hid (∀ j,j<0→W.xc j=true):=aNc λ j aw=>absurd aw (by omega);go_enter func106,ntmps106;rw [jI.out,zt.out];go_wp2_with fail
    rw [og.out];go_loopw [3,4,15] (λ _ _ gM wr=>∃ k:Nat,k≤ns∧gM= .int .i64 (k:Int)∧Hid (∀ j,j<k→W.xc j=true)∧Below w0.heap.size w0 wr) (λ _ _ gM _=>ns - (intOf gM).toNat)
    case atStart=>exact ⟨0,aNQ _,rfl,Bk,aNH _ _⟩
    case round =>
      clear Bk bU bd bM c3 c4 c5 dy dX dY;obtain ⟨k,aj,rfl,ji,af⟩:=hrel;by_cases bB:k<ns
      · obtain ⟨p,hp⟩:=jq (l:=W.bj) (i:=k) (by rw [jI.out];exact bB)
        obtain ⟨st,hs⟩:=jq (l:=W.bh) (i:=k) (by rw [zt.out];exact bB);have NP:=q2.out.keep af;have aa2:=kR.out.later af;have NO:ai.rep.aQ 16 wr gb fj W.bj:=NP.B;have Jh:bz.aQ 8 wr eH eK W.field.places:=NP.P;have aa9:bz.aQ 8 wr gd fX W.bh:=NP.S;have abD:(ns:Int)≤(fj:Int):=by have:=NO.1;rw [jI.out] at this;omega
        obtain ⟨b,o,rfl,jM⟩:=ai.at_ NO (by rw [jI.out];omega);obtain ⟨O2,nX⟩:=jM k p hp;obtain ⟨b_,os,rfl,N0⟩:=Es aa9 (by rw [zt.out];omega);have Ve:=N0 k st hs;obtain ⟨bU,bd,bM,c3,c4,c5,dy,dX,dY⟩:=ae.rX aa2;rw [jI.out] at c3;rw [zt.out] at c4;have dp:W.xc k=(W.field.ground p && !(W.bj.take k).contains p && cM st 0 1000000):=by
          unfold ae.xc;rw [aM0,hp,aM0,hs];rfl
        have dO:=kB wr (.cells #[.int .i64 p.x, .int .i64 p.y] 98);have NN:=aO.new wr p.cells 98 (0,0);obtain ⟨aN,QH⟩:∃ aN,Hid (wr.alloc (.cells #[.int .i64 p.x, .int .i64 p.y] 98)=aN):=⟨_,aNc rfl⟩;rw [QH.out] at dO;have NN:aO aN wr.heap.size p.cells 98 (0,0):=by rw [← QH.out];exact NN
        obtain ⟨Ck,r1⟩:=ai.en NN;have k8:=aNc (λ (V:World) (h:Below aN.heap.size aN V)=>Jf W.field p eH eK V ((Jh.keep dO).keep h) kf.out);have CU:=aNc (λ (V:World) (h:Below aN.heap.size aN V)=>ark p (some ⟨b,o,none⟩) fj (W.bj.take k) V (((NO.G_ k).keep dO).keep h));have nO:(W.bj.take k).length=k:=by rw [aM9,jI.out];omega
        rw [nO] at CU;have r9:=aNc (λ (V:World)=>PQ st 0 1000000 V);have kg:=aNc dp;have BR:=af.trans (dO.mono af.size);have lh:(k:Int)<(ns:Int):=by omega
        have sO:(0:Int)≤(k:Int):=by omega
        have asf:(k:Int)≤(fj:Int):=by omega
        have ash:k≤fj:=by omega
        clear NP aa2 jM N0 hp hs dp nO NO Jh aa9;go_wp2_with fail
        rw [QH.out];have bU:=cell_later dO bU;have bd:=cell_later dO bd;have bM:=cell_later dO bM;have c3:=cell_later dO c3;have c4:=cell_later dO c4;have Ve:=cell_later dO Ve;have jl:=aNc (λ (nk:World) (h:Below aN.heap.size aN nk)=>(⟨trivial,cell_later h bU,cell_later h bd,cell_later h bM,cell_later h c3,cell_later h c4,cell_later h Ck,cell_later h r1,cell_later h Ve⟩:True∧nk.cell? ⟨w.heap.size,0,none⟩=some (.int .i64 W.field.wide)∧nk.cell? ⟨w.heap.size,1,none⟩=some (.int .i64 W.field.high)∧nk.cell? ⟨w.heap.size,2,none⟩=some (.slice eH W.field.places.length eK)∧nk.cell? ⟨w.heap.size,3,none⟩=some (.slice (some ⟨b,o,none⟩) ns fj)∧nk.cell? ⟨w.heap.size,4,none⟩=some (.slice (some ⟨b_,os,none⟩) ns fX)∧nk.cell? ⟨wr.heap.size,0,none⟩=some (.int .i64 p.x)∧nk.cell? ⟨wr.heap.size,1,none⟩=some (.int .i64 p.y)∧nk.cell? ⟨b_,os+k,none⟩=some (.int .i64 st)));clear O2 nX c5 dy dX dY NN;cases κ:W.field.ground p with
        | false =>
          rw [κ] at k8;have cw:Hid (W.ng=false):=ae.UW (k:=k) (by rw [jI.out];exact bB) (by rw [kg.out,κ];rfl);clear κ;refine PS (by kernel_rfl) (by kernel_rfl) ?_;repeat (first
            | go_big_quiet_skip
            | (go_big_quiet_want
               first
               | (go_big_quiet_op;go_big_quiet_on)
               | (apply Exists.intro
                  refine ⟨λ EM I=> ?_, ?_⟩
                  · first
                    | (obtain ⟨_,U2,U3,U4,U5,U6,U7,U8,U9⟩:=jl.out EM I
                       apply O_
                       · (go_simp;rfl)
                       · rfl)
                    | (apply O9
                       · (go_simp;rfl)
                       · rfl
                       · first
                         | (with_reducible refine (k8.out _ I).mono ?_;rintro e cb ⟨rfl,bq⟩;exact ⟨rfl,mO I bq⟩)
                         | (with_reducible refine (CU.out _ I).mono ?_;rintro e cb ⟨rfl,bq⟩;exact ⟨rfl,mO I bq⟩)
                         | (with_reducible refine (r9.out _).mono ?_;rintro e cb ⟨rfl,rfl⟩;exact ⟨rfl,I⟩)
                       )
                  go_big_quiet_on
                  simp only [Act.put,aO3,aOV,aPd])))
          refine aQR ?_;intro AU bo;go_wp2_with fail
          go_ret;exact ⟨hk cw.out.symm,cT.trans ((BR.trans (aP3 bo BR.size)).mono cT.size)⟩
        | true =>
          rw [κ] at k8;cases τ:(W.bj.take k).contains p with
          | true =>
            rw [τ] at CU;have cw:Hid (W.ng=false):=ae.UW (k:=k) (by rw [jI.out];exact bB) (by rw [kg.out,κ,τ];rfl);clear κ τ;refine PS (by kernel_rfl) (by kernel_rfl) ?_;repeat (first
              | go_big_quiet_skip
              | (go_big_quiet_want
                 first
                 | (go_big_quiet_op;go_big_quiet_on)
                 | (apply Exists.intro
                    refine ⟨λ EM I=> ?_, ?_⟩
                    · first
                      | (obtain ⟨_,U2,U3,U4,U5,U6,U7,U8,U9⟩:=jl.out EM I
                         apply O_
                         · (go_simp;rfl)
                         · rfl)
                      | (apply O9
                         · (go_simp;rfl)
                         · rfl
                         · first
                           | (with_reducible refine (k8.out _ I).mono ?_;rintro e cb ⟨rfl,bq⟩;exact ⟨rfl,mO I bq⟩)
                           | (with_reducible refine (CU.out _ I).mono ?_;rintro e cb ⟨rfl,bq⟩;exact ⟨rfl,mO I bq⟩)
                           | (with_reducible refine (r9.out _).mono ?_;rintro e cb ⟨rfl,rfl⟩;exact ⟨rfl,I⟩)
                         )
                    go_big_quiet_on
                    simp only [Act.put,aO3,aOV,aPd])))
            refine aQR ?_;intro AU bo;go_wp2_with fail
            go_ret;exact ⟨hk cw.out.symm,cT.trans ((BR.trans (aP3 bo BR.size)).mono cT.size)⟩
          | false =>
            rw [τ] at CU;cases aq:cM st 0 1000000 with
            | false =>
              rw [aq] at r9;have cw:Hid (W.ng=false):=ae.UW (k:=k) (by rw [jI.out];exact bB) (by rw [kg.out,aq,aQe]);clear κ τ aq;refine PS (by kernel_rfl) (by kernel_rfl) ?_;repeat (first
                | go_big_quiet_skip
                | (go_big_quiet_want
                   first
                   | (go_big_quiet_op;go_big_quiet_on)
                   | (apply Exists.intro
                      refine ⟨λ EM I=> ?_, ?_⟩
                      · first
                        | (obtain ⟨_,U2,U3,U4,U5,U6,U7,U8,U9⟩:=jl.out EM I
                           apply O_
                           · (go_simp;rfl)
                           · rfl)
                        | (apply O9
                           · (go_simp;rfl)
                           · rfl
                           · first
                             | (with_reducible refine (k8.out _ I).mono ?_;rintro e cb ⟨rfl,bq⟩;exact ⟨rfl,mO I bq⟩)
                             | (with_reducible refine (CU.out _ I).mono ?_;rintro e cb ⟨rfl,bq⟩;exact ⟨rfl,mO I bq⟩)
                             | (with_reducible refine (r9.out _).mono ?_;rintro e cb ⟨rfl,rfl⟩;exact ⟨rfl,I⟩)
                           )
                      go_big_quiet_on
                      simp only [Act.put,aO3,aOV,aPd])))
              refine aQR ?_;intro AU bo;go_wp2_with fail
              go_ret;exact ⟨hk cw.out.symm,cT.trans ((BR.trans (aP3 bo BR.size)).mono cT.size)⟩
            | true =>
              rw [aq] at r9;have od:Hid (∀ j,j<k+1→W.xc j=true):=by
                intro j aw;by_cases fL:j<k
                · exact ji.out j fL
                · obtain rfl:j=k:=by omega
                  rw [kg.out,κ,τ,aq];rfl
              clear κ τ aq;refine PS (by kernel_rfl) (by kernel_rfl) ?_;repeat (first
                | go_big_quiet_skip
                | (go_big_quiet_want
                   first
                   | (go_big_quiet_op;go_big_quiet_on)
                   | (apply Exists.intro
                      refine ⟨λ EM I=> ?_, ?_⟩
                      · first
                        | (obtain ⟨_,U2,U3,U4,U5,U6,U7,U8,U9⟩:=jl.out EM I
                           apply O_
                           · (go_simp;rfl)
                           · rfl)
                        | (apply O9
                           · (go_simp;rfl)
                           · rfl
                           · first
                             | (with_reducible refine (k8.out _ I).mono ?_;rintro e cb ⟨rfl,bq⟩;exact ⟨rfl,mO I bq⟩)
                             | (with_reducible refine (CU.out _ I).mono ?_;rintro e cb ⟨rfl,bq⟩;exact ⟨rfl,mO I bq⟩)
                             | (with_reducible refine (r9.out _).mono ?_;rintro e cb ⟨rfl,rfl⟩;exact ⟨rfl,I⟩)
                           )
                      go_big_quiet_on
                      simp only [Act.put,aO3,aOV,aPd])))
              refine aQR ?_;intro AU bo;go_wp2_with fail
              go_roundw
              case rel=>exact ⟨k+1,by omega,by go_num,od,BR.trans (aP3 bo BR.size)⟩
              case measure=>simp [intOf];omega
      · have vt:Hid (W.ng=true):=ae.afB (by rw [zt.out,jI.out]) λ j aw=>ji.out j (by rw [jI.out] at aw;omega)
        clear ji;go_wp2_with fail
        go_ret;exact ⟨hk vt.out.symm,cT.trans (af.mono cT.size)⟩
  · have vt:Hid (W.ng=false):=ae.axM (by rw [zt.out,jI.out];exact hlen)
    have hd:((ns:Int) != (gX:Int))=true:=by simp;omega
    rw [vt.out];go_enter func106,ntmps106;rw [jI.out,zt.out];go_wp2_with fail
    go_ret;rw [og.out];exact ⟨Z,cT⟩
theorem awe (a:ae.cW) (W:ae) (w:World) (b8:ae.Has w a W):
  Calls prog 107 #[.agg (ae.cells a W).toArray] w λ e w'=>e= .returned (.bool W.nU)∧Below w.heap.size w w':=by
 obtain ⟨eH,gb,gd,fv,eP,eK,fj,fX,fz,eW⟩:=a;show Calls _ _ #[.agg #[.int .i64 W.field.wide, .int .i64 W.field.high, .slice eH W.field.places.length eK, .slice gb W.bj.length fj, .slice gd W.bh.length fX, .slice fv W.bY.length fz, .slice eP W.ah.length eW, .int .i64 W.next, .int .i64 W.now]] _ _;have cT:=kB w (.cells (ae.cells ⟨eH,gb,gd,fv,eP,eK,fj,fX,fz,eW⟩ W).toArray 52);have kR:=aNc (aO.new w (ae.cells ⟨eH,gb,gd,fv,eP,eK,fj,fX,fz,eW⟩ W) 52 (0,0));have q2:=aNc (b8.keep cT);obtain ⟨w0,iK⟩:∃ w0,Hid (w.alloc (.cells (ae.cells ⟨eH,gb,gd,fv,eP,eK,fj,fX,fz,eW⟩ W).toArray 52)=w0):=⟨_,aNc rfl⟩;rw [iK.out] at cT q2;have kR:Hid (aO w0 w.heap.size (ae.cells ⟨eH,gb,gd,fv,eP,eK,fj,fX,fz,eW⟩ W) 52 (0,0)):=by rw [← iK.out];exact kR
 obtain ⟨nm,sa⟩:∃ n,Hid (W.bY.length=n):=⟨_,aNc rfl⟩;obtain ⟨Kr,zr⟩:∃ n,Hid (W.field.places.length=n):=⟨_,aNc rfl⟩;have hle:nm≤9223372036854775807:=by have:=b8.M.kr;rw [sa.out] at this;exact this
 have og:Hid (w.alloc (.cells #[.int .i64 W.field.wide, .int .i64 W.field.high, .slice eH Kr eK, .slice gb W.bj.length fj, .slice gd W.bh.length fX, .slice fv nm fz, .slice eP W.ah.length eW, .int .i64 W.next, .int .i64 W.now] 52)=w0):=by rw [← iK.out,← sa.out,← zr.out];rfl
 obtain ⟨bU,bd,bM,c3,c4,c5,dy,dX,dY⟩:=ae.rX kR.out;rw [zr.out] at bM;rw [sa.out] at c5;clear b8;by_cases hlen:nm=Kr
 ·subst hlen;have Bk:Hid (∀ j,j<0→W.xd j=true):=aNc λ j aw=>absurd aw (by omega);go_enter func107,ntmps107;rw [zr.out,sa.out];go_wp2_with fail
  rw [og.out];go_loopw [3,4,16] (λ _ _ gM wr=>∃ k:Nat,k≤nm∧gM= .int .i64 (k:Int)∧Hid (∀ j,j<k→W.xd j=true)∧Hid (wr=w0)) (λ _ _ gM _=>nm - (intOf gM).toNat)
  case atStart=>exact ⟨0,aNQ _,rfl,Bk,rfl⟩
  case round =>
   clear Bk bU bd bM c3 c4 c5 dy dX dY;obtain ⟨k,aj,rfl,ji,E'⟩:=hrel;obtain ⟨bU,bd,bM,c3,c4,c5,dy,dX,dY⟩:=ae.rX (show aO wr w.heap.size (ae.cells ⟨eH,gb,gd,fv,eP,eK,fj,fX,fz,eW⟩ W) 52 (0,0) by rw [E'.out];exact kR.out);rw [zr.out] at bM;rw [sa.out] at c5;have kX:Below w.heap.size w wr:=by rw [E'.out];exact cT
   by_cases bB:k<nm
   ·obtain ⟨p,hp⟩:=jq (l:=W.field.places) (i:=k) (by rw [zr.out];exact bB);obtain ⟨m,hm⟩:=jq (l:=W.bY) (i:=k) (by rw [sa.out];exact bB);have Jh:bz.aQ 8 wr eH eK W.field.places:=by rw [E'.out];exact q2.out.P
    have aa8:bz.aQ 8 wr fv fz W.bY:=by rw [E'.out];exact q2.out.M
    obtain ⟨b,o,rfl,jM⟩:=Es Jh (by rw [zr.out];omega);have O2:=jM k p hp;obtain ⟨aE9,aJY,rfl,abE⟩:=Es aa8 (by rw [sa.out];omega);have m0:=abE k m hm;have dp:W.xd k=(cM m 0 1000000 && (decide (m≤0) || p == 3)):=by
     unfold ae.xd;rw [aM0,hm,aM0,hp];rfl
    have r9:=aNc (λ (V:World)=>PQ m 0 1000000 V);have kg:=aNc dp;have lh:(k:Int)<(nm:Int):=by omega
    have sO:(0:Int)≤(k:Int):=by omega
    clear Jh aa8 jM abE hp hm dp;cases κ:cM m 0 1000000 with
    | false =>
     rw [κ] at r9;have cw:Hid (W.nU=false):=ae.ae3 (k:=k) (by rw [sa.out];exact bB) (by rw [kg.out,κ];rfl);clear κ;go_wp2_with fail
     refine (r9.out _).mono ?_;rintro e w' ⟨rfl,rfl⟩;go_wp2_with fail
     go_ret;exact ⟨hk cw.out.symm,kX⟩
    | true =>
     rw [κ] at r9;by_cases τ:m≤0
     ·have hd:decide (0<m)=false:=by simp;omega
      have od:Hid (∀ j,j<k+1→W.xd j=true):=by
       intro j aw;by_cases fL:j<k
       ·exact ji.out j fL
       ·obtain rfl:j=k:=by omega
        rw [kg.out,κ,aNp τ];rfl
      clear κ;go_wp2_with fail
      refine (r9.out _).mono ?_;rintro e w' ⟨rfl,rfl⟩;go_wp2_with fail
      go_roundw
      case rel=>exact ⟨k+1,by omega,by go_num,od,E'⟩
      case measure=>simp [intOf];omega
     ·have hd:decide (0<m)=true:=by simp;omega
      by_cases aq:p=3
      ·subst aq;have od:Hid (∀ j,j<k+1→W.xd j=true):=by
        intro j aw;by_cases fL:j<k
        ·exact ji.out j fL
        ·obtain rfl:j=k:=by omega
         rw [kg.out,κ];simp
       clear κ τ;go_wp2_with fail
       refine (r9.out _).mono ?_;rintro e w' ⟨rfl,rfl⟩;go_wp2_with fail
       go_roundw
       case rel=>exact ⟨k+1,by omega,by go_num,od,E'⟩
       case measure=>simp [intOf];omega
      ·have cw:Hid (W.nU=false):=ae.ae3 (k:=k) (by rw [sa.out];exact bB) (by rw [kg.out,aNu τ,beq_false_of_ne aq];simp);have Gi:(p == 3)=false:=by simpa using aq
       clear κ τ aq;go_wp2_with fail
       refine (r9.out _).mono ?_;rintro e w' ⟨rfl,rfl⟩;go_wp2_with fail
       go_ret;exact ⟨hk cw.out.symm,kX⟩
   ·have vt:Hid (W.nU=true):=ae.ae4 (by rw [sa.out,zr.out]) λ j aw=>ji.out j (by rw [sa.out] at aw;omega);clear ji;go_wp2_with fail
    go_ret;exact ⟨hk vt.out.symm,kX⟩
 ·have vt:Hid (W.nU=false):=ae.awf (by rw [sa.out,zr.out];exact hlen);have hd:((nm:Int) != (Kr:Int))=true:=by simp;omega
  rw [vt.out];go_enter func107,ntmps107;rw [zr.out,sa.out];go_wp2_with fail
  go_ret;rw [og.out];exact ⟨Z,cT⟩
section
variable {b:Nat} {w:World}
theorem n6 {n lo ak:Int} {b:Bool} (h:cM n lo ak=b) (w:World):Calls prog 133 #[.int .i64 n, .int .i64 lo, .int .i64 ak] w λ e w'=>e= .returned (.bool b)∧w=w':=by
 have:=PQ n lo ak w;rw [h] at this;exact this
theorem dx.drewN {eM:Type} {key:eM→Value} {l:List (eM×Int×Nat)} {clock:Nat} (h:dx key w b l clock) (n:Nat):dx key (w.drewN n) b l clock:=⟨h.en,h.born,h.stamps⟩
theorem ZE (w:World):w.drewN 1=w.drew:=rfl
theorem aO.of_heap {w':World} {g:Nat} {cur:List Value} {e:TypeId} {ao:Nat×Nat} (h:aO w g cur e ao) (dP:w'.heap[g]? =w.heap[g]?):aO w' g cur e ao:=dP.trans h
theorem aan {l:List (ai×Int×Nat)} {kC:Nat} (h:dx ai.key w b l kC) (hw:∀ e∈l,e.1.ok) (hn:(l.map (·.1)).Nodup) (x:ai) (hx:x.ok) (v:Int) (hv:(dx.get l x).getD 0=v):
  ∃ (st:Nat) (dQ:List (ai×Int×Nat)) (bd:Nat) (EA qM:World),
   (∀ n,(Instr.lookup 202 (.map (some b)) (.agg #[.int .i64 x.x, .int .i64 x.y]) false).run prog (w.drewN n)= .ok (.int .i64 v) (w.drewN n))∧
   (∀ n,(Instr.mapEntry 202 (.map (some b)) (.agg #[.int .i64 x.x, .int .i64 x.y])).run prog (w.drewN n)= .ok (.tuple #[.int .i64 v, .int .i64 (st:Int)]) (EA.drewN n))∧
   (∀ n,(Instr.lookup 202 (.map (some b)) (.agg #[.int .i64 x.x, .int .i64 x.y]) false).run prog (EA.drewN n)= .ok (.int .i64 v) (EA.drewN n))∧
   (∀ n,(Instr.entryStore 202 (.map (some b)) (.int .i64 (st:Int)) (.int .i64 (v+1))).run prog (EA.drewN n)= .ok () (qM.drewN n))∧
   (∀ n,(Instr.lookup 202 (.map (some b)) (.agg #[.int .i64 x.x, .int .i64 x.y]) false).run prog (qM.drewN n)= .ok (.int .i64 (v+1)) (qM.drewN n))∧
   dx ai.key qM b (dx.put l kC x (v+1)) (dx.tick l kC x)∧
   (∀ p:Addr,p.block≠b→EA.cell? p=w.cell? p)∧(∀ p:Addr,p.block≠b→qM.cell? p=w.cell? p)∧
   ∀ {B:Nat} {a:World},B≤b→(Below B a w→Below B a qM)∧(∀ g,g≠b→qM.heap[g]? =w.heap[g]?):=by
 obtain ⟨st,dQ,dv,aR,a1,cL,iY,IL,IM⟩:=dx.entry ai.yI underlying202 aQP h hw hn x hx;have BU:=λ n=>(dx.lookup (w:=w.drewN n) ai.yI underlying202 (aQP _) (h.drewN n) hw hn x hx).1;have BV:=λ n=>(dx.lookup (w:=(ij w b (dQ.map (dz ai.key)).toArray dv).drewN n) ai.yI underlying202 (aQP _) (a1.drewN n) cL iY x hx).1;have hp:=(IM (v+1) 0).2;have BW:=λ n=>(dx.lookup (w:=(ij w b ((dx.put l kC x (v+1)).map (dz ai.key)).toArray (dx.tick l kC x)).drewN n) ai.yI underlying202 (aQP _) (hp.drewN n) (dx.UE hw hx) (dx.GH hn kC x (v+1)) x hx).1;simp only [IL,hv,aN2] at BU BV aR;simp only [dx.F2,aNd,aN2] at BW;exact ⟨st,dQ,dv,_,_,BU,aR,BV,λ n=>(IM (v+1) n).1,BW,hp,λ p hp=>aRz (KH hp),λ p hp=>aRz (KH hp),
  fun {B a} aS=>⟨λ af=>azq af aS,λ g aU=>KH aU⟩⟩
theorem az8 (a:ae.cW) (W:ae) (w:World) (b8:ae.Has w a W) (aC:W.field.a7=0) (fx:W.bj.length≤8) (yu:W.ah.length≤100):
  Calls prog 108 #[.agg (ae.cells a W).toArray] w λ e w'=>e= .returned (.bool W.jS)∧Below w.heap.size w w':=by
 obtain ⟨eH,gb,gd,fv,eP,eK,fj,fX,fz,eW⟩:=a;show Calls _ _ #[.agg #[.int .i64 W.field.wide, .int .i64 W.field.high, .slice eH W.field.places.length eK, .slice gb W.bj.length fj, .slice gd W.bh.length fX, .slice fv W.bY.length fz, .slice eP W.ah.length eW, .int .i64 W.next, .int .i64 W.now]] _ _;have cT:=kB w (.cells (ae.cells ⟨eH,gb,gd,fv,eP,eK,fj,fX,fz,eW⟩ W).toArray 52);have kR:=aNc (aO.new w (ae.cells ⟨eH,gb,gd,fv,eP,eK,fj,fX,fz,eW⟩ W) 52 (0,0));have q2:=aNc (b8.keep cT);obtain ⟨w0,iK⟩:∃ w0,Hid (w.alloc (.cells (ae.cells ⟨eH,gb,gd,fv,eP,eK,fj,fX,fz,eW⟩ W).toArray 52)=w0):=⟨_,aNc rfl⟩;rw [iK.out] at cT q2;have kR:Hid (aO w0 w.heap.size (ae.cells ⟨eH,gb,gd,fv,eP,eK,fj,fX,fz,eW⟩ W) 52 (0,0)):=by rw [← iK.out];exact kR
 obtain ⟨dD,h_⟩:∃ n,Hid (W.ah.length=n):=⟨_,aNc rfl⟩;obtain ⟨gX,jI⟩:∃ n,Hid (W.bj.length=n):=⟨_,aNc rfl⟩;have fx:gX≤8:=by rw [← jI.out];exact fx
 have yu:dD≤100:=by rw [← h_.out];exact yu
 have kf:=aNc aC;have bO:=aNc b8;obtain ⟨nV,tU⟩:∃ nV,wrap64 (W.next - 1)=nV:=⟨_,rfl⟩;have XO:=aNc tU;have og:Hid (w.alloc (.cells #[.int .i64 W.field.wide, .int .i64 W.field.high, .slice eH W.field.places.length eK, .slice gb gX fj, .slice gd W.bh.length fX, .slice fv W.bY.length fz, .slice eP dD eW, .int .i64 W.next, .int .i64 W.now] 52)=w0):=by rw [← iK.out,← jI.out,← h_.out];rfl
 obtain ⟨bU,bd,bM,c3,c4,c5,dy,dX,dY⟩:=ae.rX kR.out;rw [jI.out] at c3;rw [h_.out] at dy;clear b8 aC;have Gr:=@run_makeMap prog;have N7:=dx.made (key:=ai.key) w0;have To:=kB w0 (.map #[] 0);obtain ⟨ahM,XT⟩:∃ ahM,Hid (w0.alloc (.map #[] 0)=ahM):=⟨_,aNc rfl⟩;rw [XT.out] at N7 To;have hh:w0.heap.size=w.heap.size+1:=by rw [← iK.out];simp
 rw [hh] at N7;have Qx:=aNc N7;have Bk:Hid (∀ j,j<0→W.xe j=true):=aNc λ j aw=>absurd aw (by omega);clear N7;go_enter func108,ntmps108;rw [jI.out,h_.out];go_wp2_with fail
 rw [og.out,XT.out];have XM:Hid (bz.aQ 8 w eH eK W.field.places):=aNc bO.out.P;have ajF:Hid (a8.rep.aQ 56 w eP eW W.ah):=aNc bO.out.T;have aGC:=yu;have Du:=kR.out.later To;have abq:=cT.trans (To.mono cT.size);clear bU bd bM c3 c4 c5 dy dX dY Gr;obtain ⟨Kn,Qy⟩:∃ Kn,Hid (w.heap.size+1=Kn):=⟨_,aNc rfl⟩;rw [Qy.out];rw [Qy.out] at Qx;go_loopw [3,6,7,8,9,14] (λ avM _ _ _ _ gM wr=>∃ (k:Nat) (l:List (ai×Int×Nat)) (kC:Nat),k≤dD∧gM= .int .i64 (k:Int)∧avM= .int .i64 (W.jc k)∧Hid (∀ j,j<k→W.xe j=true)∧Hid (dx ai.key wr Kn l kC)∧Hid (∀ e∈l,e.1.ok)∧Hid ((l.map (·.1)).Nodup)∧Hid (∀ c,dx.get l c=if (W.iE k).contains c=true then some 1 else none)∧Hid (aO wr w.heap.size (ae.cells ⟨eH,gb,gd,fv,eP,eK,fj,fX,fz,eW⟩ W) 52 (0,0))∧Below w.heap.size w wr) (λ _ _ _ _ _ gM _=>dD - (intOf gM).toNat)
 case atStart=>exact ⟨0, [],0,aNQ _,rfl,rfl,Bk,Qx,(λ e he=>by simp at he),aP9,(λ c=>by simp [dx.get,ae.iE]),Du,abq⟩
 case round =>
  clear Bk Qx Du abq;obtain ⟨k,l,kC,aj,rfl,rfl,ji,HU,LO,LI,Bj,E7,kX⟩:=hrel;obtain ⟨bU,bd,bM,c3,c4,c5,dy,dX,dY⟩:=ae.rX E7.out;rw [jI.out] at c3;rw [h_.out] at dy;by_cases bB:k<dD
  ·obtain ⟨t,aD⟩:=jq (l:=W.ah) (i:=k) (by rw [h_.out];exact bB);have aba:=ajF.out.keep kX;obtain ⟨b,o,rfl,jM⟩:=a8.at_ aba (by rw [h_.out];omega);obtain ⟨O2,nX,nc,mz,yU,aJZ,aJ0⟩:=jM k t aD;obtain ⟨wI,rz⟩:∃ wI,wrap64 (W.jc k+1)=wI:=⟨_,rfl⟩;have dp:W.xe k=(W.Ku wI nV t && !(W.iE k).contains t.spot):=by
    unfold ae.xe;rw [aM0,aD,rz,XO.out];rfl
   unfold ae.Ku at dp;rw [jI.out] at dp;have ab7:W.jc (k+1)=t.id:=by
    unfold ae.jc;rw [aM4 (by omega),aM0,aQr,aD];rfl
   have acp:W.iE (k+1)=W.iE k++ [t.spot]:=by
    unfold ae.iE;rw [aNs (by rw [h_.out];exact bB),aNx];have:W.ah[k]'(by rw [h_.out];exact bB)=t:=by
     rw [aM3 (by rw [h_.out];exact bB)] at aD;exact aNf aD
    rw [this];rfl
   have XN:=aNc ab7;have XR:=aNc acp;have dO:=kB wr (.cells #[.int .i64 t.id, .int .i64 t.owner, .int .i64 t.kind, .int .i64 t.spot.x, .int .i64 t.spot.y, .int .i64 t.df, .int .i64 t.load] 108);have aa5:=aO.new wr t.cells 108 (0,0);obtain ⟨aN,H0⟩:∃ aN,Hid (wr.alloc (.cells #[.int .i64 t.id, .int .i64 t.owner, .int .i64 t.kind, .int .i64 t.spot.x, .int .i64 t.spot.y, .int .i64 t.df, .int .i64 t.load] 108)=aN):=⟨_,aNc rfl⟩;rw [H0.out] at dO;have Bi:Hid (aO aN wr.heap.size t.cells 108 (0,0)):=by rw [← H0.out];exact aa5
   have TN:Kn<wr.heap.size:=HU.out.lt;have ab2:w.heap.size<Kn:=by have:=Qy.out;omega
   have lh:(k:Int)<(dD:Int):=by omega
   have sO:(0:Int)≤(k:Int):=by omega
   clear aba jM aD ab7 acp aa5 tU;have tU:=XO.out;by_cases yD:t.kind=1
   ·have zu:=aNc yD;rw [yD] at nc;clear yD;have HT:=aNc (λ V:World=>ad2 V);have JD:ae.hj 1=10:=rfl;have JG:ae.Az 1=5:=rfl;rw [zu.out,JD,JG] at dp;have kg:=aNc dp;clear JD JG dp;have QG:Hid (wr.alloc (.cells #[.int .i64 t.id, .int .i64 t.owner, .int .i64 1, .int .i64 t.spot.x, .int .i64 t.spot.y, .int .i64 t.df, .int .i64 t.load] 108)=aN):=by rw [← H0.out,zu.out];rfl
    go_wp2_with fail
    rw [QG.out];refine (HT.out _).mono ?_;rintro e cb ⟨rfl,bq⟩;have tR:=dO.trans (bq.mono dO.size);have er:=kB cb (.cells #[.int .i64 10, .int .i64 1, .int .i64 1, .int .i64 5] 103);have z_:=aO.new cb [.int .i64 10, .int .i64 1, .int .i64 1, .int .i64 5] 103 (0,0);obtain ⟨w3,CZ⟩:∃ w3,Hid (cb.alloc (.cells #[.int .i64 10, .int .i64 1, .int .i64 1, .int .i64 5] 103)=w3):=⟨_,aNc rfl⟩;rw [CZ.out] at er;have z_:aO w3 cb.heap.size [.int .i64 10, .int .i64 1, .int .i64 1, .int .i64 5] 103 (0,0):=by rw [← CZ.out];exact z_
    have Aq:w3.cell? ⟨cb.heap.size,0,none⟩=some (.int .i64 10):=z_.cell 0;have qd:=tR.trans (er.mono tR.size);have CS:=aNc ((Bi.out.later bq).later er);have HV:=aNc (HU.out.later qd);have CR:=aNc (E7.out.later qd);have DG:=kX.trans (qd.mono kX.size);have HQ:=aNc (XM.out.keep DG);obtain ⟨t0,t1,t2,t3,t4,t5,t6⟩:=a8.en ((Bi.out.later bq));rw [zu.out] at t2;clear bU bd bM c3 c4 c5 dy dX dY;obtain ⟨bU,bd,bM,c3,c4,c5,dy,dX,dY⟩:=ae.rX (E7.out.later tR);rw [jI.out] at c3;rw [h_.out] at dy;have abx:wr.heap.size<cb.heap.size:=by have:=bq.size;have:=Bi.out.lt;omega
    have aby:w.heap.size<cb.heap.size:=by have:=TN;omega
    go_wp2_with fail
    rw [CZ.out];clear t0 t1 t2 t3 t4 t5 t6 bU bd bM c3 c4 c5 dy dX dY;obtain ⟨t0,t1,t2,t3,t4,t5,t6⟩:=a8.en CS.out;obtain ⟨bU,bd,bM,c3,c4,c5,dy,dX,dY⟩:=ae.rX CR.out;rw [jI.out] at c3;rw [h_.out] at dy;rw [zu.out] at t2;clear bq z_ er tR;cases aC:cM t.id wI nV with
    | false =>
     have cw:Hid (W.jS=false):=ae.sZ (k:=k) (by rw [h_.out];exact bB) (by rw [kg.out,aC];simp);have zo:=aNc aC;clear aC;refine (n6 zo.out _).mono ?_;rintro e w' ⟨rfl,rfl⟩;go_wp2_with fail
     go_ret;exact ⟨hk cw.out.symm,DG⟩
    | true =>
     have zo:=aNc aC;clear aC;refine (n6 zo.out _).mono ?_;rintro e w' ⟨rfl,rfl⟩;go_wp2_with fail
     cases κ:cM t.owner 0 ((gX:Int) - 1) with
     | false =>
      have cw:Hid (W.jS=false):=ae.sZ (k:=k) (by rw [h_.out];exact bB) (by rw [kg.out,κ];simp);have fF:=aNc κ;clear κ;refine (n6 fF.out _).mono ?_;rintro e w' ⟨rfl,rfl⟩;go_wp2_with fail
      go_ret;exact ⟨hk cw.out.symm,DG⟩
     | true =>
      have fF:=aNc κ;clear κ;refine (n6 fF.out _).mono ?_;rintro e w' ⟨rfl,rfl⟩;go_wp2_with fail
      cases τ:W.field.ground t.spot with
      | false =>
       have cw:Hid (W.jS=false):=ae.sZ (k:=k) (by rw [h_.out];exact bB) (by rw [kg.out,τ];simp);have vq:=aNc τ;clear τ;have k8:=Jf W.field t.spot eH eK _ HQ.out kf.out;rw [vq.out] at k8;refine k8.mono ?_;rintro e n5 ⟨rfl,dZ⟩;have DB:=qd.trans (dZ.mono qd.size);have wg:=kX.trans (DB.mono kX.size);have CT:=aNc (CS.out.later dZ);have HW:=aNc (HV.out.later dZ);have HP:=aNc (CR.out.later dZ);clear t0 t1 t2 t3 t4 t5 t6 bU bd bM c3 c4 c5 dy dX dY k8;obtain ⟨t0,t1,t2,t3,t4,t5,t6⟩:=a8.en CT.out;have Aq:=cell_later dZ Aq;go_wp2_with fail
       go_ret;exact ⟨hk cw.out.symm,wg⟩
      | true =>
       have vq:=aNc τ;clear τ;have k8:=Jf W.field t.spot eH eK _ HQ.out kf.out;rw [vq.out] at k8;refine k8.mono ?_;rintro e n5 ⟨rfl,dZ⟩;have DB:=qd.trans (dZ.mono qd.size);have wg:=kX.trans (DB.mono kX.size);have CT:=aNc (CS.out.later dZ);have HW:=aNc (HV.out.later dZ);have HP:=aNc (CR.out.later dZ);clear t0 t1 t2 t3 t4 t5 t6 bU bd bM c3 c4 c5 dy dX dY k8;obtain ⟨t0,t1,t2,t3,t4,t5,t6⟩:=a8.en CT.out;have Aq:=cell_later dZ Aq;go_wp2_with fail
       cases aq:cM t.df 1 10 with
       | false =>
        have cw:Hid (W.jS=false):=ae.sZ (k:=k) (by rw [h_.out];exact bB) (by rw [kg.out,aq];simp);have zp:=aNc aq;clear aq;refine (n6 zp.out _).mono ?_;rintro e w' ⟨rfl,rfl⟩;go_wp2_with fail
        go_ret;exact ⟨hk cw.out.symm,wg⟩
       | true =>
        have zp:=aNc aq;clear aq;refine (n6 zp.out _).mono ?_;rintro e w' ⟨rfl,rfl⟩;go_wp2_with fail
        cases bb:cM t.load 0 5 with
        | false =>
         have cw:Hid (W.jS=false):=ae.sZ (k:=k) (by rw [h_.out];exact bB) (by rw [kg.out,bb];simp);have zq:=aNc bb;clear bb;refine (n6 zq.out _).mono ?_;rintro e w' ⟨rfl,rfl⟩;go_wp2_with fail
         go_ret;exact ⟨hk cw.out.symm,wg⟩
        | true =>
         have zq:=aNc bb;clear bb;refine (n6 zq.out _).mono ?_;rintro e w' ⟨rfl,rfl⟩;go_wp2_with fail
         have DR:t.spot.ok:=by
          obtain ⟨i1,i2,i3,i4,i5,i6⟩:=av.idx kf.out (av.jr vq.out);obtain ⟨g1,g2,g3,g4,_,_⟩:=av.hg kf.out;exact ⟨cI.2 (by omega),cI.2 (by omega)⟩
         obtain ⟨v,lH⟩:∃ v,Hid ((dx.get l t.spot).getD 0=v):=⟨_,aNc rfl⟩;obtain ⟨st,dQ,dv,EA,qM,QK⟩:=aan HW.out LO.out LI.out t.spot DR v lH.out;obtain ⟨BU,aR,BV,f1,BW,JE,JP,JQ,DC⟩:=QK;have atf:0≤v∧v≤1:=by
          rw [← lH.out,Bj.out];split<;>simp
         have Qw:=aNc JE;have ajQ:=aNc JP;have CY:=aNc JQ;have Ge:=(DC (aRb ab2)).1 wg;have zn:=aNc (HP.out.of_heap ((DC (B:=0) (a:=n5) (aNQ _)).2 _ (by omega)));have Ck:qM.cell? ⟨wr.heap.size,0,none⟩=some (.int .i64 t.id):=(CY.out _ (by simp;omega)).trans t0;have sW:qM.cell? ⟨wr.heap.size,3,none⟩=some (.int .i64 t.spot.x):=(CY.out _ (by simp;omega)).trans t3;have ayr:qM.cell? ⟨wr.heap.size,4,none⟩=some (.int .i64 t.spot.y):=(CY.out _ (by simp;omega)).trans t4;have g1:=BU 1;have g2:=aR 1;have g3:=BV 1;have g4:=f1 1;have g5:=BW 1;clear JE JP JQ DC BU aR BV f1 BW;simp only [ZE] at g1 g2 g3 g4 g5;cases qg:(W.iE k).contains t.spot with
         | true =>
          have nQ:v=1:=by rw [← lH.out,Bj.out,qg];rfl
          subst nQ;rw [show (1:Int)+1=2 from rfl] at g4 g5;have cw:Hid (W.jS=false):=ae.sZ (k:=k) (by rw [h_.out];exact bB) (by rw [kg.out,qg];simp);clear qg
          go_region
          go_wp2_with fail
          go_ret;exact ⟨hk cw.out.symm,below_drewN Ge 1⟩
         | false =>
          have nQ:v=0:=by rw [← lH.out,Bj.out,qg];rfl
          subst nQ;rw [show (0:Int)+1=1 from rfl] at g4 g5;have od:Hid (∀ j,j<k+1→W.xe j=true):=by
           intro j aw;by_cases fL:j<k
           ·exact ji.out j fL
           ·obtain rfl:j=k:=by omega
            rw [kg.out,zo.out,fF.out,vq.out,zp.out,zq.out,qg];rfl
          have Qu:Hid (∀ c,dx.get (dx.put l kC t.spot (0+1)) c=if (W.iE (k+1)).contains c=true then some 1 else none):=by
           intro c;rw [dx.F2,XR.out,Bj.out];by_cases DK:c=t.spot
           ·simp [DK]
           ·rw [aM4 DK];simp [DK]
          have QI:Hid (∀ e∈dx.put l kC t.spot (0+1),e.1.ok):=dx.UE LO.out DR;have Qv:Hid (((dx.put l kC t.spot (0+1)).map (·.1)).Nodup):=dx.GH LI.out _ _ _;clear qg DR
          go_region
          go_wp2_with fail
          go_roundw
          case rel=>exact ⟨k+1,_,_,by omega,by go_num,by rw [XN.out],od,Qw.out.drewN 1,QI,Qv,Qu,zn.out.drewN 1,below_drewN Ge 1⟩
          case measure=>simp [intOf];omega
   ·by_cases lN:t.kind=2
    ·have zu:=aNc lN;rw [lN] at nc;clear yD lN;have HT:=aNc (λ V:World=>ad3 V);have JD:ae.hj 2=20:=rfl;have JG:ae.Az 2=0:=rfl;rw [zu.out,JD,JG] at dp;have kg:=aNc dp;clear JD JG dp;have QG:Hid (wr.alloc (.cells #[.int .i64 t.id, .int .i64 t.owner, .int .i64 2, .int .i64 t.spot.x, .int .i64 t.spot.y, .int .i64 t.df, .int .i64 t.load] 108)=aN):=by rw [← H0.out,zu.out];rfl
     go_wp2_with fail
     rw [QG.out];refine (HT.out _).mono ?_;rintro e cb ⟨rfl,bq⟩;have tR:=dO.trans (bq.mono dO.size);have er:=kB cb (.cells #[.int .i64 20, .int .i64 2, .int .i64 4, .int .i64 12] 103);have z_:=aO.new cb [.int .i64 20, .int .i64 2, .int .i64 4, .int .i64 12] 103 (0,0);obtain ⟨w3,CZ⟩:∃ w3,Hid (cb.alloc (.cells #[.int .i64 20, .int .i64 2, .int .i64 4, .int .i64 12] 103)=w3):=⟨_,aNc rfl⟩;rw [CZ.out] at er;have z_:aO w3 cb.heap.size [.int .i64 20, .int .i64 2, .int .i64 4, .int .i64 12] 103 (0,0):=by rw [← CZ.out];exact z_
     have Aq:w3.cell? ⟨cb.heap.size,0,none⟩=some (.int .i64 20):=z_.cell 0;have qd:=tR.trans (er.mono tR.size);have CS:=aNc ((Bi.out.later bq).later er);have HV:=aNc (HU.out.later qd);have CR:=aNc (E7.out.later qd);have DG:=kX.trans (qd.mono kX.size);have HQ:=aNc (XM.out.keep DG);obtain ⟨t0,t1,t2,t3,t4,t5,t6⟩:=a8.en ((Bi.out.later bq));rw [zu.out] at t2;clear bU bd bM c3 c4 c5 dy dX dY;obtain ⟨bU,bd,bM,c3,c4,c5,dy,dX,dY⟩:=ae.rX (E7.out.later tR);rw [jI.out] at c3;rw [h_.out] at dy;have abx:wr.heap.size<cb.heap.size:=by have:=bq.size;have:=Bi.out.lt;omega
     have aby:w.heap.size<cb.heap.size:=by have:=TN;omega
     go_wp2_with fail
     rw [CZ.out];clear t0 t1 t2 t3 t4 t5 t6 bU bd bM c3 c4 c5 dy dX dY;obtain ⟨t0,t1,t2,t3,t4,t5,t6⟩:=a8.en CS.out;obtain ⟨bU,bd,bM,c3,c4,c5,dy,dX,dY⟩:=ae.rX CR.out;rw [jI.out] at c3;rw [h_.out] at dy;rw [zu.out] at t2;clear bq z_ er tR;cases aC:cM t.id wI nV with
     | false =>
      have cw:Hid (W.jS=false):=ae.sZ (k:=k) (by rw [h_.out];exact bB) (by rw [kg.out,aC];simp);have zo:=aNc aC;clear aC;refine (n6 zo.out _).mono ?_;rintro e w' ⟨rfl,rfl⟩;go_wp2_with fail
      go_ret;exact ⟨hk cw.out.symm,DG⟩
     | true =>
      have zo:=aNc aC;clear aC;refine (n6 zo.out _).mono ?_;rintro e w' ⟨rfl,rfl⟩;go_wp2_with fail
      cases κ:cM t.owner 0 ((gX:Int) - 1) with
      | false =>
       have cw:Hid (W.jS=false):=ae.sZ (k:=k) (by rw [h_.out];exact bB) (by rw [kg.out,κ];simp);have fF:=aNc κ;clear κ;refine (n6 fF.out _).mono ?_;rintro e w' ⟨rfl,rfl⟩;go_wp2_with fail
       go_ret;exact ⟨hk cw.out.symm,DG⟩
      | true =>
       have fF:=aNc κ;clear κ;refine (n6 fF.out _).mono ?_;rintro e w' ⟨rfl,rfl⟩;go_wp2_with fail
       cases τ:W.field.ground t.spot with
       | false =>
        have cw:Hid (W.jS=false):=ae.sZ (k:=k) (by rw [h_.out];exact bB) (by rw [kg.out,τ];simp);have vq:=aNc τ;clear τ;have k8:=Jf W.field t.spot eH eK _ HQ.out kf.out;rw [vq.out] at k8;refine k8.mono ?_;rintro e n5 ⟨rfl,dZ⟩;have DB:=qd.trans (dZ.mono qd.size);have wg:=kX.trans (DB.mono kX.size);have CT:=aNc (CS.out.later dZ);have HW:=aNc (HV.out.later dZ);have HP:=aNc (CR.out.later dZ);clear t0 t1 t2 t3 t4 t5 t6 bU bd bM c3 c4 c5 dy dX dY k8;obtain ⟨t0,t1,t2,t3,t4,t5,t6⟩:=a8.en CT.out;have Aq:=cell_later dZ Aq;go_wp2_with fail
        go_ret;exact ⟨hk cw.out.symm,wg⟩
       | true =>
        have vq:=aNc τ;clear τ;have k8:=Jf W.field t.spot eH eK _ HQ.out kf.out;rw [vq.out] at k8;refine k8.mono ?_;rintro e n5 ⟨rfl,dZ⟩;have DB:=qd.trans (dZ.mono qd.size);have wg:=kX.trans (DB.mono kX.size);have CT:=aNc (CS.out.later dZ);have HW:=aNc (HV.out.later dZ);have HP:=aNc (CR.out.later dZ);clear t0 t1 t2 t3 t4 t5 t6 bU bd bM c3 c4 c5 dy dX dY k8;obtain ⟨t0,t1,t2,t3,t4,t5,t6⟩:=a8.en CT.out;have Aq:=cell_later dZ Aq;go_wp2_with fail
        cases aq:cM t.df 1 20 with
        | false =>
         have cw:Hid (W.jS=false):=ae.sZ (k:=k) (by rw [h_.out];exact bB) (by rw [kg.out,aq];simp);have zp:=aNc aq;clear aq;refine (n6 zp.out _).mono ?_;rintro e w' ⟨rfl,rfl⟩;go_wp2_with fail
         go_ret;exact ⟨hk cw.out.symm,wg⟩
        | true =>
         have zp:=aNc aq;clear aq;refine (n6 zp.out _).mono ?_;rintro e w' ⟨rfl,rfl⟩;go_wp2_with fail
         cases bb:cM t.load 0 0 with
         | false =>
          have cw:Hid (W.jS=false):=ae.sZ (k:=k) (by rw [h_.out];exact bB) (by rw [kg.out,bb];simp);have zq:=aNc bb;clear bb;refine (n6 zq.out _).mono ?_;rintro e w' ⟨rfl,rfl⟩;go_wp2_with fail
          go_ret;exact ⟨hk cw.out.symm,wg⟩
         | true =>
          have zq:=aNc bb;clear bb;refine (n6 zq.out _).mono ?_;rintro e w' ⟨rfl,rfl⟩;go_wp2_with fail
          have DR:t.spot.ok:=by
           obtain ⟨i1,i2,i3,i4,i5,i6⟩:=av.idx kf.out (av.jr vq.out);obtain ⟨g1,g2,g3,g4,_,_⟩:=av.hg kf.out;exact ⟨cI.2 (by omega),cI.2 (by omega)⟩
          obtain ⟨v,lH⟩:∃ v,Hid ((dx.get l t.spot).getD 0=v):=⟨_,aNc rfl⟩;obtain ⟨st,dQ,dv,EA,qM,QK⟩:=aan HW.out LO.out LI.out t.spot DR v lH.out;obtain ⟨BU,aR,BV,f1,BW,JE,JP,JQ,DC⟩:=QK;have atf:0≤v∧v≤1:=by
           rw [← lH.out,Bj.out];split<;>simp
          have Qw:=aNc JE;have ajQ:=aNc JP;have CY:=aNc JQ;have Ge:=(DC (aRb ab2)).1 wg;have zn:=aNc (HP.out.of_heap ((DC (B:=0) (a:=n5) (aNQ _)).2 _ (by omega)));have Ck:qM.cell? ⟨wr.heap.size,0,none⟩=some (.int .i64 t.id):=(CY.out _ (by simp;omega)).trans t0;have sW:qM.cell? ⟨wr.heap.size,3,none⟩=some (.int .i64 t.spot.x):=(CY.out _ (by simp;omega)).trans t3;have ayr:qM.cell? ⟨wr.heap.size,4,none⟩=some (.int .i64 t.spot.y):=(CY.out _ (by simp;omega)).trans t4;have g1:=BU 1;have g2:=aR 1;have g3:=BV 1;have g4:=f1 1;have g5:=BW 1;clear JE JP JQ DC BU aR BV f1 BW;simp only [ZE] at g1 g2 g3 g4 g5;cases qg:(W.iE k).contains t.spot with
          | true =>
           have nQ:v=1:=by rw [← lH.out,Bj.out,qg];rfl
           subst nQ;rw [show (1:Int)+1=2 from rfl] at g4 g5;have cw:Hid (W.jS=false):=ae.sZ (k:=k) (by rw [h_.out];exact bB) (by rw [kg.out,qg];simp);clear qg
           go_region
           go_wp2_with fail
           go_ret;exact ⟨hk cw.out.symm,below_drewN Ge 1⟩
          | false =>
           have nQ:v=0:=by rw [← lH.out,Bj.out,qg];rfl
           subst nQ;rw [show (0:Int)+1=1 from rfl] at g4 g5;have od:Hid (∀ j,j<k+1→W.xe j=true):=by
            intro j aw;by_cases fL:j<k
            ·exact ji.out j fL
            ·obtain rfl:j=k:=by omega
             rw [kg.out,zo.out,fF.out,vq.out,zp.out,zq.out,qg];rfl
           have Qu:Hid (∀ c,dx.get (dx.put l kC t.spot (0+1)) c=if (W.iE (k+1)).contains c=true then some 1 else none):=by
            intro c;rw [dx.F2,XR.out,Bj.out];by_cases DK:c=t.spot
            ·simp [DK]
            ·rw [aM4 DK];simp [DK]
           have QI:Hid (∀ e∈dx.put l kC t.spot (0+1),e.1.ok):=dx.UE LO.out DR;have Qv:Hid (((dx.put l kC t.spot (0+1)).map (·.1)).Nodup):=dx.GH LI.out _ _ _;clear qg DR
           go_region
           go_wp2_with fail
           go_roundw
           case rel=>exact ⟨k+1,_,_,by omega,by go_num,by rw [XN.out],od,Qw.out.drewN 1,QI,Qv,Qu,zn.out.drewN 1,below_drewN Ge 1⟩
           case measure=>simp [intOf];omega
    ·have JB:cM t.kind 1 2=false:=oL (by omega);have cw:Hid (W.jS=false):=ae.sZ (k:=k) (by rw [h_.out];exact bB) (by rw [dp,JB];rfl);have HT:=aNc (λ V:World=>ad4 t.kind V JB);have abF:(t.kind == 1)=false:=by simpa using yD
     clear dp JB yD lN;go_wp2_with fail
     rw [H0.out];refine (HT.out _).mono ?_;rintro e cb ⟨rfl,bq⟩;have tR:=dO.trans (bq.mono dO.size);obtain ⟨t0,t1,t2,t3,t4,t5,t6⟩:=a8.en ((Bi.out.later bq));clear bU bd bM c3 c4 c5 dy dX dY;obtain ⟨bU,bd,bM,c3,c4,c5,dy,dX,dY⟩:=ae.rX (E7.out.later tR);have abx:wr.heap.size<cb.heap.size:=by have:=bq.size;have:=Bi.out.lt;omega
     have aby:w.heap.size<cb.heap.size:=by have:=TN;omega
     go_wp2_with fail
     go_ret;exact ⟨hk cw.out.symm,(kX.trans (tR.mono kX.size)).trans ((kB _ _).mono (by omega))⟩
  ·obtain rfl:k=dD:=by omega
   have ep:∀ j,j<W.ah.length→W.xe j=true:=λ j aw=>ji.out j (by rw [h_.out] at aw;exact aw);have oK:W.jS=(cM W.next 1 1000000 && cM W.now 0 1000000):=by
    unfold ae.jS;rw [aNJ.2 (λ j aw=>ep j (aND.1 aw)),aPO]
   have zw:=aNc oK;clear ep oK tU;cases κ:cM W.next 1 1000000 with
   | false =>
    have H1:=aNc κ;clear κ;go_wp2_with fail
    refine (n6 H1.out _).mono ?_;rintro e w' ⟨rfl,rfl⟩;go_wp2_with fail
    go_ret;exact ⟨hk (by rw [zw.out,H1.out];rfl),kX⟩
   | true =>
    have DL:=λ V=>PQ W.now 0 1000000 V;have H1:=aNc κ;rw [H1.out,aPO] at zw;clear κ;generalize cM W.now 0 1000000=r2 at *
    go_wp2_with fail
    refine (n6 H1.out _).mono ?_;rintro e w' ⟨rfl,rfl⟩;go_wp2_with fail
    refine (DL _).mono ?_;rintro e w' ⟨rfl,rfl⟩;go_wp2_with fail
    go_ret;exact ⟨hk zw.out.symm,kX⟩
end
theorem Fu (a:ae.cW) (W:ae) (w:World) (b8:ae.Has w a W):
  Calls prog 82 #[.agg (ae.cells a W).toArray] w λ e w'=>e= .returned (.int .i64 W.a7)∧Below w.heap.size w w':=by
 have tX:=λ aC fx V (h:ae.Has V a W)=>axL a W V h aC fx;have N8:=λ V (h:ae.Has V a W)=>awe a W V h;have oK:=λ aC fx yu V (h:ae.Has V a W)=>az8 a W V h aC fx yu;obtain ⟨eH,gb,gd,fv,eP,eK,fj,fX,fz,eW⟩:=a;show Calls _ _ #[.agg #[.int .i64 W.field.wide, .int .i64 W.field.high, .slice eH W.field.places.length eK, .slice gb W.bj.length fj, .slice gd W.bh.length fX, .slice fv W.bY.length fz, .slice eP W.ah.length eW, .int .i64 W.next, .int .i64 W.now]] _ _;have cT:=kB w (.cells (ae.cells ⟨eH,gb,gd,fv,eP,eK,fj,fX,fz,eW⟩ W).toArray 52);have kR:=aNc (aO.new w (ae.cells ⟨eH,gb,gd,fv,eP,eK,fj,fX,fz,eW⟩ W) 52 (0,0));have q2:=aNc (b8.keep cT);obtain ⟨w0,iK⟩:∃ w0,Hid (w.alloc (.cells (ae.cells ⟨eH,gb,gd,fv,eP,eK,fj,fX,fz,eW⟩ W).toArray 52)=w0):=⟨_,aNc rfl⟩;rw [iK.out] at cT q2;have kR:Hid (aO w0 w.heap.size (ae.cells ⟨eH,gb,gd,fv,eP,eK,fj,fX,fz,eW⟩ W) 52 (0,0)):=by rw [← iK.out];exact kR
 have hf:=Sh W.field eH eK w0 q2.out.P;have og:Hid (w.alloc (.cells #[.int .i64 W.field.wide, .int .i64 W.field.high, .slice eH W.field.places.length eK, .slice gb W.bj.length fj, .slice gd W.bh.length fX, .slice fv W.bY.length fz, .slice eP W.ah.length eW, .int .i64 W.next, .int .i64 W.now] 52)=w0):=by rw [← iK.out];rfl
 obtain ⟨bU,bd,bM,c3,c4,c5,dy,dX,dY⟩:=ae.rX kR.out;clear b8;by_cases tT:W.field.a7=0
 ·by_cases JC:8<W.bj.length∨100<W.ah.length
  ·rw [ae.YW tT JC];rw [tT] at hf;have ajG:=aNc JC;clear JC tT tX N8 oK;generalize W.field.places.length=Kr at *
   generalize W.bj.length=gX at *
   generalize W.bh.length=ns at *
   generalize W.bY.length=nm at *
   generalize W.ah.length=dD at *
   go_enter func82,ntmps82;go_wp2_with fail
   rw [og.out];refine hf.mono ?_;rintro e cb ⟨rfl,bq⟩;have d3:=cell_later bq c3;have d6:=cell_later bq dy;have key:decide ((8:Int)<(gX:Int))=true∨(decide ((8:Int)<(gX:Int))=false∧decide ((100:Int)<(dD:Int))=true):=by
    have:=ajG.out;simp;omega
   clear bU bd bM c3 c4 c5 dy dX dY;rcases key with h | ⟨h,τ⟩
   all_goals
    go_wp2_with fail
    go_ret;exact ⟨Z,cT.trans (bq.mono cT.size)⟩
  ·rw [ae.Rt tT JC];have fx:W.bj.length≤8:=by omega
   have yu:W.ah.length≤100:=by omega
   have tX:=tX tT fx;have oK:=oK tT fx yu;rw [tT] at hf;have g1:decide ((8:Int)<(W.bj.length:Int))=false:=by simp;omega
   have g2:decide ((100:Int)<(W.ah.length:Int))=false:=by simp;omega
   have CX:=aNc (λ V (h:Below w0.heap.size w0 V)=>tX V (q2.out.keep h));have E8:=aNc (λ V (h:Below w0.heap.size w0 V)=>N8 V (q2.out.keep h));have zw:=aNc (λ V (h:Below w0.heap.size w0 V)=>oK V (q2.out.keep h));rw [ae.amZ] at CX E8 zw;have CX:Hid (∀ V,Below w0.heap.size w0 V→Calls prog 106 #[.agg #[.int .i64 W.field.wide, .int .i64 W.field.high, .slice eH W.field.places.length eK, .slice gb W.bj.length fj, .slice gd W.bh.length fX, .slice fv W.bY.length fz, .slice eP W.ah.length eW, .int .i64 W.next, .int .i64 W.now]] V λ e w'=>e= .returned (.bool W.ng)∧Below V.heap.size V w'):=CX;have E8:Hid (∀ V,Below w0.heap.size w0 V→Calls prog 107 #[.agg #[.int .i64 W.field.wide, .int .i64 W.field.high, .slice eH W.field.places.length eK, .slice gb W.bj.length fj, .slice gd W.bh.length fX, .slice fv W.bY.length fz, .slice eP W.ah.length eW, .int .i64 W.next, .int .i64 W.now]] V λ e w'=>e= .returned (.bool W.nU)∧Below V.heap.size V w'):=E8;have zw:Hid (∀ V,Below w0.heap.size w0 V→Calls prog 108 #[.agg #[.int .i64 W.field.wide, .int .i64 W.field.high, .slice eH W.field.places.length eK, .slice gb W.bj.length fj, .slice gd W.bh.length fX, .slice fv W.bY.length fz, .slice eP W.ah.length eW, .int .i64 W.next, .int .i64 W.now]] V λ e w'=>e= .returned (.bool W.jS)∧Below V.heap.size V w'):=zw;clear JC tT tX N8 oK fx yu;generalize W.ng=r1 at *
   generalize W.nU=r2 at *
   generalize W.jS=sW at *
   generalize W.field.places.length=Kr at *
   generalize W.bj.length=gX at *
   generalize W.bh.length=ns at *
   generalize W.bY.length=nm at *
   generalize W.ah.length=dD at *
   have sV:=hf;clear hf;cases r1 with
   | false =>
    go_enter func82,ntmps82;go_wp2_with fail
    rw [og.out];refine sV.mono ?_;rintro e cb ⟨rfl,bq⟩;have bU:=cell_later bq bU;have bd:=cell_later bq bd;have bM:=cell_later bq bM;have c3:=cell_later bq c3;have c4:=cell_later bq c4;have c5:=cell_later bq c5;have dy:=cell_later bq dy;have dX:=cell_later bq dX;have dY:=cell_later bq dY;go_wp2_with fail
    refine (CX.out _ bq).mono ?_;rintro e w3 ⟨rfl,er⟩;go_wp2_with fail
    go_ret;exact ⟨Z,cT.trans ((mO bq er).mono cT.size)⟩
   | true =>
    cases r2 with
    | false =>
     go_enter func82,ntmps82;go_wp2_with fail
     rw [og.out];refine sV.mono ?_;rintro e cb ⟨rfl,bq⟩;have bU:=cell_later bq bU;have bd:=cell_later bq bd;have bM:=cell_later bq bM;have c3:=cell_later bq c3;have c4:=cell_later bq c4;have c5:=cell_later bq c5;have dy:=cell_later bq dy;have dX:=cell_later bq dX;have dY:=cell_later bq dY;go_wp2_with fail
     refine (CX.out _ bq).mono ?_;rintro e w3 ⟨rfl,er⟩;have pw:=mO bq er;have bU:=cell_later er bU;have bd:=cell_later er bd;have bM:=cell_later er bM;have c3:=cell_later er c3;have c4:=cell_later er c4;have c5:=cell_later er c5;have dy:=cell_later er dy;have dX:=cell_later er dX;have dY:=cell_later er dY;go_wp2_with fail
     refine (E8.out _ pw).mono ?_;rintro e n5 ⟨rfl,dZ⟩;go_wp2_with fail
     go_ret;exact ⟨Z,cT.trans ((mO pw dZ).mono cT.size)⟩
    | true =>
     cases sW with
     | false =>
      go_enter func82,ntmps82;go_wp2_with fail
      rw [og.out];refine sV.mono ?_;rintro e cb ⟨rfl,bq⟩;have bU:=cell_later bq bU;have bd:=cell_later bq bd;have bM:=cell_later bq bM;have c3:=cell_later bq c3;have c4:=cell_later bq c4;have c5:=cell_later bq c5;have dy:=cell_later bq dy;have dX:=cell_later bq dX;have dY:=cell_later bq dY;go_wp2_with fail
      refine (CX.out _ bq).mono ?_;rintro e w3 ⟨rfl,er⟩;have pw:=mO bq er;have bU:=cell_later er bU;have bd:=cell_later er bd;have bM:=cell_later er bM;have c3:=cell_later er c3;have c4:=cell_later er c4;have c5:=cell_later er c5;have dy:=cell_later er dy;have dX:=cell_later er dX;have dY:=cell_later er dY;go_wp2_with fail
      refine (E8.out _ pw).mono ?_;rintro e n5 ⟨rfl,dZ⟩;have ru:=mO pw dZ;have bU:=cell_later dZ bU;have bd:=cell_later dZ bd;have bM:=cell_later dZ bM;have c3:=cell_later dZ c3;have c4:=cell_later dZ c4;have c5:=cell_later dZ c5;have dy:=cell_later dZ dy;have dX:=cell_later dZ dX;have dY:=cell_later dZ dY;go_wp2_with fail
      refine (zw.out _ ru).mono ?_;rintro e qL ⟨rfl,sL⟩;go_wp2_with fail
      go_ret;exact ⟨Z,cT.trans ((mO ru sL).mono cT.size)⟩
     | true =>
      go_enter func82,ntmps82;go_wp2_with fail
      rw [og.out];refine sV.mono ?_;rintro e cb ⟨rfl,bq⟩;have bU:=cell_later bq bU;have bd:=cell_later bq bd;have bM:=cell_later bq bM;have c3:=cell_later bq c3;have c4:=cell_later bq c4;have c5:=cell_later bq c5;have dy:=cell_later bq dy;have dX:=cell_later bq dX;have dY:=cell_later bq dY;go_wp2_with fail
      refine (CX.out _ bq).mono ?_;rintro e w3 ⟨rfl,er⟩;have pw:=mO bq er;have bU:=cell_later er bU;have bd:=cell_later er bd;have bM:=cell_later er bM;have c3:=cell_later er c3;have c4:=cell_later er c4;have c5:=cell_later er c5;have dy:=cell_later er dy;have dX:=cell_later er dX;have dY:=cell_later er dY;go_wp2_with fail
      refine (E8.out _ pw).mono ?_;rintro e n5 ⟨rfl,dZ⟩;have ru:=mO pw dZ;have bU:=cell_later dZ bU;have bd:=cell_later dZ bd;have bM:=cell_later dZ bM;have c3:=cell_later dZ c3;have c4:=cell_later dZ c4;have c5:=cell_later dZ c5;have dy:=cell_later dZ dy;have dX:=cell_later dZ dX;have dY:=cell_later dZ dY;go_wp2_with fail
      refine (zw.out _ ru).mono ?_;rintro e qL ⟨rfl,sL⟩;go_wp2_with fail
      go_ret;exact ⟨Z,cT.trans ((mO ru sL).mono cT.size)⟩
 ·rw [ae.YV tT];have hd:(W.field.a7 == 0)=false:=by simpa using tT
  have Gi:(W.field.a7 != 0)=true:=by simpa using tT
  clear tT tX N8 oK;generalize W.field.a7=k at *
  go_enter func82,ntmps82;go_wp2_with fail
  rw [og.out];refine hf.mono ?_;rintro e cb ⟨rfl,bq⟩;go_wp2_with fail
  go_ret;exact ⟨Z,cT.trans (bq.mono cT.size)⟩
end Go.Proofs.YthlpmldmhakhaaaGreatDoor
