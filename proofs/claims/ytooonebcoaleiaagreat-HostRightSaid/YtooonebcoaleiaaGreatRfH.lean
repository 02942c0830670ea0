import Derived.Test.YtooonebcoaleiaaGreatCal
set_option linter.all false
set_option maxRecDepth 100000
set_option maxHeartbeats 4000000
open Go.RowKit
namespace Go.Proofs.YtooonebcoaleiaaGreat
open Tryz
section
open fg
def Ea(x:dg)(c:kb):Prop:=t_ x/\((c.O=1/\RI x.S c.o)\/(c.O=2/\LG x)\/(c.O=3/\Gy x.eR x.V c.by_ c.sat))
noncomputable def vP(x:dg)(c:kb):dg:=if c.O=1 then {x with S:=Kt x.S c.o}else if c.O=2 then Nz x else G2 x c.by_ c.sat
def An(x:dg)(c:kb):ByteArray:=if c.O=2 then lq (s6 x.j6.toNat x.S).2 else .empty
section
variable{x:dg}{c:kb}
def aaY(h:c.O=1):vP x c={x with S:=Kt x.S c.o}:=bap h
def aaZ(h:c.O=2):vP x c=Nz x:=by unfold vP;rw[ban GE,bap h]
def akd(h:c.O=3):vP x c=G2 x c.by_ c.sat:=by unfold vP;rw[ban GE,ban GE]
def aBq(h:c.O=1):An x c=.empty:=ban GE
def aa0(h:c.O=2):An x c=lq (s6 x.j6.toNat x.S).2:=bap h
def aBr(h:c.O=3):An x c=.empty:=ban GE
def aBn(h:c.O=1)(k:Ea x c):RI x.S c.o:=by rcases k.2 with⟨_,k⟩|⟨_,k⟩|⟨_,k⟩;exact k;omega;omega
def ake(h:c.O=2)(k:Ea x c):LG x:=by rcases k.2 with⟨_,k⟩|⟨_,k⟩|⟨_,k⟩;omega;exact k;omega
def aBo(h:c.O=3)(k:Ea x c):Gy x.eR x.V c.by_ c.sat:=by rcases k.2 with⟨_,k⟩|⟨_,k⟩|⟨_,k⟩;omega;omega;exact k
end
def SX(x:dg)(c:kb)(e:Int)(s:ByteArray)(a:dg):Prop:=(e=0/\Ea x c/\a=vP x c/\s=An x c)\/(e≠0/\¬Ea x c/\a=x/\s=.empty)
theorem adi(Q:mz)(k:dg)(d:kb)(w:World)(fw:dg.fd w Q k)(My:d.o.ok):
  Calls prog 4 #[.agg ((dg.cells Q k).toArray),.agg #[J d.O,J d.o.by_,J d.o.O,J d.o.H,J d.o.an.x,J d.o.an.y,J d.o.Y,J d.by_,J d.sat]] w (λ e w'=>∃(e':Int) (s:ByteArray) (dt:mz) (W:dg),e=.returned (.tuple #[.agg (dg.cells dt W).toArray,.string s,J e'])/\SX k d e' s W/\iG w' w.heap.size dt W/\Ext w w'):=by
 refine bT (n:=51) func4 Z Z Z ?_;refine cZ Z Z λ ch a6 aV cY c=>?_;have gp:=c.lt;refine gz Z Z λ dr b_ bh fl y=>?_;have bo:=Φ aV bh;have j8:=y.lt;refine cy L5 Z λ fx e_ M oM a=>?_;have:=M.size;have cj:=Φ bo M;have wF:=a.lt;refine va Z<|aG Z<|ar<|?_;have c:=c.O (Φ bh M);refine κ (aq Z (c.all kQ gC))<|ca aCO Z Z ((aHQ Q k _ (fw.be cj)).mono ?_);rintro e zp ⟨j,rfl,b,o⟩;refine cR ?_;have:=o.size;have ka:=Φ cj o;have r:=b4 b.lt;have u:=dZ b.lt;have c:=c.O o;refine st Z Z c Z gC Z Z Z λ C8 p c=>?_;have:=p.size;have q3:=Ext.H ka p bn;refine ax<|ar<|κ (aq Z (c.all kQ gC))<|?_;have b:=b.H p (bM λ q I l=>by have:=u q I;omega);refine ca aCP Z Z ((aGt j k _ b.bv).mono ?_);rintro e pM ⟨Y0,rfl,aa,g⟩;refine cR ?_;have:=g.size;have iE:=Φ q3 g;refine aG Z<|av<|aC Z<|cV Z Z<|ax<|?_;refine fr Z (λ O=>?_) (λ O=>?_)
 .refine ar<|?_;have c:=c.O g;refine κ (aq Z (c.all kQ gC))<|vm Z<|?_;have a:=((a.O o).H p aJ).O g;refine st Z Z a Z gC Z Z Z λ H3 Nf a=>?_;have mS:=Ext.H iE Nf bn;refine va Z<|bc Z<|bR<|cJ (.cell Z (a.all kQ gC) (.tmp Z (.tmp Z .nil)))<|?_;have b:=(b.O g).H Nf (bM λ q I l=>by have:=u q I;omega);exact⟨Y0,.empty,j,k,Z,.inr ⟨(by simpa using O),(λ f=>(show ¬Y0=0 by simpa using O) (aa.2 f.1)),Z,Z⟩,b.dq GE,mS⟩
 .have C:=aa.1 (by simpa using O);refine bf<|ar<|?_;have c:=c.O g;refine κ (aq Z (c.all kQ gC))<|cy L5 Z λ sN Y i aP t=>?_;have ku:=Φ iE i;have aK:=t.lt;refine st Z Z t Z gC Z Z Z λ KH h t=>?_;have:=h.size;have N:=Ext.H ku h bn;refine aG Z<|av<|ar<|κ (aj abk Z)<|?_;have y:=(((y.O (Φ M o)).H p aJ).O (Φ g i)).H h aJ;refine a1 Z y aH Z<|ax<|bp<|ar<|κ (beq Z Z)<|aG Z<|?_;refine j1 Z (λ xz=>?_) (λ xz=>?_)
  .have m:d.O=1:=GE
   refine rg<|κ (aj nN Z)<|?_;have c:=(c.O i).H h aJ;refine a1 Z c p4 Z<|κ (aj aCQ Z)<|κ (aq Z (y.Y [J d.o.by_,J d.o.O,J d.o.H,J d.o.an.x,J d.o.an.y,J d.o.Y] iw eu Z))<|?_;have b:=(b.O (Φ g i)).H h (bV r);refine ca aCR Z Z ((aPo _ _ j.U k.S d.o _ b.bv.U b.bv.S My).mono ?_);rintro e aM ⟨aw,ay,aI,aF,aE,rfl,VV,G,F,aL,x⟩;refine cR ?_;have K6:=Φ N x;have af:=dZ G.lt;have ae:=dZ F.lt;refine vm Z<|bL Z Z<|bL Z Z<|κ (aj nN Z)<|?_;have t:=t.O x;refine ep Z Z t Z Uy Z Z λ qq v t=>?_;have hQ:=Ext.H K6 v bn;refine va Z<|nl<|bK<|a7<|av<|aC Z<|cV Z Z<|ax<|?_;refine fr Z (λ H=>?_) (λ H=>?_)
   .refine ar<|?_;have c:=(c.O x).H v aJ;refine κ (aq Z (c.all kQ gC))<|vm Z<|?_;have a:=(((((a.O o).H p aJ).O (Φ g i)).H h aJ).O x).H v aJ;refine st Z Z a Z gC Z Z Z λ NR qe a=>?_;have vw:=Ext.H hQ qe bn;refine va Z<|bc Z<|bR<|cJ (.cell Z (a.all kQ gC) (.tmp Z (.tmp Z .nil)))<|?_;have b:=((b.O x).H v (bV r)).H qe (bM λ q I l=>by have:=u q I;omega);exact⟨aw,.empty,j,k,Z,.inr ⟨(by simpa using H),(λ f=>(VV.resolve_left λ B=>absurd B.1 (by simpa using H)).2.1 (aBn m f)),Z,Z⟩,b.dq GE,vw⟩
   .refine bf<|ar<|κ (aq Z (t.all kQ gC))<|vm Z<|?_;have a:=(((((a.O o).H p aJ).O (Φ g i)).H h aJ).O x).H v aJ;refine ck Z Z a Z gC Z Z λ NS L a=>?_;have FG:=Ext.H hQ L bn;refine va Z<|bc Z<|cJ (.cell Z (a.all kQ gC) (.tmp Z (.tmp Z .nil)))<|?_;have b:=((b.O x).H v (bV r)).H L (bM λ q I l=>by have:=u q I;omega);have G:=(G.H v (bx af)).H L (bx af);have F:=(F.H v (bM λ q I l=>by have:=ae q I;omega)).H L (bM λ q I l=>by have:=ae q I;omega);obtain⟨_,ai,ak⟩:=VV.resolve_right λ f=>f.1 (by simpa using H);exact⟨0,.empty,⟨j.a,j.A,j.c,j.T,ay,aI,aF,j.C,j.e⟩,{k with S:=aE},Z,.inl ⟨Z,⟨C,.inl ⟨m,ai⟩⟩,by rw[aaY m,ak],by rw[aBq m]⟩,⟨b.W.dq GE,b.T.dq GE,b.L.dq GE,G.dq GE,F.NF.dq GE,b.V.dq GE,fw.m⟩,FG⟩
  .refine ar<|κ (beq Z Z)<|aG Z<|?_;refine j1 Z (λ Qa=>?_) (λ Qa=>?_)
   .have m:d.O=2:=GE
    refine rg<|?_;have b:=(b.O (Φ g i)).H h (bV r);refine ca aCS Z Z ((aH9 Y fx.heap.size j k _ GE t b (λ q I l=>by (have:=r q I;omega)) C).mono ?_);rintro e NT ⟨aB,an,ag,ao,rfl,ab,az,E,A⟩;refine cR ?_;have qy:=Ext.H N A bn;have al:=dZ E.lt;refine vm Z<|bL Z Z<|bL Z Z<|va Z<|va Z<|nl<|bK<|a7<|av<|aC Z<|cV Z Z<|ax<|?_;refine fr Z (λ P=>?_) (λ P=>?_)
    .refine ar<|?_;have c:=((c.O i).H h aJ).H A aJ;refine κ (aq Z (c.all kQ gC))<|vm Z<|?_;have a:=((((a.O o).H p aJ).O (Φ g i)).H h aJ).H A aJ;refine st Z Z a Z gC Z Z Z λ aN oh a=>?_;have K7:=Ext.H qy oh bn;refine va Z<|bc Z<|bR<|cJ (.cell Z (a.all kQ gC) (.tmp Z (.tmp Z .nil)))<|?_;have b:=(b.H A (bV r)).H oh (bM λ q I l=>by have:=u q I;omega);exact⟨aB,.empty,j,k,Z,.inr ⟨(by simpa using P),(λ f=>(ab.resolve_left λ B=>absurd B.1 (by simpa using P)).2.1 (ake m f)),Z,Z⟩,b.dq GE,K7⟩
    .refine bf<|ar<|κ (aq Z (az.all kQ gC))<|vm Z<|?_;have a:=((((a.O o).H p aJ).O (Φ g i)).H h aJ).H A aJ;refine st Z Z a Z gC Z Z Z λ C_ R a=>?_;have pT:=Ext.H qy R bn;refine va Z<|bc Z<|cJ (.cell Z (a.all kQ gC) (.tmp Z (.tmp Z .nil)))<|?_;have b:=(b.H A (bV r)).H R (bM λ q I l=>by have:=u q I;omega);have E:=E.H R (bM λ q I l=>by have:=al q I;omega);obtain⟨_,T,U,QP,au⟩:=ab.resolve_right λ f=>f.1 (by simpa using P);exact⟨0,an,ag,ao,Z,.inl ⟨Z,⟨C,.inr (.inl ⟨m,T,U⟩)⟩,by rw[aaZ m,au],by rw[aa0 m,QP]⟩,E.dq GE,pT⟩
   .refine ar<|κ (beq Z Z)<|aG Z<|?_;refine j1 Z (λ xA=>?_) (λ xA=>?_)
    .have m:d.O=3:=GE
     refine rg<|κ (aj aCT Z)<|a1 Z y aH Z<|κ (aj aCU Z)<|a1 Z y aH Z<|?_;have b:=(b.O (Φ g i)).H h (bV r);refine ca aCV Z Z ((aGs Y fx.heap.size j k d.by_ d.sat _ GE t b (λ q I l=>by (have:=r q I;omega)) C).mono ?_);rintro e NZ ⟨aD,ah,ap,rfl,ad,aA,D,z⟩;refine cR ?_;have mV:=Ext.H N z bn;have am:=dZ D.lt;refine va Z<|nl<|bK<|a7<|av<|aC Z<|cV Z Z<|ax<|?_;refine fr Z (λ K=>?_) (λ K=>?_)
     .refine ar<|?_;have c:=((c.O i).H h aJ).H z aJ;refine κ (aq Z (c.all kQ gC))<|vm Z<|?_;have a:=((((a.O o).H p aJ).O (Φ g i)).H h aJ).H z aJ;refine st Z Z a Z gC Z Z Z λ Sc wq a=>?_;have BE:=Ext.H mV wq bn;refine va Z<|bc Z<|bR<|cJ (.cell Z (a.all kQ gC) (.tmp Z (.tmp Z .nil)))<|?_;have b:=(b.H z (bV r)).H wq (bM λ q I l=>by have:=u q I;omega);exact⟨aD,.empty,j,k,Z,.inr ⟨(by simpa using K),(λ f=>(ad.resolve_left λ B=>absurd B.1 (by simpa using K)).2.1 (aBo m f)),Z,Z⟩,b.dq GE,BE⟩
     .refine bf<|ar<|κ (aq Z (aA.all kQ gC))<|vm Z<|?_;have a:=((((a.O o).H p aJ).O (Φ g i)).H h aJ).H z aJ;refine st Z Z a Z gC Z Z Z λ N0 V a=>?_;have wX:=Ext.H mV V bn;refine va Z<|bc Z<|cJ (.cell Z (a.all kQ gC) (.tmp Z (.tmp Z .nil)))<|?_;have b:=(b.H z (bV r)).H V (bM λ q I l=>by have:=u q I;omega);have D:=D.H V (bM λ q I l=>by have:=am q I;omega);obtain⟨_,T,U⟩:=ad.resolve_right λ f=>f.1 (by simpa using K);exact⟨0,.empty,ah,ap,Z,.inl ⟨Z,⟨C,.inr (.inr ⟨m,T⟩)⟩,by rw[akd m,U],by rw[aBr m]⟩,D.dq GE,wX⟩
    .refine rg<|va Z<|nl<|bK<|a7<|av<|aC Z<|cV Z Z<|ax<|fB Z<|ar<|?_;have c:=(c.O i).H h aJ;refine κ (aq Z (c.all kQ gC))<|vm Z<|?_;have a:=(((a.O o).H p aJ).O (Φ g i)).H h aJ;refine st Z Z a Z gC Z Z Z λ aO X a=>?_;have K8:=Ext.H N X bn;refine va Z<|bc Z<|bR<|cJ (.cell Z (a.all kQ gC) (.tmp Z (.tmp Z .nil)))<|?_;have b:=((b.O (Φ g i)).H h (bV r)).H X (bM λ q I l=>by have:=u q I;omega);exact⟨1,.empty,j,k,Z,.inr ⟨GP,(λ f=>by rcases f.2 with⟨f,_⟩|⟨f,_⟩|⟨f,_⟩<;>omega),Z,Z⟩,b.dq GE,K8⟩
end
section
variable{m:Nat}
open fg
def mz.zero:mz:=⟨⟨none,none,none,none,none,0,0,0,0,0⟩,none,0,[],none,0,[],none,0⟩
def dg.zero:dg:=⟨ag.zero,[],[],0,[],0⟩
def iG.zero(w:World)(aQ:Nat):iG w aQ mz.zero dg.zero:=⟨bF.zero _ _,τ.aM.nil _,kd.nil _ _,τ.aM.nil _,jG.nil _ _,τ.aM.nil _,GP⟩
def aeY(h:m<32):2 ^ m-1<4294967296:=by have:=b9.Kd h;omega
def HF(W:ag)(n:Int):dg:=⟨W,[],List.replicate W.aT.length ⟨[],0,false⟩,2 ^ W.aT.length-1,List.replicate 16 0,n⟩
def aqN(W:ag)(n:Int):Prop:=W.br=0/\W.aT.length≠0/\1<=n/\n<=100
def ahX(W:ag)(n e:Int)(x:dg):Prop:=(e=0/\aqN W n/\x=HF W n)\/(e≠0/\¬aqN W n/\x=dg.zero)
section
variable{P:Program}{E:List (Nat×Value)}{w:World}{d:Option Nat}{ty:TypeId}{pos:String}{af:Array Edge}{g:Option (Nat×Bool)}{x y:Operand}{t u:TypeId}
theorem aQS(c:ev E x=some (.int .u32 ((2 ^ m:Nat):Int)))(b:ev E y=some (.int .u32 1))(a:m<32):dc P E ⟨d,.binOp .sub t x y u,ty,pos,af,g⟩ w (.int .u32 ((2 ^ m-1:Nat):Int)) w:=by
 have h:=azg (P:=P) (w:=w) (d:=d) (ty:=ty) (pos:=pos) (af:=af) (g:=g) (t:=t) (u:=u) c b;have e:=b9.Kd a;have f:0<2 ^ m:=bcx m
 rwa [show(((2 ^ m:Nat):Int)-1)=((2 ^ m-1:Nat):Int) by omega,b9.Yg _ (bb9 _) (Int.ofNat_lt.2 (aeY a))]at h
end
theorem aHE(a:ag.cS)(W:ag)(n:Int)(w:World)(bk:ag.fd w a W):
  Calls prog 14 #[.agg ((ag.cells a W).toArray),J n] w (λ e w'=>∃(e':Int) (dt:mz) (vl:dg),e=.returned (.tuple #[.agg (dg.cells dt vl).toArray,J e'])/\ahX W n e' vl/\iG w' w.heap.size dt vl/\Ext w w'):=by
 refine bT (n:=49) func14 Z Z Z ?_;refine cZ Z Z λ ch a6 aV cY g=>?_;have gp:=g.lt;refine cy L5 Z λ dr b_ bh fl f=>?_;have:=bh.size;have bo:=Φ aV bh;have j8:=f.lt;refine aG Z<|ar<|?_;have g:=g.O bh;refine κ (aq Z (g.all cD bP))<|ca Px Z Z ((RH a W _ _ ([]:List gV) ([]) _ (bk.be bo) (τ.aF.nil _) lU.nil).mono ?_);rintro e wL ⟨Dt,d,b,Yz,aD,ak,rfl,Hm,G,Zp,au,M⟩;refine cR ?_;have:=M.size;have jW:=Φ bo M;have pK:=b4 G.lt;have mg:=dZ G.lt;refine vm Z<|bL Z Z<|bL Z Z<|bL Z Z<|?_;have g:=g.O M;refine st Z Z g Z bP Z Z Z λ zp A g=>?_;have:=A.size;have ka:=Ext.H jW A bn;refine va Z<|aG Z<|av<|aC Z<|cV Z Z<|ax<|?_;refine fr Z (λ X=>?_) (λ X=>?_)
 .refine ar<|κ (v:=.agg #[J 0,J 0,.slice none 0 0,.slice none 0 0,.slice none 0 0,.slice none 0 0,.slice none 0 0,J 0,J 0,.slice none 0 0,.slice none 0 0,.int .u32 0,.slice none 0 0,J 0]) (ee Z)<|vm Z<|?_;have f:=(f.O M).H A aJ;refine ck Z Z f Z gC Z Z λ vk oP f=>?_;have gw:=Ext.H ka oP bn;refine bc Z<|bR<|cJ (.cell Z (f.all kQ gC) (.tmp Z .nil))<|?_;exact⟨Dt,mz.zero,dg.zero,Z,.inr ⟨(by simpa using X),(λ bu=>(show ¬Dt=0 by simpa using X) (Hm.XC.2 ⟨Kx,bu.1,rfl⟩)),Z⟩,iG.zero _ _,gw⟩
 .obtain⟨_,nR,_,E,_⟩:=Hm.ok (by simpa using X);have E:b=W:=E;refine bf<|ar<|κ (aj lY Z)<|a1 Z g lZ Z<|κ (bY underlying25 Z)<|aG Z<|av<|aC Z<|κ (beq Z Z)<|vm Z<|er Z Z<|iD Z akL (λ hc=>b6 (gt hc Z) Z) (λ hc=>anA n _) λ xX k=>?_;have:=k.size;have lu:=Φ ka k;refine aR Z (λ hc=>dj (gt hc Z))<|κ (dS Z Z Z Z)<|ax<|?_;refine dB Z (λ CA=>?_) (λ CA=>?_)
  .simp only[cb]at CA;refine ar<|κ (v:=.agg #[J 0,J 0,.slice none 0 0,.slice none 0 0,.slice none 0 0,.slice none 0 0,.slice none 0 0,J 0,J 0,.slice none 0 0,.slice none 0 0,.int .u32 0,.slice none 0 0,J 0]) (ee Z)<|?_;have f:=((f.O M).H A aJ).O k;refine ck Z Z f Z gC Z Z λ KF AZ f=>?_;have qv:=Ext.H lu AZ bn;refine bc Z<|bR<|cJ (.cell Z (f.all kQ gC) (.tmp Z .nil))<|?_;exact⟨1,mz.zero,dg.zero,Z,.inr ⟨GP,(λ bu=>by rw[<-E]at bu;have:=bu.2;omega),Z⟩,iG.zero _ _,qv⟩
  .simp only[cb]at CA;have dx:1<=b.aT.length:=GE
   have Mu:b.aT.length<=8:=by rw[E];exact(Good.G nR).l5
   have Vq:b.aT.length<32:=GE
   refine bf<|aC Z<|ca aCW Z Z ((aPe b.aT.length dx Mu _).mono ?_);rintro e rJ ⟨Y,LO,rfl,s,p,ah,x⟩;refine cR ?_;have:=x.size;have gU:=Φ lu x;have tN:=b4 s.lt;have tF:=dZ s.lt;have ab:=b4 p.lt;have aa:=dZ p.lt;refine vm Z<|bL Z Z<|bL Z Z<|va Z<|aG Z<|av<|?_;refine aNC [(3,2),(5,2),(6,3)] [0,1,2] 3 [4,5,6] 5 [3,4,6] GT GT ?_;refine bt Z Z<|aA Z (λ _=>X0 (m:=b.aT.length) Z Z Z Vq)<|aA Z (λ _=>aQS (m:=b.aT.length) Z Z Vq)<|fn λ KH h=>?_;have:=h.size;have oB:=Φ gU h;refine aEw ?_ ?_
   .refine fO Z Z Z λ NN o Q i=>JY (R:=dY.ce) (by_:=4) (B:=w.heap.size) (c:=16) (zv:=dY.zero) (q:=0) τ.nc underlying35 dY.G Z Z dY.M (λ _=>⟨Z,GP⟩) Z Z Z GE GE (by have:=o.size;omega) λ H6 P z ay LF=>i _ _ ⟨Φ o z,?_⟩;have:=o.size;have yg:=Φ oB o;have:=z.size;have sR:=Φ yg z;have Kz:=b4 LF.lt;have ad:∀ q∈τ.ai (bd P),P<=q:=λ q I=>bbz (bah.1 I).symm;refine p5 (v:=.agg #[.int .u32 (((2 ^ b.aT.length-1:Nat):Int)),.slice (bd P) 16 16]) Z Z (λ _=>kg Z GT) Z<|fO Z Z Z λ KJ l Q i=>cy Ux Z λ NR aB y ai O=>i _ _ ⟨Φ l y,?_⟩;have:=l.size;have vv:=Φ sR l;have vw:=Φ vv y;refine en Z Z Z λ Fo C Q i=>ck Z Z (O.O C) Z ky Z Z λ R9 L O=>i _ _ ?_;have o4:=Φ vw C;have BA:=Ext.H o4 L bn;refine fn λ NU u=>?_;have qz:=Φ BA u;refine a7<|ar<|?_;have g:=((g.O (Φ k (Φ x (Φ h (Φ o (Φ z (Φ l (Φ y C)))))))).H L aJ).O u;refine κ (aq Z (g.all cD bP))<|κ (v:=.agg #[J b.am.O,J b.am.high,.slice d.P b.am.G.length d.p,.slice d.B b.aT.length d.b,.slice d.S b.bl.length d.s,.slice d.M b.bE.length d.m,.slice d.T b.ah.length d.t,J b.next,J b.db,.slice none 0 0]) (ee Z)<|vm Z<|?_;have O:=O.O u;refine κ (aq Z (O.all oc ky))<|vm Z<|κ (v:=.agg #[J b.am.O,J b.am.high,.slice d.P b.am.G.length d.p,.slice d.B b.aT.length d.b,.slice d.S b.bl.length d.s,.slice d.M b.bE.length d.m,.slice d.T b.ah.length d.t,J b.next,J b.db,.slice none 0 0,.slice Y ((List.replicate b.aT.length (default:bU)).length) LO,.int .u32 (((2 ^ b.aT.length-1:Nat):Int)),.slice (bd P) 16 16,J n]) (ee Z)<|?_;have f:=((((f.O M).H A aJ).O (Φ k (Φ x (Φ h (Φ o (Φ z (Φ l (Φ y C)))))))).H L aJ).O u;refine ck Z Z f Z gC Z Z λ C_ U f=>?_;have pT:=Ext.H qz U bn;refine bc Z<|cJ (.cell Z (f.all kQ gC) (.tmp Z .nil))<|?_;have G:=((((G.H A (bx mg)).O (Φ k (Φ x (Φ h (Φ o (Φ z (Φ l (Φ y C)))))))).H L (bV pK)).O u).H U (bx mg);have s:=(((s.O (Φ h (Φ o (Φ z (Φ l (Φ y C)))))).H L (bV tN)).O u).H U (bx tF);have p:=(((p.O (Φ h (Φ o (Φ z (Φ l (Φ y C)))))).H L (bV ab)).O u).H U (bM λ q I ae=>by have:=aa q I;omega);have LF:=(((LF.O (Φ l (Φ y C))).H L (bV Kz)).O u).H U (bx ad);have T:HF W n=⟨b,[],List.replicate b.aT.length ⟨[],0,false⟩,2 ^ b.aT.length-1,List.replicate 16 0,n⟩:=by unfold HF;rw[E]
    exact⟨0,⟨d,none,0,[],Y,LO,List.replicate b.aT.length default,some ⟨P,0,none⟩,16⟩,HF W n,by rw[T];rfl,.inl ⟨rfl,⟨nR,by rw[<-E];omega,GE⟩,rfl⟩,by rw[T];exact⟨G.dq GE,τ.aM.nil _,kd.nil _ _,s.dq GE,p.NF.dq GE,LF.dq GE,aeY Vq⟩,pT⟩
   .refine fO Z Z Z λ Sa D Q i=>cy Ux Z λ NY an N ao r=>i _ _ ⟨Φ D N,?_⟩;have:=D.size;have BC:=Φ oB D;have tT:=Φ BC N;have al:=r.lt;refine fO Z Z Z λ N0 j Q i=>JY (R:=dY.ce) (by_:=4) (B:=w.heap.size) (c:=16) (zv:=dY.zero) (q:=0) τ.nc underlying35 dY.G Z Z dY.M (λ _=>⟨Z,GP⟩) Z Z Z GE GE (by have:=j.size;omega) λ Ya S F ap Zu=>i _ _ ⟨Φ j F,?_⟩;have:=j.size;have wX:=Φ tT j;have FK:=Φ wX F;have Wo:∀ q∈τ.ai (bd S),S<=q:=λ q I=>bbz (bah.1 I).symm;refine p5 (v:=.agg #[.int .u32 (((2 ^ b.aT.length-1:Nat):Int)),.slice (bd S) 16 16]) Z Z (λ _=>kg Z GT) Z<|?_;have r:=r.O (Φ j F);refine en Z Z Z λ am t Q i=>ck Z Z (r.O t) Z ky Z Z λ R5 K r=>i _ _ ?_;have af:=Φ FK t;have zD:=Ext.H af K bn;refine fn λ az H=>?_;have Su:=Φ zD H;refine a7<|ar<|?_;have g:=((g.O (Φ k (Φ x (Φ h (Φ D (Φ N (Φ j (Φ F t)))))))).H K aJ).O H;refine κ (aq Z (g.all cD bP))<|κ (v:=.agg #[J b.am.O,J b.am.high,.slice d.P b.am.G.length d.p,.slice d.B b.aT.length d.b,.slice d.S b.bl.length d.s,.slice d.M b.bE.length d.m,.slice d.T b.ah.length d.t,J b.next,J b.db,.slice none 0 0]) (ee Z)<|vm Z<|?_;have r:=r.O H;refine κ (aq Z (r.all oc ky))<|vm Z<|κ (v:=.agg #[J b.am.O,J b.am.high,.slice d.P b.am.G.length d.p,.slice d.B b.aT.length d.b,.slice d.S b.bl.length d.s,.slice d.M b.bE.length d.m,.slice d.T b.ah.length d.t,J b.next,J b.db,.slice none 0 0,.slice Y ((List.replicate b.aT.length (default:bU)).length) LO,.int .u32 (((2 ^ b.aT.length-1:Nat):Int)),.slice (bd S) 16 16,J n]) (ee Z)<|?_;have f:=((((f.O M).H A aJ).O (Φ k (Φ x (Φ h (Φ D (Φ N (Φ j (Φ F t)))))))).H K aJ).O H;refine ck Z Z f Z gC Z Z λ aw V f=>?_;have K1:=Ext.H Su V bn;refine bc Z<|cJ (.cell Z (f.all kQ gC) (.tmp Z .nil))<|?_;have G:=((((G.H A (bx mg)).O (Φ k (Φ x (Φ h (Φ D (Φ N (Φ j (Φ F t)))))))).H K (bV pK)).O H).H V (bx mg);have s:=(((s.O (Φ h (Φ D (Φ N (Φ j (Φ F t)))))).H K (bV tN)).O H).H V (bx tF);have p:=(((p.O (Φ h (Φ D (Φ N (Φ j (Φ F t)))))).H K (bV ab)).O H).H V (bM λ q I ae=>by have:=aa q I;omega);have Zu:=(((Zu.O t).H K (bx Wo)).O H).H V (bx Wo);have T:HF W n=⟨b,[],List.replicate b.aT.length ⟨[],0,false⟩,2 ^ b.aT.length-1,List.replicate 16 0,n⟩:=by unfold HF;rw[E]
    exact⟨0,⟨d,none,0,[],Y,LO,List.replicate b.aT.length default,some ⟨S,0,none⟩,16⟩,HF W n,by rw[T];rfl,.inl ⟨rfl,⟨nR,by rw[<-E];omega,GE⟩,rfl⟩,by rw[T];exact⟨G.dq GE,τ.aM.nil _,kd.nil _ _,s.dq GE,p.NF.dq GE,Zu.dq GE,aeY Vq⟩,K1⟩
end
section
variable{V:ag}{ls:List ByteArray}{k:Nat}{m:List aS}
open fg
def aPz{by_:Nat}{w:World}{A:Option Addr}{c:Nat}{l:List ByteArray}(h:Ko.aF by_ w A c l):∀ s∈l,s.size<=140737488351232:=τ.aF.D1 (R:=Ko) (Q:=λ s:ByteArray=>s.size<=140737488351232) (λ{w cs a} (h:Ko.bv w cs a)=>(show cs=[.string a]/\a.size<=140737488351232 from h).2) h
def FU(W:ag)(a:List ByteArray)(k:Nat)(V:ag)(M:List (List aS)):Prop:=M.length=k/\a.take k=M.map lq/\(∀ m∈M,iN m=0/\(∀ o∈m,o.ok)/\Gf (lq m) m 0)/\lI W M=0/\V=qj W M
def FU.start{W:ag}(h:V=qj W []):FU W ls 0 V []:=⟨rfl,rfl,λ m h=>by simp at h,rfl,h⟩
theorem FU.next{W:ag}{M:List (List aS)}{s:ByteArray}(h:FU W ls k V M)(j:ls[k]? =some s)(l:iN m=0)(g:lq m=s)(p:∀ o∈m,o.ok){f:Int}(r:Gf s m f)(n:f=0)(q:ji V m=0):FU W ls (k+1) (oU V m) (M++ [m]):=by
 obtain⟨a,b,c,d,e⟩:=h;refine⟨by rw[bam,a];rfl,?_,?_,?_,?_⟩
 .rw[baJ,<-b,List.map_singleton,g];exact C2 j
 .intro t i;rcases bas.1 i with h|h
  .exact c t h
  .rw[bah.1 h];refine⟨l,p,?_⟩;rw[g,<-n];exact r
 .rw[RG,ban (by rw[d];simp),Xr,<-e];exact q
 .rw[asc,<-e];rfl
def ahC(W:ag)(a:List ByteArray)(V:ag)(k:Nat):Prop:=k<=a.length/\∃ M,FU W a k V M/\(k=a.length\/∀ m,iN m=0->(∀ o∈m,o.ok)->a[k]? =some (lq m)->ji V m≠0)
def aRF{l:List aS}(h:iN l=0)(a:∀ o∈l,o.ok)(b:Gf (lq m) m 0)(c:lq l=lq m):l=m:=(aeZ h a (by rw[c];exact b)).2.symm
def aug:∀ {L M:List (List aS)},(∀ m∈L,iN m=0/\∀ o∈m,o.ok)->(∀ m∈M,Gf (lq m) m 0)->L.map lq=M.map lq->L=M
 | [],[],_,_,_=>rfl
 | [],_::_,_,_,h=>by simp at h
 | _::_,[],_,_,h=>by simp at h
 | l::L,m::M,a,c,h=>by
  rw[ba5,ba5]at h;obtain⟨d,e⟩:=bdH h;rw[aRF (a l (baZ)).1 (a l (baZ)).2 (c m (baZ)) d,aug (λ x b=>a x (bav _ b)) (λ x b=>c x (bav _ b)) e]
theorem aEA{W:ag}{L:List (List aS)}(h:ahC W (L.map lq) V k)(r:∀ m∈L,iN m=0/\∀ o∈m,o.ok)(s:lI W L=0):k=L.length/\V=qj W L:=by
 obtain⟨u,M,⟨a,b,c,d,e⟩,f⟩:=h;rw[bbd]at u f;have g:L.take k=M:=aug (λ m j=>r m (bcK j)) (λ m j=>(c m j).2.2) (by rw[<-b,be4]);rcases f with f|f
 .rw[f,ba7]at g;exact⟨f,by rw[e,g]⟩
 .rcases ba2 k L.length with q|v
  .have l:L[k]? =some L[k]:=bac q;have n:=r _ (bbl q);refine absurd ?_ (f L[k] n.1 n.2 (by rw[bau,l];rfl));have t:lI W (L.take k)=0:=bbt λ i=>Xs i s;have p:lI W (L.take (k+1))=0:=bbt λ i=>Xs i s;rw[afv t l]at p;rw[e,<-g];exact p
  .have:k=L.length:=GE
   rw[this,ba7]at g;exact⟨this,by rw[e,g]⟩
def Y5(W:ag)(a:List ByteArray)(e:Int)(V:ag)(k:Nat):Prop:=(e=0/\(a.length<=200/\W.br=0)/\ahC W a V k)\/(e≠0/\¬(a.length<=200/\W.br=0)/\V=ag.zero/\k=0)
theorem aGN(a:ag.cS)(W:ag)(A:Option Addr)(c:Nat)(f:List ByteArray)(w:World)(bk:ag.fd w a W)(K:Ko.aF 16 w A c f):
  Calls prog 16 #[.agg ((ag.cells a W).toArray),.slice A f.length c] w (λ e w'=>∃(e':Int) (k:Nat) (a':ag.cS) (V:ag),e=.returned (.tuple #[.agg (ag.cells a' V).toArray,J (k:Int),J e'])/\Y5 W f e' V k/\bF w' w.heap.size a' V/\Ext w w'):=by
 have nS:=K.M;refine bT (n:=61) func16 Z Z Z ?_;refine cZ Z Z λ ch a6 aV cY t=>?_;have gp:=t.lt;refine cy nO Z λ dr b_ bh fl b=>?_;have:=bh.size;have bo:=Φ aV bh;have j8:=b.lt;refine va Z<|aG Z<|av<|aC Z<|κ (bY underlying66 Z)<|κ (gy Z Z)<|ax<|?_;refine c7 Z (λ hk=>?_) (λ hk=>?_)
 .refine ar<|κ (v:=.agg #[J 0,J 0,.slice none 0 0,.slice none 0 0,.slice none 0 0,.slice none 0 0,.slice none 0 0,J 0,J 0]) (ee Z)<|ck Z Z b Z bP Z Z λ rH wm b=>?_;have ib:=Ext.H bo wm bn;refine va Z<|bc Z<|bR<|cJ (.cell Z (b.all cD bP) (.tmp Z (.tmp Z .nil)))<|?_;exact⟨2,0,⟨none,none,none,none,none,0,0,0,0,0⟩,ag.zero,Z,.inr ⟨GP,(λ bu=>GE),Z,Z⟩,bF.zero _ _,ib⟩
 .have ni:f.length<=200:=GE
  refine bf<|ar<|?_;have t:=t.O bh;refine κ (aq Z (t.all cD bP))<|ca Px Z Z ((RH a W _ _ ([]:List gV) ([]) _ (bk.be bo) (τ.aF.nil _) lU.nil).mono ?_);rintro e ow ⟨aj,al,aA,a5,a9,aZ,rfl,ak,T,aK,aB,L⟩;refine cR ?_;have fP:=Φ bo L;have U:=dZ T.lt;refine vm Z<|bL Z Z<|bL Z Z<|bL Z Z<|?_;have t:=t.O L;refine st Z Z t Z bP Z Z Z λ vk Q t=>?_;have gw:=Ext.H fP Q bn;refine va Z<|aG Z<|av<|aC Z<|cV Z Z<|ax<|?_;refine fr Z (λ P=>?_) (λ P=>?_)
  .refine ar<|κ (v:=.agg #[J 0,J 0,.slice none 0 0,.slice none 0 0,.slice none 0 0,.slice none 0 0,.slice none 0 0,J 0,J 0]) (ee Z)<|vm Z<|?_;have b:=(b.O L).H Q aJ;refine ck Z Z b Z bP Z Z λ H2 HC b=>?_;have vu:=Ext.H gw HC bn;refine va Z<|bc Z<|bR<|cJ (.cell Z (b.all cD bP) (.tmp Z (.tmp Z .nil)))<|?_;exact⟨aj,0,⟨none,none,none,none,none,0,0,0,0,0⟩,ag.zero,Z,.inr ⟨(by simpa using P),(λ bu=>(show ¬aj=0 by simpa using P) (ak.XC.2 ⟨Kx,bu.2,rfl⟩)),Z,Z⟩,bF.zero _ _,vu⟩
  .obtain⟨_,nR,_,po,_⟩:=ak.ok (by simpa using P);refine bf<|av<|aC Z<|κ (bY underlying66 Z)<|vm Z<|ax<|bp<|?_;have T:=T.H Q (bx U);have b:=(b.O L).H Q aJ;refine di (λ bJ bH H=>∃ k:Nat,∃ s:ag.cS,∃ h:ag,∃ M:List (List aS),bH=[(1,.slice A f.length c),(2,.pointer (bd a6)),(4,.pointer (bd b_)),(29,.slice A f.length c),(30,J (f.length:Int)),(31,J (k:Int))]/\bJ=f.length-k/\Ext w H/\aO H b_ [J 0,J 0,.slice none 0 0,.slice none 0 0,.slice none 0 0,.slice none 0 0,.slice none 0 0,J 0,J 0] 28 (0,0)/\aO H a6 (ag.cells s h) 28 (0,0)/\bF H w.heap.size s h/\(k<=f.length)/\(FU W f k h M)/\(∀ q∈bF.G s,q=a6->False)/\(∀ q∈bF.G s,q=b_->False)) _ _ ⟨0,al,aA,[],Z,Z,gw,b,t,(T.dq GE),GE,FU.start po,(λ q I ae=>by exfalso;(have:=U q I;omega)),(λ q I ae=>by exfalso;(have:=U q I;omega))⟩ (c' Z Z Z) ?_;rintro xM a1 wN ⟨k,s,h,M,rfl,rfl,N,b,d,g,au,S,am,ad⟩;have a3:=b.lt;have aE:=d.lt;have E:=b4 g.lt;refine ar<|cF Z Z<|ax<|av<|?_;refine c7 Z (λ P9=>?_) (λ P9=>?_)
   .have MG:f[k]? =some (f.getD k ByteArray.empty):=cg GE;refine bf<|av<|bp<|aC Z<|κ (bD k underlying66 aCX Z Z ((K.be N).Y (aL k)) Z GE)<|κ (aq Z (τ.aF.H aGr ((K.be N).O (aL k)) (cg (l:=f) (u:=ByteArray.empty) GE) Z aCY))<|va Z<|aG Z<|aC Z<|ca aCZ Z Z ((aMb (f.getD k ByteArray.empty) _ (aPz K _ (gZ GE))).mono ?_);rintro e KI ⟨D,ap,aI,a2,G,rfl,ai,i⟩;refine cR ?_;have:=i.size;have pR:=Φ N i;have an:=aNN G;have ao:∀ o∈D,o.ok:=aS.C ai.bv;refine vm Z<|bL Z Z<|bL Z Z<|va Z<|aG Z<|av<|aC Z<|cV Z Z<|ax<|?_;refine fr Z (λ r_=>?_) (λ r_=>?_)
    .refine ar<|?_;have d:=d.O i;refine κ (aq Z (d.all cD bP))<|vm Z<|?_;have b:=b.O i;refine st Z Z b Z bP Z Z Z λ Bq h_ b=>?_;have mT:=Ext.H pR h_ bn;refine va Z<|bc Z<|bR<|dO<|bR<|k1<|dO<|bR<|cJ (.cell Z (b.all cD bP) (.tmp Z (.tmp Z .nil)))<|?_;have g:=(g.O i).H h_ (bM ad);exact⟨0,k,s,h,Z,.inl ⟨Z,⟨ni,nR⟩,⟨GE,M,S,.inr λ m aa ab C=>by rw[MG]at C;have af:=bae C;have ah:=(aeZ aa ab (by rw[<-af];exact G)).1;exact absurd ah (by simpa using r_)⟩⟩,g,mT⟩
    .have si:ap=0:=by simpa using r_
     obtain⟨nU,MT⟩:=an.1 si;refine bf<|ar<|?_;have d:=d.O i;refine κ (aq Z (d.all cD bP))<|vm Z<|?_;have g:=g.O i;refine ca abe Z Z ((RU s h _ _ D _ g.bv ai.bv).mono ?_);rintro e Fm ⟨F,aw,aR,ay,aT,az,aU,rfl,B,aM,aN,aP,Vv,z⟩;refine cR ?_;have:=z.size;have nC:=Φ pR z;have Fj:=b4 B.lt;have Y:=dZ B.lt;have aW:∀ q∈τ.ai aw,q∈bF.G F->False:=λ q I=>Vv q (.inl I);have aX:∀ q∈τ.ai ay,q∈bF.G F->False:=λ q I=>Vv q (.inr (.inl I));have aY:∀ q∈τ.ai az,q∈bF.G F->False:=λ q I=>Vv q (.inr (.inr I));refine vm Z<|bL Z Z<|bL Z Z<|bL Z Z<|cy nO Z λ a4 aQ y a0 x=>?_;have SD:=Φ nC y;have aF:=x.lt;refine cy GM Z λ Fq a8 j aD R=>?_;have yl:=Φ SD j;have x:=x.O j;refine st Z Z x Z bP Z Z Z λ aH p x=>?_;have N_:=Ext.H yl p bn;have R:=R.H p aJ;refine ck Z Z R Z yL Z Z λ NY r R=>?_;have tT:=Ext.H N_ r bn;refine aG Z<|av<|aC Z<|cV Z Z<|ax<|?_;refine fr Z (λ X=>?_) (λ X=>?_)
     .refine ar<|?_;have d:=((d.O (Φ z (Φ y j))).H p aJ).H r aJ;refine κ (aq Z (d.all cD bP))<|vm Z<|?_;have b:=((b.O (Φ i (Φ z (Φ y j)))).H p aJ).H r aJ;refine st Z Z b Z bP Z Z Z λ X' wu b=>?_;have FJ:=Ext.H tT wu bn;refine va Z<|bc Z<|bR<|dO<|bR<|k1<|dO<|bR<|cJ (.cell Z (b.all cD bP) (.tmp Z (.tmp Z .nil)))<|?_;have g:=(((g.O (Φ z (Φ y j))).H p (bV E)).H r (bV E)).H wu (bM ad);exact⟨0,k,s,h,Z,.inl ⟨Z,⟨ni,nR⟩,⟨GE,M,S,.inr λ m aa ab C=>by rw[MG]at C;have af:=bae C;have ah:=(aeZ aa ab (by rw[<-af];exact G)).2;rw[<-ah];simpa using X⟩⟩,g,FJ⟩
     .have y4:ji h D=0:=by simpa using X
      refine bf<|rg<|?_;have x:=x.H r aJ;refine κ (aq Z (x.all cD bP))<|?_;have d:=((d.O (Φ z (Φ y j))).H p aJ).H r aJ;refine st Z Z d Z bP Z Z Z λ Sf O d=>?_;have vx:=Ext.H tT O bn;refine nl<|bK<|cW Z Z Z<|?_;have b:=(((b.O (Φ i (Φ z (Φ y j)))).H p aJ).H r aJ).H O aJ;have g:=(((g.O (Φ z (Φ y j))).H p (bV E)).H r (bV E)).H O (bM am);have B:=(((B.O (Φ y j)).H p (bV Fj)).H r (bV Fj)).H O (bx Y);exact cM ⟨k+1,F,oU h D,M++ [D],Z,Z,vx,b,d,(B.dq GE),GE,S.next MG nU MT ao G si y4,(λ q I ae=>by exfalso;(have:=Y q I;omega)),(λ q I ae=>by exfalso;(have:=Y q I;omega))⟩
   .refine cI<|cH<|cU<|cG<|a7<|ar<|κ (aq Z (d.all cD bP))<|vm Z<|κ (bY underlying66 Z)<|st Z Z b Z bP Z Z Z λ KL uP b=>?_;have oC:=Ext.H N uP bn;refine va Z<|bc Z<|cJ (.cell Z (b.all cD bP) (.tmp Z (.tmp Z .nil)))<|?_;have g:=g.H uP (bM ad);exact⟨0,f.length,s,h,Z,.inl ⟨Z,⟨ni,nR⟩,⟨bao _,M,(by rw[show f.length=k by omega];exact S),.inl Z⟩⟩,g,oC⟩
def aGO(a:ag.cS)(W:ag)(A:Option Addr)(c:Nat)(b:List ByteArray)(n:Nat)(w:World)(i:b.length=n)(h:ag.fd w a W)(g:Ko.aF 16 w A c b):Calls prog 16 #[.agg (ag.cells a W).toArray,.slice A n c] w (λ e w'=>∃(f:Int) (k:Nat) (d:ag.cS) (V:ag),e=.returned (.tuple #[.agg (ag.cells d V).toArray,J (k:Int),J f])/\Y5 W b f V k/\bF w' w.heap.size d V/\Ext w w'):=by
 subst i;exact aGN a W A c b w h g
end
section
open fg
def aBp{x b:dg}{c:kb}{e:Int}{s:ByteArray}(h:SX x c e s b):s.size<=140737488351232:=by
 have a:(ByteArray.empty).size<=140737488351232:=GP
 rcases h with⟨_,_,_,rfl⟩|⟨_,_,_,rfl⟩
 .unfold An;split
  .exact auf _
  .exact a
 .exact a
def asO:dg:=HF mO 5
def a2g:kb:=⟨1,⟨0,3,1,⟨2,0⟩,0⟩,0,0⟩
def RO:dg:={asO with S:=[⟨qp,0,false⟩]}
def asR:qF mO []:=⟨GP,by decide +kernel,rfl⟩
def asP:t_ asO:=⟨asR,⟨GP,GP,λ i s h=>by
 match i,h with
 | 0,h=>obtain rfl:=bae h;exact⟨GP,GP⟩⟩,⟨Z,by decide +kernel⟩,GP,GP,GP,λ i s h=>by
 match i,h with
 | 0,h=>obtain rfl:=bae h;rfl⟩
def aPb:t_ RO:=⟨asR,⟨GP,GP,λ i s h=>by
 match i,h with
 | 0,h=>obtain rfl:=bae h;exact⟨GP,by decide +kernel⟩⟩,⟨Z,by decide +kernel⟩,GP,GP,GP,λ i s h=>by
 match i,h with
 | 0,h=>obtain rfl:=bae h;rfl⟩
def afH:s6 RO.j6.toNat RO.S=([⟨[],0,false⟩],qp):=by decide +kernel
def aPc:LG RO:=by
 unfold LG;rw[afH];exact⟨GP,afV.1⟩
theorem aKn{f g i n:Int}{j a l:dg}{E c:ByteArray}{V:ag}{k:Nat}(u:ahX mO 5 f j)(v:SX j ⟨1,⟨0,3,1,⟨2,0⟩,0⟩,0,0⟩ g E a)(w:SX a ⟨2,⟨0,0,0,⟨0,0⟩,0⟩,0,0⟩ i c l)(x:Y5 mO [c] n V k):
  f=0/\g=0/\i=0/\n=0/\k=1/\l.L.length=1/\V=afR:=by
 obtain⟨z,_,rfl⟩:=u.resolve_right λ h=>h.2.1 ⟨by decide +kernel,GP,GP⟩;obtain⟨q,_,r,_⟩:=v.resolve_right λ h=>h.2.1 ⟨asP,.inl ⟨rfl,asP.2.1,by decide +kernel,⟨[],0,false⟩,rfl,rfl,GP⟩⟩;have s:a=RO:=by rw[r,aaY rfl];rfl
 subst s;obtain⟨t,_,b,d⟩:=w.resolve_right λ h=>h.2.1 ⟨aPb,.inr (.inl ⟨rfl,aPc⟩)⟩;rw[aaZ rfl]at b;rw[aa0 rfl,afH]at d;obtain⟨p,_,e⟩:=x.resolve_right λ h=>h.2.1 ⟨Kx,by decide +kernel⟩;have B:∀ m∈ [qp],iN m=0/\∀ o∈m,o.ok:=λ m D=>by
  rw[bah.1 D];exact⟨by decide +kernel,λ o y=>by rw[bah.1 y];exact⟨b7.2 GP,b7.2 GP,b7.2 GP,b7.2 GP,b7.2 GP,b7.2 GP⟩⟩
 rw[d]at e;obtain⟨C,A⟩:=aEA (L:=[qp]) e B (by rw[Xr];exact afV.1);exact⟨z,q,t,p,C,by rw[b];unfold Nz;rw[afH];rfl,by rw[A];exact afV.2.1⟩
theorem anP(w:World):
  Calls prog 5 #[] w (λ e w'=>e=.returned (.bool true)/\Ext w w'):=by
 refine bT (n:=78) func5 Z Z Z ?_;refine ar<|aG Z<|ar<|ca akN Z Z ((asQ _).mono ?_);rintro e R6 ⟨W,rfl,T,F⟩;refine cR ?_;have:=F.size;refine ca aC0 Z Z ((aHE W mO 5 _ T.bv).mono ?_);rintro e dr ⟨ah,eT,tP,rfl,O,d,C⟩;refine cR ?_;have:=C.size;have Y:=Φ F C;have P:=b4 d.lt;refine vm Z<|bL Z Z<|bL Z Z<|cy L5 Z λ sM ke D M0 b=>?_;have jk:=Φ Y D;have ag:=b.lt;refine st Z Z b Z gC Z Z Z λ nY z b=>?_;have:=z.size;have fF:=Ext.H jk z bn;refine aG Z<|ar<|κ (aq Z (b.all kQ gC))<|κ (v:=.agg #[J 2,J 0]) (ee Z)<|κ (v:=.agg #[J 0,J 3,J 1,J 2,J 0,J 0]) (ee Z)<|κ (v:=.agg #[J 1,J 0,J 3,J 1,J 2,J 0,J 0,J 0,J 0]) (ee Z)<|?_;have d:=(d.O D).H z (bV P);refine ca abl Z Z ((adi eT tP (⟨1,⟨0,3,1,⟨2,0⟩,0⟩,0,0⟩:kb) _ d.bv ⟨b7.2 GP,b7.2 GP,b7.2 GP,b7.2 GP,b7.2 GP,b7.2 GP⟩).mono ?_);rintro e zp ⟨ai,aa,r7,S,rfl,N,h,r⟩;refine cR ?_;have:=r.size;have ka:=Φ fF r;have G:=dZ h.lt;refine vm Z<|bL Z Z<|bL Z Z<|bL Z Z<|?_;have b:=b.O r;refine st Z Z b Z gC Z Z Z λ C8 t b=>?_;have:=t.size;have q3:=Ext.H ka t bn;refine va Z<|aG Z<|ar<|κ (aq Z (b.all kQ gC))<|κ (v:=.agg #[J 2,J 0,J 0,J 0,J 0,J 0,J 0,J 0,J 0]) (ee Z)<|?_;have h:=h.H t (bM λ q I ae=>by have:=G q I;omega);refine ca abl Z Z ((adi r7 S (⟨2,⟨0,0,0,⟨0,0⟩,0⟩,0,0⟩:kb) _ h.bv ⟨b7.2 GP,b7.2 GP,b7.2 GP,b7.2 GP,b7.2 GP,b7.2 GP⟩).mono ?_);rintro e pM ⟨Y0,g,M,ab,rfl,B,U,p⟩;refine cR ?_;have:=p.size;have iE:=Φ q3 p;refine vm Z<|bL Z Z<|bL Z Z<|bL Z Z<|?_;have b:=b.O p;refine st Z Z b Z gC Z Z Z λ Bo E b=>?_;have:=E.size;have mR:=Ext.H iE E bn;refine va Z<|aG Z<|ar<|ca akN Z Z ((asQ _).mono ?_);rintro e X5 ⟨X,rfl,o,m⟩;refine cR ?_;have:=m.size;have H:=Φ mR m;refine vm Z<|cT (e:=9) (cs:=[.string g]) Z (λ _=>GT) Z λ KG au s af A=>?_;have o3:=Φ H s;have ap:=A.lt;have o:=o.O s;refine ca aC1 Z Z ((aGO X mO _ _ ([g]) 1 _ Kx o.bv (aO.M (R:=Ko) (by_:=16) (k:=[g]) A [[.string g]] Z (⟨⟨Z,(aBp B)⟩,trivial⟩) Kx Kx)).mono ?_);rintro e an ⟨ao,al,ad,V,rfl,L,c,i⟩;refine cR ?_;have:=i.size;have K:=Φ o3 i;have Q:=b4 c.lt;refine vm Z<|bL Z Z<|bL Z Z<|bL Z Z<|cy nO Z λ qq ak x am f=>?_;have hQ:=Φ K x;refine st Z Z f Z bP Z Z Z λ X8 y f=>?_;have wV:=Ext.H hQ y bn;refine va Z<|aG Z<|aC Z<|κ (beq Z Z)<|vm Z<|er Z Z<|aR Z (λ a=>beq (gt a Z) Z)<|κ (cQ Z Z Z Z)<|vm Z<|er Z Z<|aR Z (λ a=>beq (gt a Z) Z)<|κ (cQ Z Z Z Z)<|vm Z<|er Z Z<|aR Z (λ a=>beq (gt a Z) Z)<|κ (cQ Z Z Z Z)<|vm Z<|er Z Z<|aR Z (λ a=>beq (gt a Z) Z)<|κ (cQ Z Z Z Z)<|?_;refine vm Z<|aR Z (λ a=>aj xw Z)<|aR Z (λ a=>aj uo (gt a Z))<|?_;have b:=(b.O (Φ m (Φ s (Φ i x)))).H y aJ;refine aR Z (λ a=>aq (gt a Z) (b.one yM Z))<|aR Z (λ a=>bY underlying29 (gt a Z))<|aR Z (λ a=>beq (gt a Z) Z)<|κ (cQ Z Z Z Z)<|vm Z<|aR Z (λ a=>aj fC Z)<|aR Z (λ a=>aq (gt a Z) (f.one gR Z))<|aR Z (λ a=>bY underlying26 (gt a Z))<|aR Z (λ a=>beq (gt a Z) Z)<|κ (cQ Z Z Z Z)<|vm Z<|aR Z (λ a=>aj fC Z)<|aR Z (λ a=>aq (gt a Z) (f.one gR Z))<|?_;have c:=(c.O x).H y (bV Q);refine aR Z (λ a=>bD 0 underlying26 eg (gt a Z) Z (c.T.bv.Y (aL 0 (by have:=a;simp only[bai,ba9,ber]at this;omega))) Z (by have:=a;simp only[bai,ba9,ber]at this;omega))<|aR Z (λ a=>aj r3 (gt a Z))<|aR Z (λ a=>aq (gt a Z) (τ.aF.C gm (c.T.bv.O (aL 0 (by have:=a;simp only[bai,ba9,ber]at this;omega))) 6 (cg (l:=V.ah) (u:=default) (j:=0) (by have:=a;simp only[bai,ba9,ber]at this;omega)) Z aH))<|aR Z (λ a=>beq (gt a Z) Z)<|κ (cQ Z Z Z Z)<|bc Z<|b3 Z Z<|?_;obtain⟨f1,f2,f3,f4,f5,f6,f7⟩:=aKn O N B L;have f8:M.T.length=1:=by have:=U.L.1;omega
 exact⟨Xp (by rw[f7];simp[f1,f2,f3,f4,f5,f8];decide),wV⟩
end
section
open fg
open Classical in
noncomputable def aMx(y:dg×List ByteArray×List aS)(c:kb):dg×List ByteArray×List aS:=if Ea y.1 c then(vP y.1 c,if c.O=2 then y.2.1++ [An y.1 c]else y.2.1,if c.O=1 then y.2.2++ [c.o]else y.2.2)else y
noncomputable def a09(x:dg)(l:List kb):dg×List ByteArray×List aS:=l.foldl aMx (x,[],[])
section
variable{x a3L vl:dg}{l:List kb}{k:Nat}{a2q:List ByteArray}{a15:List aS}{e:Int}{s:ByteArray}
end
end
section
section
variable{α:Type}{c6:α->Int}{l m r A B C L M R F5 DQ aUF aUG jY M2:List α}{a b c i j k n:Nat}
def OZ(b:α->Int)(l m:List α):Prop:=∀ x:Int,m.filter (λa=>decide (b a=x))=l.filter (λa=>decide (b a=x))
def yy(c:α->Int)(l:List α):Prop:=l.Pairwise λa b=>c a<=c b
def OZ.U(l:List α):OZ c6 l l:=λ_=>rfl
def pJ(l:List α)(a b:Nat):List α:=(l.drop a).take (b-a)
def asv(h:b<=l.length):(pJ l a b).length=b-a:=by unfold pJ;rw[baf,bax];omega
def aOY(h:a<=b):pJ l a b++l.drop b=l.drop a:=by
 unfold pJ;have e:l.drop b=(l.drop a).drop (b-a):=by rw[bd6];congr 1;omega
 rw[e,bbU]
def aAO(h:a<=b):l.take a++pJ l a b++l.drop b=l:=by rw[baO,aOY h,bbU]
def asu(c:a<=i)(d:i<b):(pJ l a b)[i-a]? =l[i]? :=by
 unfold pJ;rw[baR,bap GE,bbm];congr 1;omega
def yy.d9{x y:α}(h:yy c6 (pJ l a b))(e:a<=i)(o:i<=j)(f:j<b)(d:l[i]? =some x)(c:l[j]? =some y):c6 x<=c6 y:=by
 rcases ba2 i j with p|q
 .rw[<-asu (b:=b) e GE]at d;rw[<-asu (a:=a) (b:=b) GE f]at c;obtain⟨m,n⟩:=bab.1 d;obtain⟨g,k⟩:=bab.1 c;have:=baS.1 h (i-a) (j-a) m g GE
  rwa [n,k]at this
 .obtain rfl:i=j:=GE
  rw[d]at c;obtain rfl:=bae c;exact bbI _
def Td(c:α->Int)(l:List α)(a b:Nat)(d:List α):Prop:=∃ M,d=l.take a++M++l.drop b/\M.length=b-a/\yy c M/\OZ c (pJ l a b) M
def Td.U(h:a<=b)(c:b<=l.length)(d:yy c6 (pJ l a b)):Td c6 l a b l:=⟨_,(aAO h).symm,asv c,d,OZ.U _⟩
def a2a(l:List α)(a m b:Nat):List α:=l.take a++pJ l m b++pJ l a m++l.drop b
end
section
variable{α:Type}{c6:α->Int}{l fE kW EP:List α}{a b m s e:Nat}
structure aUD(c6:α->Int)(l:List α)(a m b s e:Nat):Prop where
 al:a<=s
 aPa:s<=m
 me:m<=e
 alh:e<=b
 aVP:b<=l.length
 lo:∀ i j x y,a<=i->i<s->e<=j->j<b->l[i]? =some x->l[j]? =some y->c6 x<=c6 y
 ao:∀ i j x y,s<=i->i<m->m<=j->j<e->l[i]? =some x->l[j]? =some y->c6 y<c6 x
end
def Zn{a:Type}(l m:List a)(f:Nat->Nat):Prop:=m.length=l.length/\∀ k,k<l.length->m[k]? =l[f k]?
def atc(a b n k:Nat):Nat:=if a<=k/\k<a+n then b+(k-a)else if b<=k/\k<b+n then a+(k-b)else k
def RF(a m b k:Nat):Nat:=if a<=k/\k<a+(b-m)then k+(m-a)else if a+(b-m)<=k/\k<b then k-(b-m)else k
section
variable{α:Type}{c6:α->Int}{l m r:List α}{a b c i j k n p q:Nat}{x y:α}{f g:Nat->Nat}
def Zn.U(h:∀ k,f k=k):Zn l l f:=⟨rfl,λk _=>by rw[h]⟩
def ZR(l m:List α)(a b c i j:Nat):Prop:=m.length=l.length/\i<=b/\∀ k,k<l.length->l[RF a b c k]? =m[RF (b-i) b (b+j) k]?
def aOi(h:k<n)(e:a<=b)(d:b<=c)(f:c<=n):RF a b c k<n:=by unfold RF;(repeat' split)<;>omega
def ZR.gt(h:ZR l m a b c i j)(e:Zn m r (atc (b-i) b j))(n:j<i)(f:b+j<=l.length):ZR l r a b c (i-j) j:=by
 refine⟨e.1.trans h.1,by have:=h.2.1;omega,λk d=>?_⟩;have g:=h.2.1;rw[h.2.2 k d,e.2 _ (by rw[h.1];exact aOi d GE GE f)];congr 1;unfold RF atc;(repeat' split)<;>omega
def aUe(b:α->Int)(l:List α)(a i j:Nat)(m:List α):Prop:=∃ A x B,m=l.take a++A++(x::B++l.drop (i+1))/\a+A.length=j/\j+B.length=i/\yy b (A++B)/\(∀ y∈B,b x<b y)/\OZ b (pJ l a (i+1)) (A++x::B)
end
section
variable{α:Type}{c6:α->Int}{l fE kW EP:List α}{a b m s e c cn p k wG Kl mid:Nat}{x y:α}
def Y6(a:α->Int)(l:List α)(p c:Nat):Prop:=∀ x y,l[c]? =some x->l[p-c]? =some y->a x<=a y
def YX(a:α->Int)(l:List α)(p c:Nat):Prop:=∀ x y,l[c]? =some x->l[p-c]? =some y->a y<a x
def get_some(h:k<l.length):∃ x,l[k]? =some x:=⟨_,bac h⟩
def Y6.mono(r:yy c6 (pJ l a m))(s:yy c6 (pJ l m b))(u:b<=l.length)(h:Y6 c6 l p c)(g:a<=cn)(n:cn<=c)(q:c<m)(w:m+c<=p)(v:p<b+cn):Y6 c6 l p cn:=λB C f o=>by
 obtain⟨x,e⟩:=get_some (l:=l) (k:=c) GE;obtain⟨y,d⟩:=get_some (l:=l) (k:=p-c) GE;have z:=r.d9 g n q f e;have A:=s.d9 (i:=p-c) (j:=p-cn) GE GE GE d o;have t:=h x y e d;omega
def YX.mono(r:yy c6 (pJ l a m))(s:yy c6 (pJ l m b))(u:b<=l.length)(h:YX c6 l p c)(g:a<=c)(n:c<=cn)(q:cn<m)(w:m+cn<=p)(v:p<b+c):YX c6 l p cn:=λB C f o=>by
 obtain⟨x,e⟩:=get_some (l:=l) (k:=c) GE;obtain⟨y,d⟩:=get_some (l:=l) (k:=p-c) GE;have z:=r.d9 g n q e f;have A:=s.d9 (i:=p-cn) (j:=p-c) GE GE GE o d;have t:=h x y e d;omega
def aTi(a:α->Int)(l:List α)(q n:Nat):Prop:=∀ k,k*q<n->yy a (pJ l (k*q) (min ((k+1)*q) n))
def aTh(b:α->Int)(l:List α)(q n a:Nat):Prop:=(∃ t,a=t*(2*q))/\(∀ k,(k+1)*(2*q)<=a->yy b (pJ l (k*(2*q)) ((k+1)*(2*q))))/\∀ k,a<=k*q->k*q<n->yy b (pJ l (k*q) (min ((k+1)*q) n))
end
end
section
variable{cd:List Nat}{w0:World}{f:FuncId}{ts:Array TypeId}{args Ce:List Value}
open fg
def aYI(c:kb):Int:=-(min (max c.o.by_ (-1)) 9)
def OX{f:Type}(R:τ f)(e by_:Nat)(w:World)(B:Nat)(b:Option Addr)(a:Nat)(d g:List f)(A:Option Addr)(c:Nat)(l:List f):Prop :=
 R.aM e by_ w B (τ.ai b) b a (d++l++g)/\A=fX b a d.length R.size/\c=a-d.length
section
variable{α:Type}{R:τ α}{e by_ B cl c:Nat}{w w':World}{ht A:Option Addr}{zV OY l:List α}
def OX.bv(h:OX R e by_ w B ht cl zV OY A c l):R.aF by_ w A c l:=by
 obtain⟨a,rfl,rfl⟩:=h;have:=a.bv.sub zV.length (zV.length+l.length) GE (by rw[bam,bam];omega)
 rwa [baO,List.drop_left,show zV.length+l.length-zV.length=l.length by omega,bdx]at this
def OX.O(h:OX R e by_ w B ht cl zV OY A c l)(x:Ext w w'):OX R e by_ w' B ht cl zV OY A c l:=⟨h.1.O x,h.2⟩
end
section
variable{P:Program}{n:Nat}{E:List (Nat×Value)}{Q:Exit->Act->World->Prop}{w:World}{ops:Array Oper}{v:Value}
variable{d:Option Nat}{ty:TypeId}{pos:String}{af:Array Edge}{g:Option (Nat×Bool)}{x y z:Operand}{t u:TypeId}{rest:List Oper}
theorem aEm{b:Nat->Nat}{i:Nat}{d:Nat}{xs:Array Operand}(g:ops[i]? =some ⟨some d,.call {callee:=.value x,args:=xs,argTypes:=ts},ty,pos,af,none⟩)(j:b i=0)(m:Enters P f)(q:ev E x=some (.func (.func f) #[] Ce.toArray))(l:hV E xs.toList=some args)
  (o:∀ w,Ext w0 w->Calls P f (args++Ce).toArray w λ e w'=>e=.returned v/\Ext w w')(k:Nat.blt d n=true)
  (h:gN P n ops Q b cd ((d,v)::E) w0):gN P n ops Q b (i::cd) E w0:=λ a c =>
 ⟨_,g,.inl ⟨j,v,.inl ⟨C' rfl,λ w p=>by rw[aft m c q l];exact⟨rfl,o w p⟩⟩,h _ (c.put k v)⟩⟩
theorem alo{g:Nat->Nat}{i:Nat}{d:Nat}{xs:Array Operand}{j:Nat}{q b c:Bool}{m:Oper}{p:Nat}(u:ops[i]? =some ⟨some d,.call {callee:=.value x,args:=xs,argTypes:=ts},ty,pos,af,some (j,q)⟩)(y:g i=0)(s:ops[j]? =some m)(G:m.dst=some p)(t:look E p=some (.bool b))(z:(b == q)=c)
  (C:Enters P f)(F:c=true->ev E x=some (.func (.func f) #[] Ce.toArray))(B:c=true->hV E xs.toList=some args)
  (D:c=true->∀ w,Ext w0 w->Calls P f (args++Ce).toArray w λ e w'=>e=.returned v/\Ext w w')(A:Nat.blt d n=true)
  (h:gN P n ops Q g cd ((d,cP c v)::E) w0):gN P n ops Q g (i::cd) E w0:=λ a k=>by
 have l:=Da (o:=⟨some d,.call {callee:=.value x,args:=xs,argTypes:=ts},ty,pos,af,some (j,q)⟩) rfl s G t k;rw[z]at l;refine⟨_,u,.inl ⟨y,cP c v,?_,h _ (k.put A _)⟩⟩;cases c with
 | true=>exact .inl ⟨l,λ w r=>by rw[aft C k (F rfl) (B rfl)];exact⟨rfl,D rfl w r⟩⟩
 | false=>exact .inr ⟨l,rfl⟩
end
section
variable{α:Type}{c6:α->Int}{l m r:List α}{a b c i j k p q:Nat}
def Td.one(h:b=a+1)(c:a<l.length):Td c6 l a b l:=by
 subst h;refine .U (Nat.le_succ a) c ?_;have n:=asv (l:=l) (a:=a) (b:=a+1) c
 match hs:pJ l a (a+1),n with
 | [z],_=>exact List.pairwise_singleton _ _
 | [],n=>simp at n
 | _::_::_,n=>simp at n
end
section
variable{α:Type}[Inhabited α]{c6:α->Int}{l m r:List α}{a b c i j k p q:Nat}
end
end
def axV:yp prog aw.cells 41 :=by
 intro a b w;obtain⟨a0,dQ⟩:=a;obtain⟨z8,hh⟩:=b;simp only[aw.cells,aw.mk.injEq];constructor
 .go_simp
  repeat' split
  all_goals simp_all
 .go_simp
  repeat' split
  all_goals simp_all
def axU:(prog).eqGuardType (prog).depth 41 =false:=GT
def axT:dU prog aw.ce 25 41 16:=dU.O (z:=aw.zero) (k:=2) underlying25 aw.G rfl rfl GP aw.M
theorem aIM(b:FuncId)(cs:List Value)(p:aw->Bool)(A:Option Addr)(c:Nat)(l:List aw)(w:World)(g:aw.ce.aF 16 w A c l)(t:Enters prog b)(s:∀ x∈l,∀ w',Ext w w'->Calls prog b (([.agg #[J x.x,J x.y]]:List Value)++cs).toArray w' λ e v=>e=.returned (.bool (p x))/\Ext w' v):
  Calls prog 178 #[.slice A l.length c,.func (.func b) #[] cs.toArray] w (λ e w'=>e=.returned (J (fK p l))/\Ext w w'):=by
 have G:=g.M;refine bT (n:=19) func178 Z Z Z ?_;refine ar<|aG Z<|av<|aC Z<|κ (bY underlying25 Z)<|vm Z<|ax<|bp<|?_;refine di (λ r q m=>∃ k:Nat,q=[(0,.slice A l.length c),(1,.func (.func b) #[] cs.toArray),(7,J (l.length:Int)),(8,J (k:Int))]/\r=l.length-k/\Ext w m/\(k<=l.length)/\(∀ i,i<k->p (l.getD i default)=false)) _ _ ⟨0,Z,Z,(Ext.U w),GE,λ i o=>GE⟩ (c' Z Z Z) ?_;rintro D B F ⟨k,rfl,rfl,a,E,f⟩;refine ar<|cF Z Z<|ax<|av<|?_;refine c7 Z (λ y=>?_) (λ y=>?_)
 .refine bf<|av<|bp<|aC Z<|aG Z<|aC Z<|vm Z<|vm Z<|κ (bD k underlying25 bq Z Z ((g.be a).Y (aL k)) Z GE)<|κ (aq Z (τ.aF.G ng ((g.be a).O (aL k)) (cg (l:=l) (u:=default) GE) bS bq))<|Ae t Z Z Z ((s (l.getD k default) (gZ GE) _ a).mono ?_);rintro e C ⟨rfl,z⟩;refine cR ?_;have j:=Φ a z;refine ax<|?_;refine dB Z (λ h=>?_) (λ h=>?_)
  .refine aC Z<|bc Z<|dO<|bR<|k1<|dO<|bR<|b3 Z Z<|?_;exact⟨by have e:=JN (p:=p) (l:=l) (d:=default) (k:=k) GE h f;rw[e];rfl,j⟩
  .refine dP<|bK<|cW Z Z Z<|?_;exact cM ⟨k+1,Z,Z,j,GE,pC f h⟩
 .refine cI<|cH<|cU<|cG<|a7<|ar<|bc Z<|b3 Z Z<|?_;exact⟨by have e:=JM (p:=p) (l:=l) (d:=default) (λ i o=>f i GE);rw[e];rfl,a⟩
theorem RA(f:aE)(P:Option Addr)(p:Nat)(A:Option Addr)(k:Nat)(F:List Int)(c:aw)(i h:Nat)(w:World)(b:f.br=0)(l:f.dF c=true)(g:aO w i [.slice A F.length k] 22 (0,0))(d:aO w h [J f.O,J f.high,.slice P f.G.length p] 24 (0,0))(j:bN.aF 8 w A k F)(o:F.length=f.G.length):
  Calls prog 176 #[.agg #[J c.x,J c.y],.pointer (bd i),.pointer (bd h)] w (λ e w'=>e=.returned (J (f.aD F c))/\Ext w w'):=by
 obtain⟨g1,g2,g3,g4,g5,g6⟩:=aE.hB b;have q:=aE.M b;obtain⟨u,v,x,y,z,B⟩:=aE.idx b l;have C:c.y*f.O<=40*40:=bbP GE GE GE GE;have D:0<=c.y*f.O:=bca GE GE;refine bT (n:=16) func176 Z Z Z ?_;refine cZ Z Z λ t r a s m=>?_;refine aG Z<|ar<|?_;have g:=g.O a;refine a1 Z g et Z<|κ (aj fk Z)<|a1 Z m aH Z<|κ (aj s8 Z)<|?_;have d:=d.O a;refine a1 Z d aH Z<|κ (mD Z Z dK)<|κ (aj fj Z)<|a1 Z m aH Z<|fb Z Z<|κ (bD (((c.y*f.O)+c.x).toNat) underlying22 cO Z Z ((j.be a).Y (aL (((c.y*f.O)+c.x).toNat))) GE GE)<|κ (aq Z (τ.aF.H ew ((j.be a).O (aL (((c.y*f.O)+c.x).toNat))) (alE b o l) Z aH))<|bc Z<|b3 Z Z<|?_;exact⟨Z,a⟩
theorem aNE(f:aE)(P:Option Addr)(r:Nat)(A:Option Addr)(k:Nat)(F:List Int)(n c:aw)(u g t l:Nat)(w:World)(h:f.br=0)(C:bN.aF 8 w P r f.G)(s:f.dF n=true)(o:f.dF c=true)(y:∀ c,f.aD F c<=4800)(i:aO w l [.slice A F.length k] 22 (0,0))(d:aO w g [J f.O,J f.high,.slice P f.G.length r] 24 (0,0))(q:bN.aF 8 w A k F)(p:F.length=f.G.length)(j:aO w u [.func (.func 176) #[] #[.pointer (bd l),.pointer (bd g)]] 254 (0,0))(m:aO w t [J c.x,J c.y] 41 (0,0)):
  Calls prog 179 #[.agg #[J n.x,J n.y],.pointer (bd u),.pointer (bd g),.pointer (bd t)] w (λ e w'=>e=.returned (.bool (LN f F c n))/\Ext w w'):=by
 have D:=Xo (aE.Kg h o);have L:=y n;refine bT (n:=24) func179 Z Z Z ?_;refine cZ Z Z λ H E b G v=>?_;refine aG Z<|av<|?_;refine c_ [(0,0),(1,0),(2,0),(5,0),(6,0),(7,0),(8,0),(9,0),(10,0),(11,0),(13,0),(14,0),(15,0)] [0,1,2,3,4,5,6,7,8,9,10,11,12,13,14,15,16,17,18] ?_;have j:=j.O b;refine cr Z Z j Pz Z<|dE Z (λ _ x=>aq Z ((v.O x).all bS bq))<|?_;have i:=i.O b;have d:=d.O b;refine aEm Z Z PA Z Z (λ _ x=>RA f _ _ _ _ F n l g _ h s (i.O x) (d.O x) (q.be (Φ b x)) p) Z<|aA Z (λ _=>iV Z Z)<|bt Z Z<|cu Z Z (λ a _ x=>aq Z ((j.O x).one Pz Z))<|cu Z Z (λ a _ x=>aq Z ((v.O x).all bS bq))<|alo Z Z Z Z Z Z PA (λ a=>(gt a Z)) (λ a=>b6 (gt a Z) Z) (λ a _ x=>RA f _ _ _ _ F n l g _ h s (i.O x) (d.O x) (q.be (Φ b x)) p) Z<|cu Z Z (λ a _ x=>aq Z ((d.O x).all gA gB))<|?_;have m:=m.O b;refine cu Z Z (λ a _ x=>aq Z ((m.O x).all bS bq))<|c8 Z Z Z Z Z Z L4 (λ a=>b6 (gt a Z) (b6 (gt a Z) Z)) (λ a _ x=>Nw f _ _ c _ h (C.be (Φ b x)) o) Z<|c8 Z Z Z Z Z Z akO (λ a=>b6 (gt a Z) Z) (λ a _ x=>ar0 (f.H c) _ (aE.Kg h o)) Z<|bC Z Z (λ a _=>bad (gt a Z) (gt a Z) (mb (by (try simp only[cb]at a);omega)))<|cu Z Z (λ a _ x=>aq Z ((j.O x).one Pz Z))<|cu Z Z (λ a _ x=>aq Z ((m.O x).all bS bq))<|alo Z Z Z Z Z Z PA (λ a=>(gt a Z)) (λ a=>b6 (gt a Z) Z) (λ a _ x=>RA f _ _ _ _ F c l g _ h o (i.O x) (d.O x) (q.be (Φ b x)) p) Z<|bC Z Z (λ a _=>beq (gt a Z) (gt a Z))<|aA Z (λ _=>cQ Z Z Z Z)<|aA Z (λ _=>fh Z)<|fn λ K B=>?_;have z:=Φ b B;refine a7<|rt<|b3 Z Z<|?_;exact⟨Z,z⟩
theorem aOq(f:aE)(P:Option Addr)(bZ:Nat)(a b:aw)(w:World)(s:f.br=0)(cp:bN.aF 8 w P bZ f.G):
  Calls prog 143 #[.agg #[J f.O,J f.high,.slice P f.G.length bZ],.agg #[J a.x,J a.y],.agg #[J b.x,J b.y]] w (λ e w'=>∃ A c l n d,e=.returned (.tuple #[.slice A l.length c,J n,J d])/\aw.ce.aM 41 16 w' w.heap.size (τ.ai A) A c l/\(∀ x∈l,f.ground x=true)/\Ext w w'):=by
 obtain⟨g1,g2,g3,g4,g5,g6⟩:=aE.hB s;refine bT (n:=79) func143 Z Z Z ?_;refine cZ Z Z λ ch K aV cY g=>?_;have gp:=g.lt;refine gz Z Z λ dr b_ bh fl r=>?_;have bo:=Φ aV bh;have j8:=r.lt;refine gz Z Z λ fx e_ cm oM i=>?_;have cj:=Φ bo cm;have wF:=i.lt;refine va Z<|va Z<|aG Z<|av<|ar<|?_;have g:=g.O (Φ bh cm);refine κ (aq Z (g.all gA gB))<|cf abm Z (afq f _ _ _ s (cp.be cj)) λ mn dH=>?_;have:=dH.size;have eM:=Φ cj dH;refine aG Z<|aC Z<|cV Z Z<|ax<|ef Z<|bf<|av<|ar<|?_;have g:=g.O dH;refine κ (aq Z (g.all gA gB))<|?_;have r:=r.O (Φ cm dH);refine κ (aq Z (r.all bS bq))<|cf L2 Z (Nu f _ _ a _ s) λ ow cK=>?_;have:=cK.size;have fP:=Φ eM cK;refine κ (dj Z)<|vm Z<|?_;have g:=g.O cK;refine aR Z (λ v=>aq Z (g.all gA gB))<|?_;have i:=i.O (Φ dH cK);refine aR Z (λ v=>aq Z (i.all bS bq))<|iD Z L2 (λ v=>b6 (gt v Z) (b6 (gt v Z) Z)) (λ v=>Nu f _ _ b _ s) λ vk hN=>?_;have:=hN.size;have gw:=Φ fP hN;refine aR Z (λ v=>dj (gt v Z))<|κ (dS Z Z Z Z)<|ax<|?_;refine dB Z (λ Cy=>?_) (λ Cy=>?_)
 .refine ar<|va Z<|va Z<|bc Z<|bR<|cJ (.tmp Z (.tmp Z (.tmp Z .nil)))<|?_;exact⟨none,0,[],_,_,Z,τ.aM.nil _,(λ x C=>by simp at C),gw⟩
 .simp only[baN,bbK]at Cy;obtain⟨ha,m⟩:=Cy;obtain⟨_,_,a3,a4,a5,Gj⟩:=aE.idx s ha;obtain⟨_,_,ig,yA,IQ,Z9⟩:=aE.idx s m;refine bf<|av<|ar<|?_;have g:=g.O hN;refine κ (aq Z (g.all gA gB))<|?_;have r:=r.O (Φ cK hN);refine κ (aq Z (r.all bS bq))<|cf L4 Z (Nw f _ _ a _ s (cp.be gw) ha) λ xX fM=>?_;have:=fM.size;have lu:=Φ gw fM;refine κ (beq Z Z)<|vm Z<|?_;have g:=g.O fM;refine aR Z (λ v=>aq Z (g.all gA gB))<|?_;have i:=i.O (Φ hN fM);refine aR Z (λ v=>aq Z (i.all bS bq))<|iD Z L4 (λ v=>b6 (gt v Z) (b6 (gt v Z) Z)) (λ v=>Nw f _ _ b _ s (cp.be lu) m) λ H3 mP=>?_;have:=mP.size;have mS:=Φ lu mP;refine aR Z (λ v=>beq (gt v Z) Z)<|κ (dS Z Z Z Z)<|ax<|?_;refine dB Z (λ pq=>?_) (λ pq=>?_)
  .refine ar<|va Z<|va Z<|bc Z<|bR<|cJ (.tmp Z (.tmp Z (.tmp Z .nil)))<|?_;exact⟨none,0,[],_,_,Z,τ.aM.nil _,(λ x C=>by simp at C),mS⟩
  .simp only[baN,bbG,ne_eq]at pq;obtain⟨QK,aB⟩:=pq;have an:=aE.PS ha QK;have ao:=aE.PS m aB;refine bf<|ar<|?_;have g:=g.O mP;refine κ (aq Z (g.all gA gB))<|?_;have r:=r.O (Φ fM mP);refine κ (aq Z (r.all bS bq))<|cT (e:=41) (cs:=[J a.x,J a.y]) Z (λ _=>GT) Z λ sN Gs dW bQ lv=>?_;have ku:=Φ mS dW;have bt:=lv.lt;refine ca aC2 Z Z ((aNV f _ _ a _ _ _ s (cp.be ku) (aO.M (R:=aw.ce) (by_:=16) (k:=[a]) lv [[J a.x,J a.y]] Z (⟨⟨Z,ea,ea⟩,trivial⟩) Kx Kx) ha QK).mono ?_);rintro e NN ⟨Is,ab,F,rfl,u,U',gu⟩;refine cR ?_;have:=gu.size;have yg:=Φ ku gu;have wJ:=b4 u.lt;have CE:=λ c=>U'.oK.kg s c;have EG:=U'.oK.len;refine vm Z<|bL Z Z<|bL Z Z<|cy aC3 Z λ Bq Y jL a9 o=>?_;have mT:=Φ yg jL;have bv:=o.lt;refine st (new:=[.slice Is F.length ab]) Z Z o Z td Z Z Z λ NP nr o=>?_;have:=nr.size;have yi:=Ext.H mT nr bn;refine aG Z<|ar<|κ (A3 Z Z)<|cy aC4 Z λ C9 Ca jA We t=>?_;have mU:=Φ yi jA;have Xj:=t.lt;refine st (new:=[.func (.func 176) #[] #[.pointer (bd Y),.pointer (bd K)]]) Z Z t Z aC5 Z Z Z λ Fo il t=>?_;have:=il.size;have o4:=Ext.H mU il bn;refine ax<|av<|ar<|a1 Z t Pz Z<|?_;have i:=(((i.O (Φ mP (Φ dW (Φ gu jL)))).H nr aJ).O jA).H il aJ;refine κ (aq Z (i.all bS bq))<|?_;have eF:=oN jA il;have o:=o.H eF aJ;have g:=((g.O (Φ dW (Φ gu jL))).H nr aJ).H eF aJ;have u:=((u.O jL).H nr (bV wJ)).H eF (bV wJ);refine Ae PA Z Z Z ((RA f _ _ _ _ F b Y K _ s m o g u.bv EG).mono ?_);rintro e Fp ⟨rfl,U⟩;refine cR ?_;have:=U.size;have pS:=Φ o4 U;refine cF Z Z<|ax<|?_;refine c7 Z (λ am=>?_) (λ am=>?_)
   .refine ar<|va Z<|va Z<|bc Z<|bR<|cJ (.tmp Z (.tmp Z (.tmp Z .nil)))<|?_;exact⟨none,0,[],_,_,Z,τ.aM.nil _,(λ x C=>by simp at C),pS⟩
   .have du:0<=f.aD F b:=GE
    refine bf<|ar<|?_;have i:=i.O U;refine κ (aq Z (i.all bS bq))<|cT (e:=41) (cs:=[J b.x,J b.y]) Z (λ _=>GT) Z λ R_ LM o0 ba wZ=>?_;have BB:=Φ pS o0;have bw:=wZ.lt;refine aG Z<|av<|ar<|?_;have i:=i.O o0;refine κ (aq Z (i.all bS bq))<|cy pk Z λ NW aH W bb Lh=>?_;have wW:=Φ BB W;refine ck Z Z Lh Z bq Z Z λ Sd wv Lh=>?_;have BF:=Ext.H wW wv bn;refine ax<|bp<|?_;have u:=(u.O (Φ U (Φ o0 W))).H wv (bV wJ);have wZ:=(wZ.O W).H wv aJ;have ZM:=aO.K (R:=aw.ce) (by_:=16) (B:=w.heap.size) (k:=[b]) wZ [[J b.x,J b.y]] rfl (⟨⟨rfl,b7.2 GE,b7.2 GE⟩,trivial⟩) Kx Kx GP GE;have qL:∀ q∈τ.ai (bd LM),q=LM:=λ q I=>bah.1 I;have g:=(g.O (Φ U (Φ o0 W))).H wv aJ;have r:=(((((r.O (Φ dW (Φ gu jL))).H nr aJ).O jA).H il aJ).O (Φ U (Φ o0 W))).H wv aJ;have i:=(i.O W).H wv aJ;have o:=(o.O (Φ U (Φ o0 W))).H wv aJ;have t:=(t.O (Φ U (Φ o0 W))).H wv aJ;refine di (λ bJ bH O=>∃ c1:aw,∃ y:Nat,∃ X:List aw,∃ D:Option Addr,∃ jH:Nat,bH=[(3,.pointer (bd K)),(4,.pointer (bd b_)),(5,.pointer (bd e_)),(6,.slice none 0 0),(7,J 0),(8,J 0),(12,.pointer (bd Ca)),(13,.slice D X.length jH),(14,.pointer (bd y))]/\bJ=(f.aD F c1).toNat/\Ext w O/\aO O K [J f.O,J f.high,.slice P f.G.length bZ] 24 (0,0)/\aO O b_ [J a.x,J a.y] 41 (0,0)/\aO O e_ [J b.x,J b.y] 41 (0,0)/\bN.aM 3 8 O sN.heap.size (τ.ai Is) Is ab (F)/\aO O Y [.slice Is F.length ab] 22 (0,0)/\aO O Ca [.func (.func 176) #[] #[.pointer (bd Y),.pointer (bd K)]] 254 (0,0)/\aO O y [J c1.x,J c1.y] 41 (0,0)/\aw.ce.aM 41 16 O w.heap.size (τ.ai D) D jH X/\(K<y)/\(b_<y)/\(e_<y)/\(Gs<y)/\(Y<y)/\(Ca<y)/\(∀ q∈τ.ai Is,q<y)/\(0<=f.aD F c1)/\(∀ x∈X,f.ground x=true)/\((X.length:Int)+f.aD F c1<=4801)/\(w.heap.size<=y)/\(∀ q∈τ.ai D,q=K->False)/\(∀ q∈τ.ai D,q=b_->False)/\(∀ q∈τ.ai D,q=e_->False)/\(∀ q∈τ.ai D,q=Y->False)/\(∀ q∈τ.ai D,q=Ca->False)/\(∀ q∈τ.ai D,q=y->False)/\(∀ q∈τ.ai D,q∈τ.ai Is->False)) _ _ ⟨b,aH,[b],some ⟨LM,0,none⟩,1,Z,Z,BF,g,r,i,u,o,t,Lh,ZM,GE,GE,GE,GE,GE,GE,(λ q I=>by have:=wJ q I;omega),du,(λ x C=>by rw[bah.1 C];exact ao),(by have:=CE b;simp;omega),GE,(λ q I m=>by (have:=qL q I;omega)),(λ q I m=>by (have:=qL q I;omega)),(λ q I m=>by (have:=qL q I;omega)),(λ q I m=>by (have:=qL q I;omega)),(λ q I m=>by (have:=qL q I;omega)),(λ q I m=>by (have:=qL q I;omega)),(λ q I m=>by (have:=qL q I;(have:=wJ q m;omega)))⟩ (qW Z) ?_;rintro be bY X2 ⟨c1,y,X,D,jH,rfl,rfl,De,g,r,i,u,o,t,z,V,a6,a8,a2,bG,bI,bO,Qi,nR,rv,bP,od,aa,af,Pk,LS,LU,Uj,Ah⟩;have bl:=g.lt;have bm:=r.lt;have br:=i.lt;have aj:=b4 u.lt;have aQ:=o.lt;have aS:=t.lt;have aT:=z.lt;have ak:=b4 V.lt;have aA:∀ q∈τ.ai Is,q=y->False:=λ q I m=>by have:=Qi q I;omega
    have qO:=aE.UW nR;obtain⟨_,_,b0,b1,b2,b3⟩:=aE.idx s qO;have a0:=CE c1;refine av<|ar<|κ (aq Z (z.all bS bq))<|κ (aq Z (r.all bS bq))<|κ (Cb axV axU (p:=c1) (q:=a) Z Z)<|ax<|?_;refine dB Z (λ ah=>?_) (λ ah=>?_)
    .have EC:c1≠a:=by simpa using ah
     refine bf<|av<|bp<|ar<|κ (aq Z (g.all gA gB))<|κ (aq Z (z.all bS bq))<|ca akR Z Z ((arY f _ _ c1 _ s qO).mono ?_);rintro e bx ⟨bB,aZ,rfl,OO,L⟩;refine cR ?_;have:=L.size;have Yq:=Φ De L;refine aG Z<|rg<|vm Z<|vm Z<|κ (A3 Z Z)<|?_;have u:=u.O L;have t:=t.O L;have g:=g.O L;have z:=z.O L;have o:=o.O L;obtain⟨aN,j,JA,p9,mj,uX⟩:=U'.O s nR EC;obtain⟨T,jt⟩:∃ T,(nv f c1).getD j default=T:=⟨_,rfl⟩;rw[jt]at mj uX;obtain⟨_,l2⟩:=asG JA jt;obtain⟨_,_,bg,bi,bj,bk⟩:=aE.idx s l2;refine cf aC7 Z (show Calls _ _ _ _ (λ e w'=>e=.returned (J (j:Int))/\Ext _ w')from p9 ▸ aIM 179 [.pointer (bd Ca),.pointer (bd K),.pointer (bd y)] (LN f F c1) _ _ _ _ OO.bv aC6 (λ x C w' h=>aNE f _ _ _ _ F x c1 Ca K y Y w' s (cp.be (Φ Yq h)) (bbT.1 C).2 qO CE (o.O h) (g.O h) (u.O h).bv EG (t.O h) (z.O h))) λ bU E=>?_;have:=E.size;have FD:=Φ Yq E;have OO:=OO.O E;refine κ (bD j underlying25 bq Z Z (OO.bv.Y (aL j JA)) Z JA)<|κ (aq Z (τ.aF.G ng (OO.bv.O (aL j JA)) (show(nv f c1)[j]? =some T by rw[<-jt];exact cg JA) bS bq))<|?_;have z:=z.O E;refine ck Z Z z Z bq Z Z λ aW S z=>?_;have:=S.size;have au:=Ext.H FD S bn;refine nl<|bK<|a7<|av<|ar<|κ (aq Z (z.all bS bq))<|ax<|rg<|cy pk Z λ bz ae Q bE M=>?_;have aD:=Φ au Q;have aU:=M.lt;refine ck Z Z M Z bq Z Z λ aX G M=>?_;have:=G.size;have ay:=Ext.H aD G bn;refine ax<|rg<|vm Z<|κ (aq Z (M.all bS bq))<|cT (e:=41) (cs:=[J T.x,J T.y]) Z (λ _=>GT) Z λ bW bC H bF ad=>?_;have Sy:=Φ ay H;have bs:=ad.lt;have V:=((((V.O (Φ L E)).H S (bM Uj)).O Q).H G (bV ak)).O H;refine ap axT τ.O V (aO.G (R:=aw.ce) (by_:=16) (q:=T) ad ⟨Z,ea,ea⟩ GP) Z Z (by simp;omega) (by simp;omega) GE Z λ bX aI aM N aK Jc aP=>?_;have Sz:=Ext.H Sy N (λ q I=>bay GE (V.lt q I).1);refine va Z<|nl<|?_;have g:=(((((g.O E).H S aJ).O Q).H G aJ).O H).H N (λ I=>aa _ I rfl);have r:=(((((r.O (Φ L E)).H S aJ).O Q).H G aJ).O H).H N (λ I=>af _ I rfl);have i:=(((((i.O (Φ L E)).H S aJ).O Q).H G aJ).O H).H N (λ I=>Pk _ I rfl);have u:=(((((u.O E).H S (bM aA)).O Q).H G (bM λ q I m=>by have:=aj q I;have:=wJ q I;omega)).O H).H N (fa Ah);have o:=(((((o.O E).H S aJ).O Q).H G aJ).O H).H N (λ I=>LS _ I rfl);have t:=(((((t.O E).H S aJ).O Q).H G aJ).O H).H N (λ I=>LU _ I rfl);have z:=(((z.O Q).H G aJ).O H).H N (λ I=>Uj _ I rfl);have M:=M.O H;have ag:∀ q∈τ.ai D,q=ae->False:=λ q I m=>by (have:=ak q I;omega)
     have M:=M.H N (λ I=>ag _ I rfl);exact oR _ _ ⟨T,ae,X++ [T],aI,aM,Z,Z,Sz,g,r,i,u,o,t,M,aK,GE,GE,GE,GE,GE,GE,(λ q I=>by have:=Qi q I;omega),mj,(by intro x C;rcases bas.1 C with bu|bu;exact rv x bu;rw[bah.1 bu];exact U'.ground s mj an),(by simp;omega),GE,(eh Jc aa),(eh Jc af),(eh Jc Pk),(eh Jc LS),(eh Jc LU),(eh Jc ag),(λ q I m=>by (exact baC (Jc q I) (λ ai=>by (exact Ah q ai m)) (λ ai=>by (have:=aj q m;have:=wJ q m;omega))))⟩ GE (qW Z)
    .refine cI<|cH<|cU<|cG<|a7<|aC Z<|ca ald Z Z ((ar7 _ _ w.heap.size X _ V (aw.C V.bv)).mono ?_);rintro e bA ⟨rfl,Ga,Na⟩;refine cR ?_;have aF:=Ext.H De Na (λ q I=>(V.lt q I).1);refine ax<|aC Z<|?_;have t:=t.H Na (λ I=>LU _ I rfl);refine a1 Z t Pz Z<|?_;have i:=i.H Na (λ I=>Pk _ I rfl);refine κ (aq Z (i.all bS bq))<|?_;have o:=o.H Na (λ I=>LS _ I rfl);have g:=g.H Na (λ I=>aa _ I rfl);have u:=u.H Na (fa Ah);refine Ae PA Z Z Z ((RA f _ _ _ _ F b Y K _ s m o g u.bv EG).mono ?_);rintro e aY ⟨rfl,al⟩;refine cR ?_;have az:=Φ aF al;refine va Z<|va Z<|bc Z<|cJ (.tmp Z (.tmp Z (.tmp Z .nil)))<|?_;have Ga:=Ga.O al;exact⟨_,_,X.reverse,_,_,by rw[bco];rfl,Ga,(λ x C=>rv x (List.mem_reverse.1 C)),az⟩
section
variable{a:ag.cS}{t:bb}{m n k:Nat}{c:Bool}{f:aE}
def axK:dU prog bN 22 3 8:=dU.O (z:=J 0) (k:=1) underlying22 y5 rfl rfl GP (λ j u h=>CZ j u h)
def axJ:dU prog bb.ce 26 68 56:=dU.O (z:=bb.zero) (k:=7) underlying26 bb.G rfl rfl GP bb.M
def alB{T:Option Addr}{t:Nat}{P:Nat->Prop}(h:∀ q∈τ.ai T,P q):∀ q∈bF.G {a with T:=T,t:=t},q∈bF.G a\/P q:=λ q I=>by
 unfold bF.G at I ⊢;simp only[bas]at I ⊢;rcases I with(((I|I)|I)|I)|I
 .exact .inl (.inl (.inl (.inl (.inl I))))
 .exact .inl (.inl (.inl (.inl (.inr I))))
 .exact .inl (.inl (.inl (.inr I)))
 .exact .inl (.inl (.inr I))
 .exact .inr (h q I)
theorem Ei{S M T:Option Addr}{s t:Nat}{P:Nat->Prop}(b:∀ q∈τ.ai S,P q)(c:∀ q∈τ.ai M,P q)(d:∀ q∈τ.ai T,P q):∀ q∈bF.G {a with S:=S,s:=s,M:=M,m:=m,T:=T,t:=t},q∈bF.G a\/P q:=λ q I=>by
 unfold bF.G at I ⊢;simp only[bas]at I ⊢;rcases I with(((I|I)|I)|I)|I
 .exact .inl (.inl (.inl (.inl (.inl I))))
 .exact .inl (.inl (.inl (.inl (.inr I))))
 .exact .inr (b q I)
 .exact .inr (c q I)
 .exact .inr (d q I)
def O2{a b:Bool}(h:(((a && b) && c)== true)=true):a=true/\b=true:=by revert h;cases a<;>cases b<;>cases c<;>decide
def aio{a b d:Bool}(h:((((a && b) && c) && d)== true)=true):a=true/\b=true:=by revert h;cases a<;>cases b<;>cases c<;>cases d<;>decide
def Ky{W:ag}(c:Good W){i:Int}(h:(k2 W.ah i).isSome=true):xj W.am W.aT.length ((k2 W.ah i).getD default):=by
 obtain⟨t,a⟩:=Option.isSome_iff_exists.1 h;rw[a];obtain⟨j,b⟩:=bcd.1 (bcN a);exact c.ah j t b
def xj.eE(h:xj f n t):1<=t.O/\t.O<=2:=by rcases h.O with e|e<;>omega
def xj.far{u:bb}(a:f.br=0)(h:xj f n t)(k:xj f m u):(-9000000000000000<=t.an.x-u.an.x/\t.an.x-u.an.x<=9000000000000000)/\-9000000000000000<=t.an.y-u.an.y/\t.an.y-u.an.y<=9000000000000000:=by
 have b:=aE.EL a (aE.K h.ground);have c:=aE.EL a (aE.K k.ground);unfold tA at b c;omega
def T1(W:ag)(b:dw):Bool:=(((((k2 W.ah b.H).isSome && (k2 W.ah b.O).isSome) && (((k2 W.ah b.H).getD default).H != ((k2 W.ah b.O).getD default).H)) && decide (max (hz ((k2 W.ah b.H).getD default).an.x ((k2 W.ah b.O).getD default).an.x) (hz ((k2 W.ah b.H).getD default).an.y ((k2 W.ah b.O).getD default).an.y)<=E_ ((k2 W.ah b.H).getD default).O)) && aqi W.am ((k2 W.ah b.H).getD default).an ((k2 W.ah b.O).getD default).an)
def G9(W:ag)(l:List dw)(t:bb):Int:=fK (λ b=>(b.H == t.id) && T1 W b) l
def MI(W:ag)(l:List dw)(a:Int)(t:bb):Int:=if(decide (0<=G9 W l t) && ((l.getD (G9 W l t).toNat default).O == a))then pw t.O else 0
def Ex(W:ag)(l:List dw)(a:Int):Nat->Int
 | 0=>0
 | k+1=>Ex W l a k+MI W l a (W.ah.getD k default)
def Ms(W:ag)(l:List dw)(a:Int):Int:=Ex W l a W.ah.length
def Qe(W:ag)(l:List dw)(a:Int):∀ k:Nat,0<=Ex W l a k/\Ex W l a k<=4*(k:Int)
 | 0=>by rw[Ex];omega
 | k+1=>by
  have:=Qe W l a k;rw[Ex];have b:0<=MI W l a (W.ah.getD k default)/\MI W l a (W.ah.getD k default)<=4:=by
   unfold MI pw;split<;>(try split)<;>(try split)<;>omega
  omega
def aIV{a:Type}{p:a->Bool}{l:List a}(h:0<=fK p l):(fK p l).toNat<l.length:=by
 obtain⟨k,b,c,_⟩:=aIT (p:=p) (l:=l) GE;omega
def VC{W:ag}{l:List dw}(h:0<=G9 W l t):(G9 W l t).toNat<l.length:=aIV h
structure yz(W:ag)(k:Nat)(T:List bb):Prop where
 len:T.length<=k
 H:T.Pairwise BJ
 ok:∀ t∈T,0<t.id/\t.id<W.next/\xj W.am W.aT.length t
 was:∀ t∈T,∃ j u,j<k/\W.ah[j]? =some u/\u.id=t.id/\u.an=t.an
def yz.nil{W:ag}:yz W 0 []:=⟨bao _,List.Pairwise.nil,(λ t h=>by simp at h),λ t h=>by simp at h⟩
def yz.skip{W:ag}{T:List bb}(h:yz W k T):yz W (k+1) T:=⟨by have:=h.len;omega,h.H,h.ok,λ t a=>by obtain⟨j,u,c,b⟩:=h.was t a;exact⟨j,u,GE,b⟩⟩
theorem yz.push{W:ag}{T:List bb}{v:Int}(h:yz W k T)(e:Good W)(b:W.ah[k]? =some t)(o:0<v/\v<=t.K):yz W (k+1) (T++ [⟨t.id,t.H,t.O,⟨t.an.x,t.an.y⟩,v,t.load⟩]):=by
 have c:=e.ah k t b;have n:=e.ids k t b;refine⟨by have:=h.len;simp;omega,List.pairwise_append.2 ⟨h.H,Kx,λ x a y g=>?_⟩,λ x a=>?_,λ x a=>?_⟩
 .obtain⟨j,u,i,d,l,m⟩:=h.was x a;rw[bah]at g;subst g;have f:=(baS.1 e.H) j k (bab.1 d).1 (bab.1 b).1 i;rw[(bab.1 d).2,(bab.1 b).2]at f;exact⟨by rw[<-l];exact f.1,by rw[<-m];exact f.2⟩
 .rcases bas.1 a with a|a
  .exact h.ok x a
  .rw[bah]at a;subst a;exact⟨by show 0<t.id;omega,n.2.1,c.O,c.H,c.ground,⟨by show 1<=v;omega,Int.le_trans o.2 c.K.2⟩,c.load⟩
 .rcases bas.1 a with a|a
  .obtain⟨j,u,i,d⟩:=h.was x a;exact⟨j,u,GE,d⟩
  .rw[bah]at a;subst a;exact⟨k,t,GE,b,rfl,rfl⟩
def yz.hB{W:ag}{T:List bb}(h:yz W k T)(a:Good W)(b:k<=W.ah.length):Good {W with ah:=T}:=a.W0 rfl rfl rfl rfl rfl a.db (by have:=h.len;have:=a.dj;show T.length<=100;omega) h.H h.ok
theorem aIL(b:FuncId)(cs:List Value)(p:dw->Bool)(A:Option Addr)(c:Nat)(l:List dw)(w:World)(g:dw.ce.aF 16 w A c l)(t:Enters prog b)(s:∀ x∈l,∀ w',Ext w w'->Calls prog b (([.agg #[J x.H,J x.O]]:List Value)++cs).toArray w' λ e v=>e=.returned (.bool (p x))/\Ext w' v):
  Calls prog 172 #[.slice A l.length c,.func (.func b) #[] cs.toArray] w (λ e w'=>e=.returned (J (fK p l))/\Ext w w'):=by
 have G:=g.M;refine bT (n:=19) func172 Z Z Z ?_;refine ar<|aG Z<|av<|aC Z<|κ (bY underlying138 Z)<|vm Z<|ax<|bp<|?_;refine di (λ r q m=>∃ k:Nat,q=[(0,.slice A l.length c),(1,.func (.func b) #[] cs.toArray),(7,J (l.length:Int)),(8,J (k:Int))]/\r=l.length-k/\Ext w m/\(k<=l.length)/\(∀ i,i<k->p (l.getD i default)=false)) _ _ ⟨0,Z,Z,(Ext.U w),GE,λ i o=>GE⟩ (c' Z Z Z) ?_;rintro D B F ⟨k,rfl,rfl,a,E,f⟩;refine ar<|cF Z Z<|ax<|av<|?_;refine c7 Z (λ y=>?_) (λ y=>?_)
 .refine bf<|av<|bp<|aC Z<|aG Z<|aC Z<|vm Z<|vm Z<|κ (bD k underlying138 I_ Z Z ((g.be a).Y (aL k)) Z GE)<|κ (aq Z (τ.aF.G ac8 ((g.be a).O (aL k)) (cg (l:=l) (u:=default) GE) aby I_))<|Ae t Z Z Z ((s (l.getD k default) (gZ GE) _ a).mono ?_);rintro e C ⟨rfl,z⟩;refine cR ?_;have j:=Φ a z;refine ax<|?_;refine dB Z (λ h=>?_) (λ h=>?_)
  .refine aC Z<|bc Z<|dO<|bR<|k1<|dO<|bR<|b3 Z Z<|?_;exact⟨by have e:=JN (p:=p) (l:=l) (d:=default) (k:=k) GE h f;rw[e];rfl,j⟩
  .refine dP<|bK<|cW Z Z Z<|?_;exact cM ⟨k+1,Z,Z,j,GE,pC f h⟩
 .refine cI<|cH<|cU<|cG<|a7<|ar<|bc Z<|b3 Z Z<|?_;exact⟨by have e:=JM (p:=p) (l:=l) (d:=default) (λ i o=>f i GE);rw[e];rfl,a⟩
theorem aNF(a:ag.cS)(W:ag)(b:dw)(w:World)(m:ag.fd w a W)(d:Good W):
  Calls prog 174 #[.agg ((ag.cells a W).toArray),.agg #[J b.H,J b.O]] w (λ e w'=>e=.returned (.bool (T1 W b))/\Ext w w'):=by
 refine bT (n:=65) func174 Z Z Z ?_;refine cZ Z Z λ P H y O g=>?_;have T:=g.lt;refine gz Z Z λ Q N r R i=>?_;have s:=Φ y r;have U:=i.lt;refine aG Z<|ar<|?_;have g:=g.O r;refine κ (aq Z (g.all cD bP))<|κ (aj abz Z)<|a1 Z i aH Z<|cf abn Z (afT b.H a W _ (m.be s)) λ S j=>?_;have:=j.size;have z:=Φ s j;refine vm Z<|bL Z Z<|bL Z Z<|cy s_ Z λ V G q M f=>?_;have B:=Φ z q;have K:=f.lt;refine ck Z Z f Z eg Z Z λ X l f=>?_;have:=l.size;have t:=Ext.H B l bn;refine aG Z<|ar<|?_;have g:=(g.O (Φ j q)).H l aJ;refine κ (aq Z (g.all cD bP))<|κ (aj abA Z)<|?_;have i:=(i.O (Φ j q)).H l aJ;refine a1 Z i aH Z<|cf abn Z (afT b.O a W _ (m.be t)) λ Y k=>?_;have:=k.size;have D:=Φ t k;refine vm Z<|bL Z Z<|bL Z Z<|cy s_ Z λ xX F o L h=>?_;have E:=Φ D o;refine ck Z Z h Z eg Z Z λ sN p h=>?_;have u:=Ext.H E p bn;refine aG Z<|av<|?_;refine c_ [(6,0),(8,0),(14,0),(17,0),(18,0),(21,0),(24,0),(25,0),(28,0),(29,0),(35,0),(37,0),(39,0),(40,0)] [0,1,2,3,4,5,6,7,8,9,10,11,12,13,14,15,16,17,18,19,20,21,22,23,24,25,26,27,28,29,30,31,32,33,34,35,36,37,38,39,40,41,42] ?_;refine bt Z Z<|bt Z Z<|ft Z Z Z<|aA Z (λ _=>cQ Z Z Z Z)<|bt Z Z<|bC Z Z (λ c _=>aj ur Z)<|?_;have f:=(f.O (Φ k o)).H p aJ;refine cu Z Z (λ c _ x=>aq (gt c Z) ((f.O x).one aH Z))<|bC Z Z (λ c _=>aj ur Z)<|cu Z Z (λ c _ x=>aq (gt c Z) ((h.O x).one aH Z))<|bC Z Z (λ c _=>bne (gt c Z) (gt c Z))<|aA Z (λ _=>cQ Z Z Z Z)<|bt Z Z<|bC Z Z (λ c _=>aj ld Z)<|bC Z Z (λ c _=>aj fj (gt c Z))<|cu Z Z (λ c _ x=>aq (gt c Z) ((f.O x).one aH Z))<|bC Z Z (λ c _=>aj ld Z)<|bC Z Z (λ c _=>aj fj (gt c Z))<|cu Z Z (λ c _ x=>aq (gt c Z) ((h.O x).one aH Z))<|c8 Z Z Z Z Z Z GO (λ c=>b6 (gt c Z) (b6 (gt c Z) Z)) (λ c _ x=>HL ((((k2 W.ah b.H).getD default)).an.x) ((((k2 W.ah b.O).getD default)).an.x) _ (xj.far d.am (Ky d (O2 c).1) (Ky d (O2 c).2)).1) Z<|bC Z Z (λ c _=>aj ld Z)<|bC Z Z (λ c _=>aj fk (gt c Z))<|cu Z Z (λ c _ x=>aq (gt c Z) ((f.O x).one aH Z))<|bC Z Z (λ c _=>aj ld Z)<|bC Z Z (λ c _=>aj fk (gt c Z))<|cu Z Z (λ c _ x=>aq (gt c Z) ((h.O x).one aH Z))<|c8 Z Z Z Z Z Z GO (λ c=>b6 (gt c Z) (b6 (gt c Z) Z)) (λ c _ x=>HL ((((k2 W.ah b.H).getD default)).an.y) ((((k2 W.ah b.O).getD default)).an.y) _ (xj.far d.am (Ky d (O2 c).1) (Ky d (O2 c).2)).2) Z<|bC Z Z (λ c _=>mx (gt c Z) (gt c Z))<|bC Z Z (λ c _=>aj Ar Z)<|cu Z Z (λ c _ x=>aq (gt c Z) ((f.O x).one aH Z))<|c8 Z Z Z Z Z Z L6 (λ c=>b6 (gt c Z) Z) (λ c _ x=>Nv ((((k2 W.ah b.H).getD default)).O) _ (Ky d (O2 c).1).eE) Z<|?_;refine bC (v:=J (E_ ((((k2 W.ah b.H).getD default)).O))) Z Z (λ c _=>L_ (gt c Z) GT)<|bC Z Z (λ c _=>ble (gt c Z) (gt c Z))<|aA Z (λ _=>cQ Z Z Z Z)<|bt Z Z<|bC Z Z (λ c _=>aj lA Z)<|?_;have g:=(g.O (Φ k o)).H p aJ;refine cu Z Z (λ c _ x=>aq (gt c Z) ((g.O x).Y [J W.am.O,J W.am.high,.slice a.P W.am.G.length a.p] gA gB Z))<|bC Z Z (λ c _=>aj ld Z)<|cu Z Z (λ c _ x=>aq (gt c Z) ((f.O x).Y [J ((((k2 W.ah b.H).getD default)).an.x),J ((((k2 W.ah b.H).getD default)).an.y)] bS bq Z))<|bC Z Z (λ c _=>aj ld Z)<|cu Z Z (λ c _ x=>aq (gt c Z) ((h.O x).Y [J ((((k2 W.ah b.O).getD default)).an.x),J ((((k2 W.ah b.O).getD default)).an.y)] bS bq Z))<|c8 Z Z Z Z Z Z aC8 (λ c=>b6 (gt c Z) (b6 (gt c Z) (b6 (gt c Z) Z))) (λ c _ x=>aN5 W.am _ _ ((((k2 W.ah b.H).getD default)).an) ((((k2 W.ah b.O).getD default)).an) _ d.am (m.P.be (Φ u x)) (aE.K (Ky d (aio c).1).ground) (aE.K (Ky d (aio c).2).ground)) Z<|aA Z (λ _=>cQ Z Z Z Z)<|aA Z (λ _=>fh Z)<|fn λ rJ A=>?_;have C:=Φ u A;refine a7<|rt<|b3 Z Z<|?_;exact⟨Z,C⟩
theorem aNX(a:ag.cS)(W:ag)(t:bb)(b:dw)(i h:Nat)(w:World)(l:ag.fd w a W)(k:Good W)(f:aO w i [J t.id,J t.H,J t.O,J t.an.x,J t.an.y,J t.K,J t.load] 68 (0,0))(g:aO w h (ag.cells a W) 28 (0,0)):
  Calls prog 173 #[.agg #[J b.H,J b.O],.pointer (bd i),.pointer (bd h)] w (λ e w'=>e=.returned (.bool ((b.H == t.id) && T1 W b))/\Ext w w'):=by
 refine bT (n:=15) func173 Z Z Z ?_;refine cZ Z Z λ r p d q j=>?_;refine aG Z<|ar<|κ (aj abz Z)<|a1 Z j aH Z<|κ (aj r6 Z)<|?_;have f:=f.O d;refine a1 Z f aH Z<|κ (beq Z Z)<|vm Z<|?_;have g:=g.O d;refine aR Z (λ c=>aq Z (g.all cD bP))<|aR Z (λ c=>aq Z (j.all aby I_))<|iD Z aC9 (λ c=>b6 (gt c Z) (b6 (gt c Z) Z)) (λ c=>aNF a W b _ (l.be d) k) λ s o=>?_;have m:=Φ d o;refine κ (cQ Z Z Z Z)<|bc Z<|b3 Z Z<|?_;exact⟨Z,m⟩
theorem aNY(a:ag.cS)(W:ag)(A:Option Addr)(c:Nat)(l:List dw)(d:Int)(w:World)(B:ag.fd w a W)(t:Good W)(z:dw.ce.aF 16 w A c l):
  Calls prog 142 #[.agg ((ag.cells a W).toArray),.slice A l.length c,J d] w (λ e w'=>e=.returned (J (Ms W l d))/\Ext w w'):=by
 refine bT (n:=40) func142 Z Z Z ?_;refine cZ Z Z λ ch o N cY g=>?_;refine aG Z<|ar<|aG Z<|av<|ar<|κ (aj fC Z)<|a1 Z g gR Z<|κ (bY underlying26 Z)<|vm Z<|ax<|bp<|?_;refine di (λ P O E=>∃ k:Nat,∃ m:Int,O=[(1,.slice A l.length c),(2,J d),(3,.pointer (bd o)),(6,J 0),(7,J m),(12,.slice a.T W.ah.length a.t),(13,J (W.ah.length:Int)),(14,J (k:Int))]/\P=W.ah.length-k/\Ext w E/\aO E o (ag.cells a W) 28 (0,0)/\(k<=W.ah.length)/\(m=Ex W l d k)) _ _ ⟨0,0,Z,Z,N,g,GE,rfl⟩ (c' Z Z Z) ?_;rintro U X dr ⟨k,m,rfl,rfl,p,g,au,C⟩;have V:=g.lt;refine ar<|cF Z Z<|ax<|av<|?_;refine c7 Z (λ L=>?_) (λ L=>?_)
 .have Q:=(t.ah k _ (cg (u:=default) GE)).eE;have y:0<=pw (W.ah.getD k default).O/\pw (W.ah.getD k default).O<=4:=by unfold pw;split<;>(try split)<;>omega
  have tu:=t.dj;refine bf<|av<|bp<|ar<|κ (bD k underlying26 eg Z Z ((B.T.be p).Y (aL k)) Z GE)<|κ (aq Z (τ.aF.G gm ((B.T.be p).O (aL k)) (cg (l:=W.ah) (u:=default) GE) oI eg))<|cy s_ Z λ T F G Y j=>?_;have S:=Φ p G;refine ck Z Z j Z eg Z Z λ vh K j=>?_;have D:=Ext.H S K bn;refine ax<|aC Z<|κ (A3 Z Z)<|?_;have g:=(g.O G).H K aJ;have M:=j;refine cf aDb Z (show Calls _ _ _ _ (λ e w'=>e=.returned (J (G9 W l (W.ah.getD k default)))/\Ext _ w')from aIL 173 [.pointer (bd F),.pointer (bd o)] (λ b=>(b.H == (W.ah.getD k default).id) && T1 W b) A c l _ (z.be D) aDa (λ x hx w' h=>aNX a W (W.ah.getD k default) x F o w' ((B.be D).be h) t (M.O h) (g.O h))) λ ow q=>?_;have r:=Φ D q;refine aG Z<|aC Z<|κ (iV Z Z)<|vm Z<|er Z Z<|er Z Z<|aR Z (λ f=>bD ((G9 W l (W.ah.getD k default)).toNat) underlying138 I_ (gt f Z) (gt f Z) ((z.be r).Y (aL ((G9 W l (W.ah.getD k default)).toNat) (VC (by have i:=f;simp only[cb]at i;exact i)))) (by (try simp only[cb]at f);omega) (VC (by have i:=f;simp only[cb]at i;exact i)))<|aR Z (λ f=>aj abA (gt f Z))<|aR Z (λ f=>aq (gt f Z) (τ.aF.C ac8 ((z.be r).O (aL ((G9 W l (W.ah.getD k default)).toNat) (VC (by have i:=f;simp only[cb]at i;exact i)))) 1 (cg (l:=l) (u:=default) (VC (by have i:=f;simp only[cb]at i;exact i))) Z aH))<|er Z Z<|aR Z (λ f=>beq (gt f Z) (gt f Z))<|κ (cQ Z Z Z Z)<|ax<|?_;refine dB Z (λ s=>?_) (λ s=>?_)
  .refine rg<|vm Z<|κ (aj Ar Z)<|?_;have j:=j.O q;refine a1 Z j aH Z<|cf L6 Z (Nv ((W.ah.getD k default).O) _ Q) λ rI H=>?_;have R:=Φ r H;refine κ (v:=J (pw ((W.ah.getD k default).O))) (L_ Z GT)<|κ (bad Z Z (mb (by have:=Qe W l d k;have:=y;omega)))<|va Z<|nl<|bK<|a7<|rg<|κ (bad Z Z (mb (by have:=Qe W l d k;have:=y;omega)))<|vm Z<|nl<|?_;have g:=g.O (Φ q H);exact oR _ _ ⟨k+1,m+pw (W.ah.getD k default).O,Z,Z,R,g,GE,by rw[Ex,<-C];unfold MI;rw[bap (by simpa using s)]⟩ GE (.cons Z (.cons Z (.cons Z (.cons Z (.cons (xE Z) (c' Z Z Z))))))
  .refine dP<|bK<|a7<|rg<|κ (bad Z Z (mb (by have:=Qe W l d k;have:=y;omega)))<|vm Z<|nl<|?_;have g:=g.O q;exact cM ⟨k+1,m,Z,Z,r,g,GE,by rw[Ex,<-C];unfold MI;rw[ban (by simpa using s)];omega⟩
 .refine cI<|cH<|cU<|cG<|a7<|aC Z<|bc Z<|b3 Z Z<|?_;exact⟨by rw[C,show k=W.ah.length by omega];rfl,p⟩
theorem aOh(a:ag.cS)(W:ag)(A:Option Addr)(c:Nat)(l:List dw)(w:World)(p:ag.fd w a W)(z:Good W)(az:dw.ce.aF 16 w A c l):
  Calls prog 115 #[.agg ((ag.cells a W).toArray),.slice A l.length c] w (λ e w'=>∃(a':ag.cS) (V:ag) (C:Option Addr) (n d:Nat),e=.returned (.tuple #[.agg (ag.cells a' V).toArray,.slice C n d])/\ag.fd w' a' V/\Good V/\V.db=W.db/\(∀ q∈bF.G a',q∈bF.G a\/(w.heap.size<=q/\q<w'.heap.size))/\Ext w w'):=by
 have tu:=z.dj;refine bT (n:=43) func115 Z Z Z ?_;refine cZ Z Z λ ch O aV cY b=>?_;have gp:=b.lt;refine cy nO Z λ dr S bh fl f=>?_;have bo:=Φ aV bh;refine aG Z<|ar<|aG Z<|ar<|aG Z<|av<|ar<|κ (aj fC Z)<|?_;have b:=b.O bh;refine a1 Z b gR Z<|κ (bY underlying26 Z)<|vm Z<|ax<|bp<|?_;refine di (λ bJ bH y=>∃ k:Nat,∃ T:List bb,∃ B:Option Addr,∃ d:Nat,∃ G:List Int,∃ C:Option Addr,∃ e:Nat,bH=[(1,.slice A l.length c),(2,.pointer (bd O)),(4,.pointer (bd S)),(5,.slice none 0 0),(6,.slice B T.length d),(7,.slice C G.length e),(11,.slice a.T W.ah.length a.t),(12,J (W.ah.length:Int)),(13,J (k:Int))]/\bJ=W.ah.length-k/\Ext w y/\aO y O (ag.cells a W) 28 (0,0)/\aO y S [J 0,J 0,.slice none 0 0,.slice none 0 0,.slice none 0 0,.slice none 0 0,.slice none 0 0,J 0,J 0] 28 (0,0)/\bb.ce.aM 68 56 y w.heap.size (τ.ai B) B d (T)/\bN.aM 3 8 y w.heap.size (τ.ai C) C e (G)/\(k<=W.ah.length)/\(yz W k T)/\(G.length<=k)/\(∀ q∈τ.ai B,q=O->False)/\(∀ q∈τ.ai B,q=S->False)/\(∀ q∈τ.ai C,q=O->False)/\(∀ q∈τ.ai C,q=S->False)/\(∀ q∈τ.ai C,q∈τ.ai B->False)) _ _ ⟨0,[],none,0,[],none,0,Z,Z,bo,b,f,(τ.aM.nil _),(τ.aM.nil _),GE,yz.nil,Kx,(λ q I P=>by (simp[τ.ai]at I)),(λ q I P=>by (simp[τ.ai]at I)),(λ q I P=>by (simp[τ.ai]at I)),(λ q I P=>by (simp[τ.ai]at I)),(λ q I P=>by (simp[τ.ai]at I))⟩ (c' Z Z Z) ?_;rintro xJ aP wL ⟨k,T,B,d,G,C,e,rfl,rfl,Y,b,f,g,r,au,U,aW,M,K,aa,ab,L⟩;have aM:=b.lt;have aD:=f.lt;have F:=b4 g.lt;have E:=b4 r.lt;refine ar<|cF Z Z<|ax<|av<|?_;refine c7 Z (λ Ev=>?_) (λ Ev=>?_)
 .have MG:W.ah[k]? =some (W.ah.getD k default):=cg GE;have cA:=z.ah k _ MG;have aI:=aej (W.ah.getD k default).O;have aR:=cA.K;have aF:0<=Ms W l (W.ah.getD k default).id/\Ms W l (W.ah.getD k default).id<=4*(W.ah.length:Int):=Qe _ _ _ _;have aQ:=U.len;have Vz:=HQ p.T k;refine bf<|av<|bp<|ar<|κ (bD k underlying26 eg Z Z ((p.T.be Y).Y (aL k)) Z GE)<|κ (aq Z (τ.aF.G gm ((p.T.be Y).O (aL k)) (cg (l:=W.ah) (u:=default) GE) oI eg))<|cy s_ Z λ rI TU s aT h=>?_;have ic:=Φ Y s;have aN:=h.lt;refine ck Z Z h Z eg Z Z λ KF o h=>?_;have:=o.size;have qv:=Ext.H ic o bn;refine ax<|av<|?_;refine c_ [(1,0),(2,0),(5,0),(6,0),(9,3)] [0,1,2,3,4,5,6,7,8,9] ?_;refine aA Z (λ _=>aj Ec Z)<|cr Z Z h aH Z<|?_;have b:=(b.O s).H o aJ;refine dE Z (λ _ x=>aq Z ((b.O x).all cD bP))<|bt Z Z<|aA Z (λ _=>aj r6 Z)<|cr Z Z h aH Z<|nQ Z Z aDc Z (λ _ x=>aNY a W _ _ l ((W.ah.getD k default).id) _ (p.be (Φ qv x)) z (az.be (Φ qv x))) Z<|aA Z (λ _=>hi Z Z dK)<|aA Z (λ _=>aj Ec Z)<|en Z Z Z λ Bp i Q hK=>ep Z Z (h.O i) Z cO Z Z λ H4 m h=>hK _ _ ?_;have:=i.size;have n7:=Φ qv i;have:=m.size;have qw:=Ext.H n7 m bn;refine fn λ zr j=>?_;have:=j.size;have nB:=Φ qw j;refine a7<|av<|ar<|κ (aj Ec Z)<|?_;have h:=h.O j;refine a1 Z h aH Z<|κ (ble Z Z)<|ax<|?_;refine xp Z (λ xz=>?_) (λ xz=>?_)
  .refine aC Z<|κ (aj r6 Z)<|a1 Z h aH Z<|cT (e:=3) (cs:=[J ((W.ah.getD k default).id)]) Z (λ _=>GT) Z λ H6 IU D aS Ip=>?_;have sR:=Φ nB D;have Xi:=Ip.lt;have r:=((((r.O s).H o (bV E)).O i).H m (bV E)).O (Φ j D);refine ap axK τ.O r (aO.G (R:=bN) (by_:=8) (q:=(W.ah.getD k default).id) Ip ⟨Z,Vz.1⟩ GP) Z Z (by simp;omega) (by simp;omega) GE Z λ R7 ai an N al ad aw=>?_;have Bz:=Ext.H sR N (λ q I=>bay GE (r.lt q I).1);refine aG Z<|cI<|cH<|cG<|cW Z Z Z<|?_;have b:=(((b.O i).H m aJ).O (Φ j D)).H N (λ I=>aa _ I rfl);have f:=(((((f.O s).H o aJ).O i).H m aJ).O (Φ j D)).H N (λ I=>ab _ I rfl);have g:=(((((g.O s).H o (bV F)).O i).H m (bV F)).O (Φ j D)).H N (fa L);exact cM ⟨k+1,T,B,d,G++ [(W.ah.getD k default).id],ai,an,Z,Z,Bz,b,f,g,al,GE,U.skip,by simp;omega,M,K,(eh ad aa),(eh ad ab),(oq ad L F)⟩
  .refine bf<|rg<|vm Z<|κ (aq Z (h.all oI eg))<|cT (e:=68) (cs:=[J ((W.ah.getD k default).id),J ((W.ah.getD k default).H),J ((W.ah.getD k default).O),J ((W.ah.getD k default).an.x),J ((W.ah.getD k default).an.y),J (((W.ah.getD k default).K)-(Ms W l ((W.ah.getD k default).id))),J ((W.ah.getD k default).load)]) Z (λ _=>GT) Z λ R8 aE v aK af=>?_;have yk:=Φ nB v;have aB:=af.lt;have g:=((((g.O s).H o (bV F)).O i).H m (bV F)).O (Φ j v);refine ap axJ τ.O g (aO.G (R:=bb.ce) (by_:=56) (q:=(⟨(W.ah.getD k default).id,(W.ah.getD k default).H,(W.ah.getD k default).O,⟨(W.ah.getD k default).an.x,(W.ah.getD k default).an.y⟩,((W.ah.getD k default).K)-(Ms W l ((W.ah.getD k default).id)),(W.ah.getD k default).load⟩:bb)) af ⟨Z,by obtain⟨kn,jh,jx,jQ,ko,oS,wy⟩:=Vz;exact⟨kn,jh,jx,jQ,ko,ea,wy⟩⟩ GP) Z Z (by simp;omega) (by simp;omega) GE Z λ R_ ak ao X am ae ay=>?_;have BB:=Ext.H yk X (λ q I=>bay GE (g.lt q I).1);refine va Z<|nl<|bK<|cW Z Z Z<|?_;have b:=(((b.O i).H m aJ).O (Φ j v)).H X (λ I=>M _ I rfl);have f:=(((((f.O s).H o aJ).O i).H m aJ).O (Φ j v)).H X (λ I=>K _ I rfl);have r:=(((((r.O s).H o (bV E)).O i).H m (bV E)).O (Φ j v)).H X L;exact cM ⟨k+1,T++ [(⟨(W.ah.getD k default).id,(W.ah.getD k default).H,(W.ah.getD k default).O,⟨(W.ah.getD k default).an.x,(W.ah.getD k default).an.y⟩,((W.ah.getD k default).K)-(Ms W l ((W.ah.getD k default).id)),(W.ah.getD k default).load⟩:bb)],ak,ao,G,C,e,Z,Z,BB,b,f,am,r,GE,U.push z MG GE,GE,(eh ae M),(eh ae K),aa,ab,(fa (oq ae (fa L) E))⟩
 .refine cI<|cH<|cU<|cG<|a7<|aC Z<|κ (aj fC Z)<|ep Z Z b Z Eb Z Z λ X' wu b=>?_;have FJ:=Ext.H Y wu bn;refine ax<|ar<|κ (aq Z (b.all cD bP))<|vm Z<|?_;have f:=f.H wu aJ;refine ck Z Z f Z bP Z Z λ Sf l4 f=>?_;have H:=Ext.H FJ l4 bn;refine bc Z<|cJ (.cell Z (f.all cD bP) (.tmp Z .nil))<|?_;have g:=(g.H wu (bM M)).H l4 (bM K);exact⟨{a with T:=B,t:=d},{W with ah:=T},C,G.length,e,Z,⟨p.P.be H,p.B.be H,p.S.be H,p.M.be H,g.bv,p.nums⟩,U.hB z au,Z,alB g.lt,H⟩
end
end Go.Proofs.YtooonebcoaleiaaGreat
