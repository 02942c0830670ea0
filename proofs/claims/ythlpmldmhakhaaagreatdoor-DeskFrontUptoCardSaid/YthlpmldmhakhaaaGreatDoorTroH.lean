import Derived.Test.YthlpmldmhakhaaaGreatDoorGooP
set_option linter.unusedVariables false
set_option linter.unusedSimpArgs false
set_option maxRecDepth 100000
set_option maxHeartbeats 4000000
open Go.RowKit
namespace Go.Proofs.YthlpmldmhakhaaaGreatDoor
open Tryz
abbrev aOx:=@List.setIfInBounds_toArray
abbrev aQl:=@Go.wpQuiet_nil
abbrev aQG:=@Nat.le_of_lt
abbrev aQ4:=@Go.World.cell?_of_block
section
variable {a b:ai} {f:au}
theorem auB (h: -1000≤a.x∧a.x≤1000∧ -1000≤a.y∧a.y≤1000) (τ: -1000≤b.x∧b.x≤1000∧ -1000≤b.y∧b.y≤1000):1≤(hP a b).length∧(hP a b).length≤2001∧(hP a b).length=(far a b).toNat+1:=by
 have aq:=iB (b.x - a.x);have bb:=iB (b.y - a.y);unfold hP;rw [D7];unfold far;omega
def au.clear (f:au) (c:ai):Bool:= !(f.l6 c == 1 || f.l6 c == 2)
def r6 (f:au) (a b:ai):Bool:=decide ((hP a b).length<3) || (((hP a b).drop 1).take ((hP a b).length - 1 - 1)).all f.clear
theorem akT (h:(hP a b).length<3):r6 f a b=true:=by unfold r6;rw [aMV h];rfl
theorem akV (h:∀ i,i<(((hP a b).drop 1).take ((hP a b).length - 1 - 1)).length→f.clear ((((hP a b).drop 1).take ((hP a b).length - 1 - 1)).getD i default)=true):r6 f a b=true:=by
 unfold r6;rw [aNa];refine .inr (aNd.2 λ x hx=> ?_);obtain ⟨i,ak,rfl⟩:=aOj hx;have:=h i ak
 rwa [aMv,aMy ak] at this
theorem akU {k:Nat} (aj:k<(((hP a b).drop 1).take ((hP a b).length - 1 - 1)).length) (h:f.clear ((((hP a b).drop 1).take ((hP a b).length - 1 - 1)).getD k default)=false):r6 f a b=false:=by
 unfold r6;have aq:¬ (hP a b).length<3:=by rw [aME,aM9] at aj;omega
 rw [aMY aq,aPk];rw [aPg];refine ⟨_,aNK aj, ?_⟩;rw [aMv,aMy aj] at h;simpa using h
theorem XO {c:ai} (h:f.cG c=0):0≤c.x∧c.x<40∧0≤c.y∧c.y<40:=by
 have hc:f.a7=0:=by
  cases hd:decide (f.a7=0) with
  | true=>simpa using hd
  | false=>rw [(au.Mb (by simpa using hd)).1] at h;exact h
 have ak:=H' hc h;unfold au.dU at ak;rw [aMF] at ak;have κ:=jt ak.1;have τ:=jt ak.2;unfold au.a7 at hc;split at hc
 ·rename_i hw
  rw [aMF] at hw;have aq:=jt hw.1;have bb:=jt hw.2;omega
 ·omega
def rI (f:au) (a b:ai):Int:=if f.cG a≠0 then f.cG a else f.cG b
def B2 (f:au) (a b:ai):Bool:=if rI f a b≠0 then false else r6 f a b || r6 f b a
def Ea (f:au) (a b:ai):Value:= .tuple #[.bool (B2 f a b),γ (rI f a b)]
theorem ayK (h:¬ f.cG a=0):Ea f a b= .tuple #[.bool false,γ (f.cG a)]:=by
 have e:rI f a b=f.cG a:=by unfold rI;rw [aMI h]
 unfold Ea B2;rw [e,aMI h]
theorem ayL (aB:f.cG a=0) (h:¬ f.cG b=0):Ea f a b= .tuple #[.bool false,γ (f.cG b)]:=by
 have e:rI f a b=f.cG b:=by unfold rI;rw [aMA (by simpa using aB)]
 unfold Ea B2;rw [e,aMI h]
theorem ayM (aB:f.cG a=0) (h:f.cG b=0):Ea f a b= .tuple #[.bool (r6 f a b || r6 f b a),γ 0]:=by
 have e:rI f a b=0:=by unfold rI;rw [aMA (by simpa using aB)];exact h
 unfold Ea B2;rw [e,aMA (by simp)]
theorem Mg (f:au) (a b:ai) (A:Option Addr) (c:Nat) (w:World) (bJ:bz.aQ 8 w A c f.places) (h: -1000≤a.x∧a.x≤1000∧ -1000≤a.y∧a.y≤1000) (τ: -1000≤b.x∧b.x≤1000∧ -1000≤b.y∧b.y≤1000):
  Calls prog 127 #[.agg #[γ f.wide,γ f.high, .slice A f.places.length c], .agg #[γ a.x,γ a.y], .agg #[γ b.x,γ b.y]] w (λ e w'=>e= .returned (.bool (r6 f a b))∧Ext w w'):=by
 refine cx (n:=45) func127 Z Z Z ?_;refine eW Z Z λ dn bw bm fO ag=> ?_;refine jk Z Z λ fP dI bD j8 aF=> ?_;have b7:=J bm bD;refine jk Z Z λ iM iT b3 rm bI=> ?_;have c1:=J b7 b3;refine aU Z<|aG<| ?_;have aF:=aF.later b3;refine aa (aA Z (aF.all b0 bs))<|aa (aA Z (bI.all b0 bs))<|ca aoI Z Z ((amo a b _ (by omega) (by omega)).mono ?_);rintro e yR ⟨Hk,Q4,rfl,zl,dS⟩;refine cK ?_;have lq:=J c1 dS;have aF1:=auB (a:=a) (b:=b) (by omega) (by omega);refine vm Z<|b2 Z Z<|b2 Z Z<|va Z<|aU Z<|aI<|aN Z<|aa (dC underlying49 Z)<|fI Z Z<|aJ<| ?_;refine fM Z (λ aqs=> ?_) (λ aqs=> ?_)
 ·refine aG<|bL Z<|cW<|c' Z Z<| ?_;exact ⟨by rw [akT (by omega)];rfl,lq⟩
 ·refine bF<|aI<|aN Z<|vm Z<|aa (dC underlying49 Z)<|aa (iH Z Z fN)<|aa (ayp 1 ((hP a b).length - 1) underlying49 bs Z Z Z Z (by omega) (by omega) (by have:=zl.has.1;omega))<|aa (dC underlying49 Z)<|vm Z<|aJ<|bV<| ?_;have ag:=ag.later (J bD (J b3 dS));refine gh (λ cL cw aV=>∃ k:Nat,cw= [(3, .pointer (a_ bw)),(26, .slice (ez Hk Q4 1 2) ((hP a b).length - 1 - 1) (Q4 - 1)),(27,γ ((((hP a b).length - 1 - 1:Nat):Int))),(28,γ (k:Int))]∧cL=(hP a b).length - 1 - 1 - k∧Ext w aV∧aO aV bw [γ f.wide,γ f.high, .slice A f.places.length c] 48 (0,0)∧ai.rep.aL 98 16 aV iM.heap.size (Φ.ab Hk) Hk Q4 (hP a b)∧(k≤(hP a b).length - 1 - 1)∧(∀ i,i<k→f.clear ((((hP a b).drop 1).take ((hP a b).length - 1 - 1)).getD i default)=true)) _ _ ⟨0,Z,Z,lq,ag,zl,by omega,λ i ak=>by omega⟩ (eV Z Z Z) ?_;rintro Ac aC7 Ca ⟨k,rfl,rfl,oZ,ag,zl,aj,aT⟩;have axx:=ag.lt;have azT:=bY zl.lt;refine aG<|fI Z Z<|aJ<|aI<| ?_;refine fM Z (λ aqt=> ?_) (λ aqt=> ?_)
  ·refine bF<|aI<|bV<|aG<|aa (bX k underlying49 bs Z Z ((zl.has.sub 1 ((hP a b).length - 1) (by omega) (by omega)).bx (a1 k (by rw [aME,aM9];omega))) Z (by omega))<|aa (aA Z (Φ.aQ.jG vP ((zl.has.sub 1 ((hP a b).length - 1) (by omega) (by omega)).ck (a1 k (by rw [aME,aM9];omega))) (cl (l:=((hP a b).drop 1).take ((hP a b).length - 1 - 1)) (u:=default) (by rw [aME,aM9];omega)) b0 bs))<|dj sk Z λ Ek XY jB atK sZ=> ?_;have nj:=J oZ jB;refine c6 Z Z sZ Z bs Z Z λ El J2 sZ=> ?_;have o0:=Ext.mod nj J2 bE;refine aJ<|aG<| ?_;have ag:=(ag.later jB).mod J2 aY;refine aa (aA Z (ag.all gZ gy))<|aa (aA Z (sZ.all b0 bs))<|de o8 Z (p2 f (((((hP a b).drop 1).take ((hP a b).length - 1 - 1)).getD k default)) _ _ _ (bJ.keep o0)) λ xe di=> ?_;have k2:=J o0 di;refine vm Z<|b2 Z Z<|b2 Z Z<|va Z<|aU Z<|aN Z<|aa (beq Z Z)<|vm Z<|gw Z Z<|cb Z (λ hc=>beq (gt hc Z) Z)<|aa (gq Z Z Z Z)<|aJ<| ?_;refine c_ Z (λ tC=> ?_) (λ tC=> ?_)
   ·refine aG<|bL Z<|hk<|cW<|Ee<|hk<|cW<|c' Z Z<| ?_;exact ⟨by rw [akU (k:=k) (by rw [aME,aM9];omega) (by unfold au.clear;rw [tC];rfl)];rfl,k2⟩
   ·refine gb<|cm<|eR Z Z Z<| ?_;have ag:=ag.later di;have zl:=((zl.later jB).mod J2 (bk azT)).later di;exact fh ⟨k+1,Z,Z,k2,ag,zl,by omega,DK aT (by unfold au.clear;rw [tC];rfl)⟩
  ·refine er<|ep<|eY<|eo<|br<|aG<|bL Z<|c' Z Z<| ?_;exact ⟨by rw [akV λ i ak=>aT i (by rw [aME,aM9] at ak;omega)];rfl,oZ⟩
theorem ayJ (f:au) (a b:ai) (A:Option Addr) (c:Nat) (w:World) (bJ:bz.aQ 8 w A c f.places):
  Calls prog 155 #[.agg #[γ f.wide,γ f.high, .slice A f.places.length c], .agg #[γ a.x,γ a.y], .agg #[γ b.x,γ b.y]] w (λ e w'=>e= .returned (Ea f a b)∧Ext w w'):=by
 refine cx (n:=38) func155 Z Z Z ?_;refine eW Z Z λ dn bw bm fO ag=> ?_;have ja:=ag.lt;refine jk Z Z λ fP dI bD j8 aF=> ?_;have b7:=J bm bD;have qx:=aF.lt;refine jk Z Z λ iM iT b3 rm bI=> ?_;have c1:=J b7 b3;have yF:=bI.lt;refine va Z<|aU Z<|aI<|aG<| ?_;have aF:=aF.later b3;refine aa (aA Z (aF.all b0 bs))<|aa (aA Z (bI.all b0 bs))<|aa (v:= .agg #[γ a.x,γ a.y,γ b.x,γ b.y]) (ht Z)<|vm Z<|aJ<|bV<|JU 3<|mf<|aG<|fI Z Z<|aJ<|aI<|gX Z<|bF<|aI<|bV<|aG<|aa (v:= .agg #[γ a.x,γ a.y]) (N5 Z Z (by kernel_rfl))<|dj sk Z λ qF XV iC adA xz=> ?_;have gR:=J c1 iC;have Uv:=xz.lt;refine c6 Z Z xz Z bs Z Z λ Ca Ac xz=> ?_;have:=Ac.size;have oZ:=Ext.mod gR Ac bE;refine aJ<|aG<| ?_;have ag:=(ag.later (J bD (J b3 iC))).mod Ac aY;refine aa (aA Z (ag.all gZ gy))<|aa (aA Z (xz.all b0 bs))<|de o8 Z (p2 f a _ _ _ (bJ.keep oZ)) λ Vx lU=> ?_;have:=lU.size;have AK:=J oZ lU;refine vm Z<|b2 Z Z<|b2 Z Z<|va Z<|aU Z<|aN Z<|gJ Z Z<|aJ<| ?_;refine ob Z (λ SJ=> ?_) (λ SJ=> ?_)
 ·refine aN Z<|va Z<|bL Z<|hk<|cW<|Ee<|hk<|cW<|hl Z Z Z<| ?_;exact ⟨by rw [ayK SJ];rfl,AK⟩
 ·have aGk:=XO SJ;refine gb<|cm<|br<|rg<|aa (q0 (r:=1) Z Z (by decide) (by decide))<|vm Z<|nl<|rC<|mf<|aG<|fI Z Z<|aJ<|aI<|gX Z<|bF<|aI<|bV<|aG<|aa (v:= .agg #[γ b.x,γ b.y]) (N5 Z Z (by kernel_rfl))<|dj sk Z λ xc akJ jC atL EN=> ?_;have jT:=J AK jC;refine c6 Z Z EN Z bs Z Z λ VA J3 EN=> ?_;have sV:=Ext.mod jT J3 bE;refine aJ<|aG<| ?_;have ag:=(ag.later (J lU jC)).mod J3 aY;refine aa (aA Z (ag.all gZ gy))<|aa (aA Z (EN.all b0 bs))<|de o8 Z (p2 f b _ _ _ (bJ.keep sV)) λ Pk uF=> ?_;have sW:=J sV uF;refine vm Z<|b2 Z Z<|b2 Z Z<|va Z<|aU Z<|aN Z<|gJ Z Z<|aJ<| ?_;refine ob Z (λ j4=> ?_) (λ j4=> ?_)
  ·refine aN Z<|va Z<|bL Z<|hk<|cW<|Ee<|hk<|cW<|hl Z Z Z<| ?_;exact ⟨by rw [ayL ‹_› j4];rfl,sW⟩
  ·have aGl:=XO j4;refine gb<|cm<|br<|rg<|aa (q0 (r:=2) Z Z (by decide) (by decide))<|vm Z<|nl<|rC<|mf<|aG<|fI Z Z<|aJ<|aI<|hL Z<|er<|ep<|eY<|eo<|br<|aG<| ?_;have ag:=ag.later uF;refine aa (aA Z (ag.all gZ gy))<| ?_;have aF:=((((aF.later iC).mod Ac aY).later (J lU jC)).mod J3 aY).later uF;refine aa (aA Z (aF.all b0 bs))<| ?_;have bI:=((((bI.later iC).mod Ac aY).later (J lU jC)).mod J3 aY).later uF;refine aa (aA Z (bI.all b0 bs))<|de MU Z (Mg f a b _ _ _ (bJ.keep sW) (by omega) (by omega)) λ En AE=> ?_;have l0:=J sW AE;refine vm Z<| ?_;have ag:=ag.later AE;refine cb Z (λ hc=>aA Z (ag.all gZ gy))<| ?_;have bI:=bI.later AE;refine cb Z (λ hc=>aA Z (bI.all b0 bs))<| ?_;have aF:=aF.later AE;refine cb Z (λ hc=>aA Z (aF.all b0 bs))<|yN Z MU (λ hc=>gG (gt hc Z) (gG (gt hc Z) (gG (gt hc Z) Z))) (λ hc=>Mg f b a _ _ _ (bJ.keep l0) (by omega) (by omega)) λ agO K4=> ?_;have Hf:=J l0 K4;refine aa (gq Z Z Z Z)<|va Z<|bL Z<|hl Z Z Z<| ?_;exact ⟨by rw [ayM ‹_› ‹_›];rfl,Hf⟩
end
structure eM where
 bf:Int
 j_:Int
 deriving DecidableEq,Inhabited
namespace eM
def cells (a:eM):List Value:= [.int .i64 (a.bf), .int .i64 (a.j_)]
def ok (a:eM):Prop:=(Lit.int .i64 a.bf).wf=true∧(Lit.int .i64 a.j_).wf=true
def raw (j:Nat) (u:Value):Prop:=match j with
 | 0=>∃ n:Int,u= .int .i64 n
 | 1=>∃ n:Int,u= .int .i64 n
 | _=>True
theorem sa (a:eM):∀ (j:Nat) u,a.cells[j]? =some u→raw j u:=by
 intro j u hu
 match j,hu with
 | 0,hu=>exact ⟨_,(aMJ hu).symm⟩
 | 1,hu=>exact ⟨_,(aMJ hu).symm⟩
 | j+2,hu=>exact trivial
theorem r_ (a:eM):∀ u∈a.cells,u.oneCell'=true:=by
 intro u hu;unfold cells at hu;simp only [aMN,aN7,aOM] at hu;rcases hu with rfl | rfl<;>rfl
def rep:Φ eM:=Φ.flat 2 cells ok raw (fun _=>rfl) r_ sa
def zero:Value:= .agg #[.int .i64 0, .int .i64 0]
theorem k3:∀ (j:Nat) u,zero.cells[j]? =some u→rep.raw j u:=by
 intro j u hu;have hu:(#[(.int .i64 0:Value),(.int .i64 0:Value)]:Array Value)[j]? =some u:=hu
 match j,hu with
 | 0,hu=>exact ⟨_,(aMJ hu).symm⟩
 | 1,hu=>exact ⟨_,(aMJ hu).symm⟩
 | j+2,hu=>cases hu
theorem info:(prog.info? 210).map (fun i=>(i.zero,i.size,i.bytes))=some (some zero,2,16):=by kernel_rfl
def sh:hq:=(.cons (.int .i64) (.cons (.int .i64) .nil))
end eM
theorem aqX {w:World} {cs:List Value} {a:eM} (h:eM.rep.has w cs a):cs=a.cells:=aOY (show cs=a.cells∧a.ok from h)
theorem aw8 (a:ae.cU) (W:ae) (w:World) (b8:ae.Has w a W) (aB:W.field.a7=0) (ft:W.bj.length≤8):
    Calls prog 106 #[.agg (ae.cells a W).toArray] w λ e w'=>e= .returned (.bool W.mZ)∧Below w.heap.size w w':=by
  obtain ⟨eG,fV,fW,fq,eO,eJ,ff,fT,fv,eS⟩:=a;show Calls _ _ #[.agg #[.int .i64 W.field.wide, .int .i64 W.field.high, .slice eG W.field.places.length eJ, .slice fV W.bj.length ff, .slice fW W.bh.length fT, .slice fq W.bW.length fv, .slice eO W.ah.length eS, .int .i64 W.next, .int .i64 W.now]] _ _;obtain ⟨gU,jF⟩:∃ n,Hid (W.bj.length=n):=⟨_,aMH rfl⟩;obtain ⟨ns,ze⟩:∃ n,Hid (W.bh.length=n):=⟨_,aMH rfl⟩;have ft:gU≤8:=by rw [← jF.out];exact ft
  have cS:=ky w (.cells (ae.cells ⟨eG,fV,fW,fq,eO,eJ,ff,fT,fv,eS⟩ W).toArray 52);have kM:=aMH (aO.new w (ae.cells ⟨eG,fV,fW,fq,eO,eJ,ff,fT,fv,eS⟩ W) 52 (0,0));have qR:=aMH (b8.keep cS);have kb:=aMH aB;obtain ⟨w0,iF⟩:∃ w0,Hid (w.alloc (.cells (ae.cells ⟨eG,fV,fW,fq,eO,eJ,ff,fT,fv,eS⟩ W).toArray 52)=w0):=⟨_,aMH rfl⟩;rw [iF.out] at cS qR;have kM:Hid (aO w0 w.heap.size (ae.cells ⟨eG,fV,fW,fq,eO,eJ,ff,fT,fv,eS⟩ W) 52 (0,0)):=by rw [← iF.out];exact kM
  have n8:Hid (w.alloc (.cells #[.int .i64 W.field.wide, .int .i64 W.field.high, .slice eG W.field.places.length eJ, .slice fV gU ff, .slice fW ns fT, .slice fq W.bW.length fv, .slice eO W.ah.length eS, .int .i64 W.next, .int .i64 W.now] 52)=w0):=by rw [← iF.out,← jF.out,← ze.out];rfl
  obtain ⟨bS,bd,bP,c3,c4,c5,dw,dV,dW⟩:=ae.rM kM.out;rw [jF.out] at c3;rw [ze.out] at c4;clear b8 aB;by_cases hlen:ns=gU
  · subst hlen
    have A0:Hid (∀ j,j<0→W.wO j=true):=aMH λ j aw=>absurd aw (by omega);go_enter func106,ntmps106;rw [jF.out,ze.out];go_wp2_with fail
    rw [n8.out];go_loopw [3,4,15] (λ _ _ gI wr=>∃ k:Nat,k≤ns∧gI= .int .i64 (k:Int)∧Hid (∀ j,j<k→W.wO j=true)∧Below w0.heap.size w0 wr) (λ _ _ gI _=>ns - (intOf gI).toNat)
    case atStart=>exact ⟨0,aNl _,rfl,A0,aNb _ _⟩
    case round =>
      clear A0 bS bd bP c3 c4 c5 dw dV dW;obtain ⟨k,aj,rfl,jf,af⟩:=hrel;by_cases bB:k<ns
      · obtain ⟨p,hp⟩:=jm (l:=W.bj) (i:=k) (by rw [jF.out];exact bB)
        obtain ⟨st,hs⟩:=jm (l:=W.bh) (i:=k) (by rw [ze.out];exact bB);have Nu:=qR.out.keep af;have aax:=kM.out.later af;have Nt:ai.rep.aQ 16 wr fV ff W.bj:=Nu.B;have I3:bz.aQ 8 wr eG eJ W.field.places:=Nu.P;have aaE:bz.aQ 8 wr fW fT W.bh:=Nu.S;have aa6:(ns:Int)≤(ff:Int):=by have:=Nt.1;rw [jF.out] at this;omega
        obtain ⟨b,o,rfl,jJ⟩:=ai.at_ Nt (by rw [jF.out];omega);obtain ⟨OI,mW⟩:=jJ k p hp;obtain ⟨b9,os,rfl,ND⟩:=D_ aaE (by rw [ze.out];omega);have UM:=ND k st hs;obtain ⟨bS,bd,bP,c3,c4,c5,dw,dV,dW⟩:=ae.rM aax;rw [jF.out] at c3;rw [ze.out] at c4;have dk:W.wO k=(W.field.ground p && !(W.bj.take k).contains p && cJ st 0 1000000):=by
          unfold ae.wO;rw [aMv,hp,aMv,hs];rfl
        have dM:=ky wr (.cells #[.int .i64 p.x, .int .i64 p.y] 98);have Ns:=aO.new wr p.cells 98 (0,0);obtain ⟨aM,Qo⟩:∃ aM,Hid (wr.alloc (.cells #[.int .i64 p.x, .int .i64 p.y] 98)=aM):=⟨_,aMH rfl⟩;rw [Qo.out] at dM;have Ns:aO aM wr.heap.size p.cells 98 (0,0):=by rw [← Qo.out];exact Ns
        obtain ⟨B0,r1⟩:=ai.eh Ns;have k4:=aMH (λ (V:World) (h:Below aM.heap.size aM V)=>I1 W.field p eG eJ V ((I3.keep dM).keep h) kb.out);have CC:=aMH (λ (V:World) (h:Below aM.heap.size aM V)=>aqI p (some ⟨b,o,none⟩) ff (W.bj.take k) V (((Nt.GR k).keep dM).keep h));have nG:(W.bj.take k).length=k:=by rw [aME,jF.out];omega
        rw [nG] at CC;have rX:=aMH (λ (V:World)=>Pv st 0 1000000 V);have kc:=aMH dk;have Bw:=af.trans (dM.mono af.size);have k9:(k:Int)<(ns:Int):=by omega
        have sB:(0:Int)≤(k:Int):=by omega
        have arE:(k:Int)≤(ff:Int):=by omega
        have arG:k≤ff:=by omega
        clear Nu aax jJ ND hp hs dk nG Nt I3 aaE;go_wp2_with fail
        rw [Qo.out];have bS:=cell_later dM bS;have bd:=cell_later dM bd;have bP:=cell_later dM bP;have c3:=cell_later dM c3;have c4:=cell_later dM c4;have UM:=cell_later dM UM;have ji:=aMH (λ (nc:World) (h:Below aM.heap.size aM nc)=>(⟨trivial,cell_later h bS,cell_later h bd,cell_later h bP,cell_later h c3,cell_later h c4,cell_later h B0,cell_later h r1,cell_later h UM⟩:True∧nc.cell? ⟨w.heap.size,0,none⟩=some (.int .i64 W.field.wide)∧nc.cell? ⟨w.heap.size,1,none⟩=some (.int .i64 W.field.high)∧nc.cell? ⟨w.heap.size,2,none⟩=some (.slice eG W.field.places.length eJ)∧nc.cell? ⟨w.heap.size,3,none⟩=some (.slice (some ⟨b,o,none⟩) ns ff)∧nc.cell? ⟨w.heap.size,4,none⟩=some (.slice (some ⟨b9,os,none⟩) ns fT)∧nc.cell? ⟨wr.heap.size,0,none⟩=some (.int .i64 p.x)∧nc.cell? ⟨wr.heap.size,1,none⟩=some (.int .i64 p.y)∧nc.cell? ⟨b9,os+k,none⟩=some (.int .i64 st)));clear OI mW c5 dw dV dW Ns;cases κ:W.field.ground p with
        | false =>
          rw [κ] at k4;have cv:Hid (W.mZ=false):=ae.Us (k:=k) (by rw [jF.out];exact bB) (by rw [kc.out,κ];rfl);clear κ;refine Px (by kernel_rfl) (by kernel_rfl) ?_;repeat (first
            | go_big_quiet_skip
            | (go_big_quiet_want
               first
               | (go_big_quiet_op;go_big_quiet_on)
               | (apply Exists.intro
                  refine ⟨λ Eu I=> ?_, ?_⟩
                  · first
                    | (obtain ⟨_,Ux,Uy,Uz,UA,UB,UC,UD,UE⟩:=ji.out Eu I
                       apply OR
                       · (go_simp;rfl)
                       · rfl)
                    | (apply OQ
                       · (go_simp;rfl)
                       · rfl
                       · first
                         | (with_reducible refine (k4.out _ I).mono ?_;rintro e b' ⟨rfl,bq⟩;exact ⟨rfl,mH I bq⟩)
                         | (with_reducible refine (CC.out _ I).mono ?_;rintro e b' ⟨rfl,bq⟩;exact ⟨rfl,mH I bq⟩)
                         | (with_reducible refine (rX.out _).mono ?_;rintro e b' ⟨rfl,rfl⟩;exact ⟨rfl,I⟩)
                       )
                  go_big_quiet_on
                  simp only [Act.put,aOx,aOp,aOH])))
          refine aQl ?_;intro Ax bo;go_wp2_with fail
          go_ret;exact ⟨hh cv.out.symm,cS.trans ((Bw.trans (aPx bo Bw.size)).mono cS.size)⟩
        | true =>
          rw [κ] at k4;cases τ:(W.bj.take k).contains p with
          | true =>
            rw [τ] at CC;have cv:Hid (W.mZ=false):=ae.Us (k:=k) (by rw [jF.out];exact bB) (by rw [kc.out,κ,τ];rfl);clear κ τ;refine Px (by kernel_rfl) (by kernel_rfl) ?_;repeat (first
              | go_big_quiet_skip
              | (go_big_quiet_want
                 first
                 | (go_big_quiet_op;go_big_quiet_on)
                 | (apply Exists.intro
                    refine ⟨λ Eu I=> ?_, ?_⟩
                    · first
                      | (obtain ⟨_,Ux,Uy,Uz,UA,UB,UC,UD,UE⟩:=ji.out Eu I
                         apply OR
                         · (go_simp;rfl)
                         · rfl)
                      | (apply OQ
                         · (go_simp;rfl)
                         · rfl
                         · first
                           | (with_reducible refine (k4.out _ I).mono ?_;rintro e b' ⟨rfl,bq⟩;exact ⟨rfl,mH I bq⟩)
                           | (with_reducible refine (CC.out _ I).mono ?_;rintro e b' ⟨rfl,bq⟩;exact ⟨rfl,mH I bq⟩)
                           | (with_reducible refine (rX.out _).mono ?_;rintro e b' ⟨rfl,rfl⟩;exact ⟨rfl,I⟩)
                         )
                    go_big_quiet_on
                    simp only [Act.put,aOx,aOp,aOH])))
            refine aQl ?_;intro Ax bo;go_wp2_with fail
            go_ret;exact ⟨hh cv.out.symm,cS.trans ((Bw.trans (aPx bo Bw.size)).mono cS.size)⟩
          | false =>
            rw [τ] at CC;cases aq:cJ st 0 1000000 with
            | false =>
              rw [aq] at rX;have cv:Hid (W.mZ=false):=ae.Us (k:=k) (by rw [jF.out];exact bB) (by rw [kc.out,aq,aPI]);clear κ τ aq;refine Px (by kernel_rfl) (by kernel_rfl) ?_;repeat (first
                | go_big_quiet_skip
                | (go_big_quiet_want
                   first
                   | (go_big_quiet_op;go_big_quiet_on)
                   | (apply Exists.intro
                      refine ⟨λ Eu I=> ?_, ?_⟩
                      · first
                        | (obtain ⟨_,Ux,Uy,Uz,UA,UB,UC,UD,UE⟩:=ji.out Eu I
                           apply OR
                           · (go_simp;rfl)
                           · rfl)
                        | (apply OQ
                           · (go_simp;rfl)
                           · rfl
                           · first
                             | (with_reducible refine (k4.out _ I).mono ?_;rintro e b' ⟨rfl,bq⟩;exact ⟨rfl,mH I bq⟩)
                             | (with_reducible refine (CC.out _ I).mono ?_;rintro e b' ⟨rfl,bq⟩;exact ⟨rfl,mH I bq⟩)
                             | (with_reducible refine (rX.out _).mono ?_;rintro e b' ⟨rfl,rfl⟩;exact ⟨rfl,I⟩)
                           )
                      go_big_quiet_on
                      simp only [Act.put,aOx,aOp,aOH])))
              refine aQl ?_;intro Ax bo;go_wp2_with fail
              go_ret;exact ⟨hh cv.out.symm,cS.trans ((Bw.trans (aPx bo Bw.size)).mono cS.size)⟩
            | true =>
              rw [aq] at rX;have n6:Hid (∀ j,j<k+1→W.wO j=true):=by
                intro j aw;by_cases fF:j<k
                · exact jf.out j fF
                · obtain rfl:j=k:=by omega
                  rw [kc.out,κ,τ,aq];rfl
              clear κ τ aq;refine Px (by kernel_rfl) (by kernel_rfl) ?_;repeat (first
                | go_big_quiet_skip
                | (go_big_quiet_want
                   first
                   | (go_big_quiet_op;go_big_quiet_on)
                   | (apply Exists.intro
                      refine ⟨λ Eu I=> ?_, ?_⟩
                      · first
                        | (obtain ⟨_,Ux,Uy,Uz,UA,UB,UC,UD,UE⟩:=ji.out Eu I
                           apply OR
                           · (go_simp;rfl)
                           · rfl)
                        | (apply OQ
                           · (go_simp;rfl)
                           · rfl
                           · first
                             | (with_reducible refine (k4.out _ I).mono ?_;rintro e b' ⟨rfl,bq⟩;exact ⟨rfl,mH I bq⟩)
                             | (with_reducible refine (CC.out _ I).mono ?_;rintro e b' ⟨rfl,bq⟩;exact ⟨rfl,mH I bq⟩)
                             | (with_reducible refine (rX.out _).mono ?_;rintro e b' ⟨rfl,rfl⟩;exact ⟨rfl,I⟩)
                           )
                      go_big_quiet_on
                      simp only [Act.put,aOx,aOp,aOH])))
              refine aQl ?_;intro Ax bo;go_wp2_with fail
              go_roundw
              case rel=>exact ⟨k+1,by omega,by go_num,n6,Bw.trans (aPx bo Bw.size)⟩
              case measure=>simp [intOf];omega
      · have uZ:Hid (W.mZ=true):=ae.ae2 (by rw [ze.out,jF.out]) λ j aw=>jf.out j (by rw [jF.out] at aw;omega)
        clear jf;go_wp2_with fail
        go_ret;exact ⟨hh uZ.out.symm,cS.trans (af.mono cS.size)⟩
  · have uZ:Hid (W.mZ=false):=ae.aw9 (by rw [ze.out,jF.out];exact hlen)
    have hd:((ns:Int) != (gU:Int))=true:=by simp;omega
    rw [uZ.out];go_enter func106,ntmps106;rw [jF.out,ze.out];go_wp2_with fail
    go_ret;rw [n8.out];exact ⟨Z,cS⟩
theorem avB (a:ae.cU) (W:ae) (w:World) (b8:ae.Has w a W):
  Calls prog 107 #[.agg (ae.cells a W).toArray] w λ e w'=>e= .returned (.bool W.nM)∧Below w.heap.size w w':=by
 obtain ⟨eG,fV,fW,fq,eO,eJ,ff,fT,fv,eS⟩:=a;show Calls _ _ #[.agg #[.int .i64 W.field.wide, .int .i64 W.field.high, .slice eG W.field.places.length eJ, .slice fV W.bj.length ff, .slice fW W.bh.length fT, .slice fq W.bW.length fv, .slice eO W.ah.length eS, .int .i64 W.next, .int .i64 W.now]] _ _;have cS:=ky w (.cells (ae.cells ⟨eG,fV,fW,fq,eO,eJ,ff,fT,fv,eS⟩ W).toArray 52);have kM:=aMH (aO.new w (ae.cells ⟨eG,fV,fW,fq,eO,eJ,ff,fT,fv,eS⟩ W) 52 (0,0));have qR:=aMH (b8.keep cS);obtain ⟨w0,iF⟩:∃ w0,Hid (w.alloc (.cells (ae.cells ⟨eG,fV,fW,fq,eO,eJ,ff,fT,fv,eS⟩ W).toArray 52)=w0):=⟨_,aMH rfl⟩;rw [iF.out] at cS qR;have kM:Hid (aO w0 w.heap.size (ae.cells ⟨eG,fV,fW,fq,eO,eJ,ff,fT,fv,eS⟩ W) 52 (0,0)):=by rw [← iF.out];exact kM
 obtain ⟨nm,rY⟩:∃ n,Hid (W.bW.length=n):=⟨_,aMH rfl⟩;obtain ⟨Ka,zd⟩:∃ n,Hid (W.field.places.length=n):=⟨_,aMH rfl⟩;have hle:nm≤9223372036854775807:=by have:=b8.M.km;rw [rY.out] at this;exact this
 have n8:Hid (w.alloc (.cells #[.int .i64 W.field.wide, .int .i64 W.field.high, .slice eG Ka eJ, .slice fV W.bj.length ff, .slice fW W.bh.length fT, .slice fq nm fv, .slice eO W.ah.length eS, .int .i64 W.next, .int .i64 W.now] 52)=w0):=by rw [← iF.out,← rY.out,← zd.out];rfl
 obtain ⟨bS,bd,bP,c3,c4,c5,dw,dV,dW⟩:=ae.rM kM.out;rw [zd.out] at bP;rw [rY.out] at c5;clear b8;by_cases hlen:nm=Ka
 ·subst hlen;have A0:Hid (∀ j,j<0→W.wP j=true):=aMH λ j aw=>absurd aw (by omega);go_enter func107,ntmps107;rw [zd.out,rY.out];go_wp2_with fail
  rw [n8.out];go_loopw [3,4,16] (λ _ _ gI wr=>∃ k:Nat,k≤nm∧gI= .int .i64 (k:Int)∧Hid (∀ j,j<k→W.wP j=true)∧Hid (wr=w0)) (λ _ _ gI _=>nm - (intOf gI).toNat)
  case atStart=>exact ⟨0,aNl _,rfl,A0,rfl⟩
  case round =>
   clear A0 bS bd bP c3 c4 c5 dw dV dW;obtain ⟨k,aj,rfl,jf,ET⟩:=hrel;obtain ⟨bS,bd,bP,c3,c4,c5,dw,dV,dW⟩:=ae.rM (show aO wr w.heap.size (ae.cells ⟨eG,fV,fW,fq,eO,eJ,ff,fT,fv,eS⟩ W) 52 (0,0) by rw [ET.out];exact kM.out);rw [zd.out] at bP;rw [rY.out] at c5;have kT:Below w.heap.size w wr:=by rw [ET.out];exact cS
   by_cases bB:k<nm
   ·obtain ⟨p,hp⟩:=jm (l:=W.field.places) (i:=k) (by rw [zd.out];exact bB);obtain ⟨m,hm⟩:=jm (l:=W.bW) (i:=k) (by rw [rY.out];exact bB);have I3:bz.aQ 8 wr eG eJ W.field.places:=by rw [ET.out];exact qR.out.P
    have aaD:bz.aQ 8 wr fq fv W.bW:=by rw [ET.out];exact qR.out.M
    obtain ⟨b,o,rfl,jJ⟩:=D_ I3 (by rw [zd.out];omega);have OI:=jJ k p hp;obtain ⟨aEz,aJr,rfl,aa7⟩:=D_ aaD (by rw [rY.out];omega);have m0:=aa7 k m hm;have dk:W.wP k=(cJ m 0 1000000 && (decide (m≤0) || p == 3)):=by
     unfold ae.wP;rw [aMv,hm,aMv,hp];rfl
    have rX:=aMH (λ (V:World)=>Pv m 0 1000000 V);have kc:=aMH dk;have k9:(k:Int)<(nm:Int):=by omega
    have sB:(0:Int)≤(k:Int):=by omega
    clear I3 aaD jJ aa7 hp hm dk;cases κ:cJ m 0 1000000 with
    | false =>
     rw [κ] at rX;have cv:Hid (W.nM=false):=ae.aex (k:=k) (by rw [rY.out];exact bB) (by rw [kc.out,κ];rfl);clear κ;go_wp2_with fail
     refine (rX.out _).mono ?_;rintro e w' ⟨rfl,rfl⟩;go_wp2_with fail
     go_ret;exact ⟨hh cv.out.symm,kT⟩
    | true =>
     rw [κ] at rX;by_cases τ:m≤0
     ·have hd:decide (0<m)=false:=by simp;omega
      have n6:Hid (∀ j,j<k+1→W.wP j=true):=by
       intro j aw;by_cases fF:j<k
       ·exact jf.out j fF
       ·obtain rfl:j=k:=by omega
        rw [kc.out,κ,aMV τ];rfl
      clear κ;go_wp2_with fail
      refine (rX.out _).mono ?_;rintro e w' ⟨rfl,rfl⟩;go_wp2_with fail
      go_roundw
      case rel=>exact ⟨k+1,by omega,by go_num,n6,ET⟩
      case measure=>simp [intOf];omega
     ·have hd:decide (0<m)=true:=by simp;omega
      by_cases aq:p=3
      ·subst aq;have n6:Hid (∀ j,j<k+1→W.wP j=true):=by
        intro j aw;by_cases fF:j<k
        ·exact jf.out j fF
        ·obtain rfl:j=k:=by omega
         rw [kc.out,κ];simp
       clear κ τ;go_wp2_with fail
       refine (rX.out _).mono ?_;rintro e w' ⟨rfl,rfl⟩;go_wp2_with fail
       go_roundw
       case rel=>exact ⟨k+1,by omega,by go_num,n6,ET⟩
       case measure=>simp [intOf];omega
      ·have cv:Hid (W.nM=false):=ae.aex (k:=k) (by rw [rY.out];exact bB) (by rw [kc.out,aMY τ,beq_false_of_ne aq];simp);have F5:(p == 3)=false:=by simpa using aq
       clear κ τ aq;go_wp2_with fail
       refine (rX.out _).mono ?_;rintro e w' ⟨rfl,rfl⟩;go_wp2_with fail
       go_ret;exact ⟨hh cv.out.symm,kT⟩
   ·have uZ:Hid (W.nM=true):=ae.aey (by rw [rY.out,zd.out]) λ j aw=>jf.out j (by rw [rY.out] at aw;omega);clear jf;go_wp2_with fail
    go_ret;exact ⟨hh uZ.out.symm,kT⟩
 ·have uZ:Hid (W.nM=false):=ae.avC (by rw [rY.out,zd.out];exact hlen);have hd:((nm:Int) != (Ka:Int))=true:=by simp;omega
  rw [uZ.out];go_enter func107,ntmps107;rw [zd.out,rY.out];go_wp2_with fail
  go_ret;rw [n8.out];exact ⟨Z,cS⟩
section
variable {b:Nat} {w:World}
theorem nV {n lo ak:Int} {b:Bool} (h:cJ n lo ak=b) (w:World):Calls prog 133 #[.int .i64 n, .int .i64 lo, .int .i64 ak] w λ e w'=>e= .returned (.bool b)∧w=w':=by
 have:=Pv n lo ak w;rw [h] at this;exact this
theorem dv.drewN {eL:Type} {key:eL→Value} {l:List (eL×Int×Nat)} {clock:Nat} (h:dv key w b l clock) (n:Nat):dv key (w.drewN n) b l clock:=⟨h.eh,h.born,h.stamps⟩
theorem Y' (w:World):w.drewN 1=w.drew:=rfl
theorem aO.of_heap {w':World} {g:Nat} {cur:List Value} {e:TypeId} {ao:Nat×Nat} (h:aO w g cur e ao) (dN:w'.heap[g]? =w.heap[g]?):aO w' g cur e ao:=dN.trans h
theorem ZU {l:List (ai×Int×Nat)} {kz:Nat} (h:dv ai.key w b l kz) (hw:∀ e∈l,e.1.ok) (hn:(l.map (·.1)).Nodup) (x:ai) (hx:x.ok) (v:Int) (hv:(dv.get l x).getD 0=v):
  ∃ (st:Nat) (dO:List (ai×Int×Nat)) (bd:Nat) (Eg qD:World),
   (∀ n,(Instr.lookup 202 (.map (some b)) (.agg #[.int .i64 x.x, .int .i64 x.y]) false).run prog (w.drewN n)= .ok (.int .i64 v) (w.drewN n))∧
   (∀ n,(Instr.mapEntry 202 (.map (some b)) (.agg #[.int .i64 x.x, .int .i64 x.y])).run prog (w.drewN n)= .ok (.tuple #[.int .i64 v, .int .i64 (st:Int)]) (Eg.drewN n))∧
   (∀ n,(Instr.lookup 202 (.map (some b)) (.agg #[.int .i64 x.x, .int .i64 x.y]) false).run prog (Eg.drewN n)= .ok (.int .i64 v) (Eg.drewN n))∧
   (∀ n,(Instr.entryStore 202 (.map (some b)) (.int .i64 (st:Int)) (.int .i64 (v+1))).run prog (Eg.drewN n)= .ok () (qD.drewN n))∧
   (∀ n,(Instr.lookup 202 (.map (some b)) (.agg #[.int .i64 x.x, .int .i64 x.y]) false).run prog (qD.drewN n)= .ok (.int .i64 (v+1)) (qD.drewN n))∧
   dv ai.key qD b (dv.put l kz x (v+1)) (dv.tick l kz x)∧
   (∀ p:Addr,p.block≠b→Eg.cell? p=w.cell? p)∧(∀ p:Addr,p.block≠b→qD.cell? p=w.cell? p)∧
   ∀ {B:Nat} {a:World},B≤b→(Below B a w→Below B a qD)∧(∀ g,g≠b→qD.heap[g]? =w.heap[g]?):=by
 obtain ⟨st,dO,dt,aR,a6,cM,iV,Iv,Iw⟩:=dv.entry ai.yt underlying202 aQj h hw hn x hx;have Bz:=λ n=>(dv.lookup (w:=w.drewN n) ai.yt underlying202 (aQj _) (h.drewN n) hw hn x hx).1;have BA:=λ n=>(dv.lookup (w:=(ic w b (dO.map (dx ai.key)).toArray dt).drewN n) ai.yt underlying202 (aQj _) (a6.drewN n) cM iV x hx).1;have hp:=(Iw (v+1) 0).2;have BB:=λ n=>(dv.lookup (w:=(ic w b ((dv.put l kz x (v+1)).map (dx ai.key)).toArray (dv.tick l kz x)).drewN n) ai.yt underlying202 (aQj _) (hp.drewN n) (dv.Uc hw hx) (dv.Gq hn kz x (v+1)) x hx).1;simp only [Iv,hv,aNx] at Bz BA aR;simp only [dv.FK,aMI,aNx] at BB;exact ⟨st,dO,dt,_,_,Bz,aR,BA,λ n=>(Iw (v+1) n).1,BB,hp,λ p hp=>aQ4 (Ko hp),λ p hp=>aQ4 (Ko hp),
  fun {B a} aS=>⟨λ af=>ayO af aS,λ g aT=>Ko aT⟩⟩
theorem azv (a:ae.cU) (W:ae) (w:World) (b8:ae.Has w a W) (aB:W.field.a7=0) (ft:W.bj.length≤8) (yd:W.ah.length≤100):
  Calls prog 108 #[.agg (ae.cells a W).toArray] w λ e w'=>e= .returned (.bool W.jQ)∧Below w.heap.size w w':=by
 obtain ⟨eG,fV,fW,fq,eO,eJ,ff,fT,fv,eS⟩:=a;show Calls _ _ #[.agg #[.int .i64 W.field.wide, .int .i64 W.field.high, .slice eG W.field.places.length eJ, .slice fV W.bj.length ff, .slice fW W.bh.length fT, .slice fq W.bW.length fv, .slice eO W.ah.length eS, .int .i64 W.next, .int .i64 W.now]] _ _;have cS:=ky w (.cells (ae.cells ⟨eG,fV,fW,fq,eO,eJ,ff,fT,fv,eS⟩ W).toArray 52);have kM:=aMH (aO.new w (ae.cells ⟨eG,fV,fW,fq,eO,eJ,ff,fT,fv,eS⟩ W) 52 (0,0));have qR:=aMH (b8.keep cS);obtain ⟨w0,iF⟩:∃ w0,Hid (w.alloc (.cells (ae.cells ⟨eG,fV,fW,fq,eO,eJ,ff,fT,fv,eS⟩ W).toArray 52)=w0):=⟨_,aMH rfl⟩;rw [iF.out] at cS qR;have kM:Hid (aO w0 w.heap.size (ae.cells ⟨eG,fV,fW,fq,eO,eJ,ff,fT,fv,eS⟩ W) 52 (0,0)):=by rw [← iF.out];exact kM
 obtain ⟨dH,hV⟩:∃ n,Hid (W.ah.length=n):=⟨_,aMH rfl⟩;obtain ⟨gU,jF⟩:∃ n,Hid (W.bj.length=n):=⟨_,aMH rfl⟩;have ft:gU≤8:=by rw [← jF.out];exact ft
 have yd:dH≤100:=by rw [← hV.out];exact yd
 have kb:=aMH aB;have bN:=aMH b8;obtain ⟨nN,tH⟩:∃ nN,wrap64 (W.next - 1)=nN:=⟨_,rfl⟩;have Xj:=aMH tH;have n8:Hid (w.alloc (.cells #[.int .i64 W.field.wide, .int .i64 W.field.high, .slice eG W.field.places.length eJ, .slice fV gU ff, .slice fW W.bh.length fT, .slice fq W.bW.length fv, .slice eO dH eS, .int .i64 W.next, .int .i64 W.now] 52)=w0):=by rw [← iF.out,← jF.out,← hV.out];rfl
 obtain ⟨bS,bd,bP,c3,c4,c5,dw,dV,dW⟩:=ae.rM kM.out;rw [jF.out] at c3;rw [hV.out] at dw;clear b8 aB;have Ga:=@run_makeMap prog;have NM:=dv.made (key:=ai.key) w0;have S1:=ky w0 (.map #[] 0);obtain ⟨aha,Xo⟩:∃ aha,Hid (w0.alloc (.map #[] 0)=aha):=⟨_,aMH rfl⟩;rw [Xo.out] at NM S1;have hE:w0.heap.size=w.heap.size+1:=by rw [← iF.out];simp
 rw [hE] at NM;have Qe:=aMH NM;have A0:Hid (∀ j,j<0→W.wR j=true):=aMH λ j aw=>absurd aw (by omega);clear NM;go_enter func108,ntmps108;rw [jF.out,hV.out];go_wp2_with fail
 rw [n8.out,Xo.out];have Xh:Hid (bz.aQ 8 w eG eJ W.field.places):=aMH bN.out.P;have ai2:Hid (a8.rep.aQ 56 w eO eS W.ah):=aMH bN.out.T;have aF4:=yd;have Db:=kM.out.later S1;have aaU:=cS.trans (S1.mono cS.size);clear bS bd bP c3 c4 c5 dw dV dW Ga;obtain ⟨J9,Qf⟩:∃ J9,Hid (w.heap.size+1=J9):=⟨_,aMH rfl⟩;rw [Qf.out];rw [Qf.out] at Qe;go_loopw [3,6,7,8,9,14] (λ au9 _ _ _ _ gI wr=>∃ (k:Nat) (l:List (ai×Int×Nat)) (kz:Nat),k≤dH∧gI= .int .i64 (k:Int)∧au9= .int .i64 (W.i' k)∧Hid (∀ j,j<k→W.wR j=true)∧Hid (dv ai.key wr J9 l kz)∧Hid (∀ e∈l,e.1.ok)∧Hid ((l.map (·.1)).Nodup)∧Hid (∀ c,dv.get l c=if (W.iz k).contains c=true then some 1 else none)∧Hid (aO wr w.heap.size (ae.cells ⟨eG,fV,fW,fq,eO,eJ,ff,fT,fv,eS⟩ W) 52 (0,0))∧Below w.heap.size w wr) (λ _ _ _ _ _ gI _=>dH - (intOf gI).toNat)
 case atStart=>exact ⟨0, [],0,aNl _,rfl,rfl,A0,Qe,(λ e he=>by simp at he),aPD,(λ c=>by simp [dv.get,ae.iz]),Db,aaU⟩
 case round =>
  clear A0 Qe Db aaU;obtain ⟨k,l,kz,aj,rfl,rfl,jf,HE,Lu,Lo,AZ,EO,kT⟩:=hrel;obtain ⟨bS,bd,bP,c3,c4,c5,dw,dV,dW⟩:=ae.rM EO.out;rw [jF.out] at c3;rw [hV.out] at dw;by_cases bB:k<dH
  ·obtain ⟨t,aC⟩:=jm (l:=W.ah) (i:=k) (by rw [hV.out];exact bB);have aaF:=ai2.out.keep kT;obtain ⟨b,o,rfl,jJ⟩:=a8.at_ aaF (by rw [hV.out];omega);obtain ⟨OI,mW,mX,mm,yE,aJs,aJt⟩:=jJ k t aC;obtain ⟨wm,rh⟩:∃ wm,wrap64 (W.i' k+1)=wm:=⟨_,rfl⟩;have dk:W.wR k=(W.Kd wm nN t && !(W.iz k).contains t.spot):=by
    unfold ae.wR;rw [aMv,aC,rh,Xj.out];rfl
   unfold ae.Kd at dk;rw [jF.out] at dk;have abB:W.i' (k+1)=t.id:=by
    unfold ae.i';rw [aMA (by omega),aMv,aPT,aC];rfl
   have abR:W.iz (k+1)=W.iz k++ [t.spot]:=by
    unfold ae.iz;rw [aMW (by rw [hV.out];exact bB),aM0];have:W.ah[k]'(by rw [hV.out];exact bB)=t:=by
     rw [aMy (by rw [hV.out];exact bB)] at aC;exact aMJ aC
    rw [this];rfl
   have Xi:=aMH abB;have Xm:=aMH abR;have dM:=ky wr (.cells #[.int .i64 t.id, .int .i64 t.owner, .int .i64 t.kind, .int .i64 t.spot.x, .int .i64 t.spot.y, .int .i64 t.df, .int .i64 t.load] 108);have aaA:=aO.new wr t.cells 108 (0,0);obtain ⟨aM,HK⟩:∃ aM,Hid (wr.alloc (.cells #[.int .i64 t.id, .int .i64 t.owner, .int .i64 t.kind, .int .i64 t.spot.x, .int .i64 t.spot.y, .int .i64 t.df, .int .i64 t.load] 108)=aM):=⟨_,aMH rfl⟩;rw [HK.out] at dM;have AY:Hid (aO aM wr.heap.size t.cells 108 (0,0)):=by rw [← HK.out];exact aaA
   have Tp:J9<wr.heap.size:=HE.out.lt;have abw:w.heap.size<J9:=by have:=Qf.out;omega
   have k9:(k:Int)<(dH:Int):=by omega
   have sB:(0:Int)≤(k:Int):=by omega
   clear aaF jJ aC abB abR aaA tH;have tH:=Xj.out;by_cases ym:t.kind=1
   ·have zf:=aMH ym;rw [ym] at mX;clear ym;have HC:=aMH (λ V:World=>adv V);have Jo:ae.hg 1=10:=rfl;have Jr:ae.Ah 1=5:=rfl;rw [zf.out,Jo,Jr] at dk;have kc:=aMH dk;clear Jo Jr dk;have Qn:Hid (wr.alloc (.cells #[.int .i64 t.id, .int .i64 t.owner, .int .i64 1, .int .i64 t.spot.x, .int .i64 t.spot.y, .int .i64 t.df, .int .i64 t.load] 108)=aM):=by rw [← HK.out,zf.out];rfl
    go_wp2_with fail
    rw [Qn.out];refine (HC.out _).mono ?_;rintro e b' ⟨rfl,bq⟩;have tD:=dM.trans (bq.mono dM.size);have ek:=ky b' (.cells #[.int .i64 10, .int .i64 1, .int .i64 1, .int .i64 5] 103);have zO:=aO.new b' [.int .i64 10, .int .i64 1, .int .i64 1, .int .i64 5] 103 (0,0);obtain ⟨w3,CH⟩:∃ w3,Hid (b'.alloc (.cells #[.int .i64 10, .int .i64 1, .int .i64 1, .int .i64 5] 103)=w3):=⟨_,aMH rfl⟩;rw [CH.out] at ek;have zO:aO w3 b'.heap.size [.int .i64 10, .int .i64 1, .int .i64 1, .int .i64 5] 103 (0,0):=by rw [← CH.out];exact zO
    have z_:w3.cell? ⟨b'.heap.size,0,none⟩=some (.int .i64 10):=zO.cell 0;have p7:=tD.trans (ek.mono tD.size);have CA:=aMH ((AY.out.later bq).later ek);have HF:=aMH (HE.out.later p7);have Cz:=aMH (EO.out.later p7);have Dn:=kT.trans (p7.mono kT.size);have Hz:=aMH (Xh.out.keep Dn);obtain ⟨t0,t1,t2,t3,t4,t5,t6⟩:=a8.eh ((AY.out.later bq));rw [zf.out] at t2;clear bS bd bP c3 c4 c5 dw dV dW;obtain ⟨bS,bd,bP,c3,c4,c5,dw,dV,dW⟩:=ae.rM (EO.out.later tD);rw [jF.out] at c3;rw [hV.out] at dw;have aa0:wr.heap.size<b'.heap.size:=by have:=bq.size;have:=AY.out.lt;omega
    have aa1:w.heap.size<b'.heap.size:=by have:=Tp;omega
    go_wp2_with fail
    rw [CH.out];clear t0 t1 t2 t3 t4 t5 t6 bS bd bP c3 c4 c5 dw dV dW;obtain ⟨t0,t1,t2,t3,t4,t5,t6⟩:=a8.eh CA.out;obtain ⟨bS,bd,bP,c3,c4,c5,dw,dV,dW⟩:=ae.rM Cz.out;rw [jF.out] at c3;rw [hV.out] at dw;rw [zf.out] at t2;clear bq zO ek tD;cases aB:cJ t.id wm nN with
    | false =>
     have cv:Hid (W.jQ=false):=ae.sL (k:=k) (by rw [hV.out];exact bB) (by rw [kc.out,aB];simp);have za:=aMH aB;clear aB;refine (nV za.out _).mono ?_;rintro e w' ⟨rfl,rfl⟩;go_wp2_with fail
     go_ret;exact ⟨hh cv.out.symm,Dn⟩
    | true =>
     have za:=aMH aB;clear aB;refine (nV za.out _).mono ?_;rintro e w' ⟨rfl,rfl⟩;go_wp2_with fail
     cases κ:cJ t.owner 0 ((gU:Int) - 1) with
     | false =>
      have cv:Hid (W.jQ=false):=ae.sL (k:=k) (by rw [hV.out];exact bB) (by rw [kc.out,κ];simp);have fA:=aMH κ;clear κ;refine (nV fA.out _).mono ?_;rintro e w' ⟨rfl,rfl⟩;go_wp2_with fail
      go_ret;exact ⟨hh cv.out.symm,Dn⟩
     | true =>
      have fA:=aMH κ;clear κ;refine (nV fA.out _).mono ?_;rintro e w' ⟨rfl,rfl⟩;go_wp2_with fail
      cases τ:W.field.ground t.spot with
      | false =>
       have cv:Hid (W.jQ=false):=ae.sL (k:=k) (by rw [hV.out];exact bB) (by rw [kc.out,τ];simp);have uX:=aMH τ;clear τ;have k4:=I1 W.field t.spot eG eJ _ Hz.out kb.out;rw [uX.out] at k4;refine k4.mono ?_;rintro e nU ⟨rfl,dX⟩;have Di:=p7.trans (dX.mono p7.size);have vO:=kT.trans (Di.mono kT.size);have CB:=aMH (CA.out.later dX);have HG:=aMH (HF.out.later dX);have Hy:=aMH (Cz.out.later dX);clear t0 t1 t2 t3 t4 t5 t6 bS bd bP c3 c4 c5 dw dV dW k4;obtain ⟨t0,t1,t2,t3,t4,t5,t6⟩:=a8.eh CB.out;have z_:=cell_later dX z_;go_wp2_with fail
       go_ret;exact ⟨hh cv.out.symm,vO⟩
      | true =>
       have uX:=aMH τ;clear τ;have k4:=I1 W.field t.spot eG eJ _ Hz.out kb.out;rw [uX.out] at k4;refine k4.mono ?_;rintro e nU ⟨rfl,dX⟩;have Di:=p7.trans (dX.mono p7.size);have vO:=kT.trans (Di.mono kT.size);have CB:=aMH (CA.out.later dX);have HG:=aMH (HF.out.later dX);have Hy:=aMH (Cz.out.later dX);clear t0 t1 t2 t3 t4 t5 t6 bS bd bP c3 c4 c5 dw dV dW k4;obtain ⟨t0,t1,t2,t3,t4,t5,t6⟩:=a8.eh CB.out;have z_:=cell_later dX z_;go_wp2_with fail
       cases aq:cJ t.df 1 10 with
       | false =>
        have cv:Hid (W.jQ=false):=ae.sL (k:=k) (by rw [hV.out];exact bB) (by rw [kc.out,aq];simp);have zb:=aMH aq;clear aq;refine (nV zb.out _).mono ?_;rintro e w' ⟨rfl,rfl⟩;go_wp2_with fail
        go_ret;exact ⟨hh cv.out.symm,vO⟩
       | true =>
        have zb:=aMH aq;clear aq;refine (nV zb.out _).mono ?_;rintro e w' ⟨rfl,rfl⟩;go_wp2_with fail
        cases bb:cJ t.load 0 5 with
        | false =>
         have cv:Hid (W.jQ=false):=ae.sL (k:=k) (by rw [hV.out];exact bB) (by rw [kc.out,bb];simp);have zc:=aMH bb;clear bb;refine (nV zc.out _).mono ?_;rintro e w' ⟨rfl,rfl⟩;go_wp2_with fail
         go_ret;exact ⟨hh cv.out.symm,vO⟩
        | true =>
         have zc:=aMH bb;clear bb;refine (nV zc.out _).mono ?_;rintro e w' ⟨rfl,rfl⟩;go_wp2_with fail
         have Dx:t.spot.ok:=by
          obtain ⟨i1,i2,i3,i4,i5,i6⟩:=au.idx kb.out (au.jn uX.out);obtain ⟨g1,g2,g3,g4,_,_⟩:=au.g_ kb.out;exact ⟨cH.2 (by omega),cH.2 (by omega)⟩
         obtain ⟨v,lz⟩:∃ v,Hid ((dv.get l t.spot).getD 0=v):=⟨_,aMH rfl⟩;obtain ⟨st,dO,dt,Eg,qD,Qr⟩:=ZU HG.out Lu.out Lo.out t.spot Dx v lz.out;obtain ⟨Bz,aR,BA,f1,BB,Jp,Jz,JA,Dj⟩:=Qr;have asE:0≤v∧v≤1:=by
          rw [← lz.out,AZ.out];split<;>simp
         have Qd:=aMH Jp;have ajd:=aMH Jz;have CG:=aMH JA;have FZ:=(Dj (aQG abw)).1 vO;have y_:=aMH (Hy.out.of_heap ((Dj (B:=0) (a:=nU) (aNl _)).2 _ (by omega)));have B0:qD.cell? ⟨wr.heap.size,0,none⟩=some (.int .i64 t.id):=(CG.out _ (by simp;omega)).trans t0;have sI:qD.cell? ⟨wr.heap.size,3,none⟩=some (.int .i64 t.spot.x):=(CG.out _ (by simp;omega)).trans t3;have axP:qD.cell? ⟨wr.heap.size,4,none⟩=some (.int .i64 t.spot.y):=(CG.out _ (by simp;omega)).trans t4;have g1:=Bz 1;have g2:=aR 1;have g3:=BA 1;have g4:=f1 1;have g5:=BB 1;clear Jp Jz JA Dj Bz aR BA f1 BB;simp only [Y'] at g1 g2 g3 g4 g5;cases p_:(W.iz k).contains t.spot with
         | true =>
          have nI:v=1:=by rw [← lz.out,AZ.out,p_];rfl
          subst nI;rw [show (1:Int)+1=2 from rfl] at g4 g5;have cv:Hid (W.jQ=false):=ae.sL (k:=k) (by rw [hV.out];exact bB) (by rw [kc.out,p_];simp);clear p_
          go_region
          go_wp2_with fail
          go_ret;exact ⟨hh cv.out.symm,below_drewN FZ 1⟩
         | false =>
          have nI:v=0:=by rw [← lz.out,AZ.out,p_];rfl
          subst nI;rw [show (0:Int)+1=1 from rfl] at g4 g5;have n6:Hid (∀ j,j<k+1→W.wR j=true):=by
           intro j aw;by_cases fF:j<k
           ·exact jf.out j fF
           ·obtain rfl:j=k:=by omega
            rw [kc.out,za.out,fA.out,uX.out,zb.out,zc.out,p_];rfl
          have Qb:Hid (∀ c,dv.get (dv.put l kz t.spot (0+1)) c=if (W.iz (k+1)).contains c=true then some 1 else none):=by
           intro c;rw [dv.FK,Xm.out,AZ.out];by_cases Dr:c=t.spot
           ·simp [Dr]
           ·rw [aMA Dr];simp [Dr]
          have Qp:Hid (∀ e∈dv.put l kz t.spot (0+1),e.1.ok):=dv.Uc Lu.out Dx;have Qc:Hid (((dv.put l kz t.spot (0+1)).map (·.1)).Nodup):=dv.Gq Lo.out _ _ _;clear p_ Dx
          go_region
          go_wp2_with fail
          go_roundw
          case rel=>exact ⟨k+1,_,_,by omega,by go_num,by rw [Xi.out],n6,Qd.out.drewN 1,Qp,Qc,Qb,y_.out.drewN 1,below_drewN FZ 1⟩
          case measure=>simp [intOf];omega
   ·by_cases lH:t.kind=2
    ·have zf:=aMH lH;rw [lH] at mX;clear ym lH;have HC:=aMH (λ V:World=>adw V);have Jo:ae.hg 2=20:=rfl;have Jr:ae.Ah 2=0:=rfl;rw [zf.out,Jo,Jr] at dk;have kc:=aMH dk;clear Jo Jr dk;have Qn:Hid (wr.alloc (.cells #[.int .i64 t.id, .int .i64 t.owner, .int .i64 2, .int .i64 t.spot.x, .int .i64 t.spot.y, .int .i64 t.df, .int .i64 t.load] 108)=aM):=by rw [← HK.out,zf.out];rfl
     go_wp2_with fail
     rw [Qn.out];refine (HC.out _).mono ?_;rintro e b' ⟨rfl,bq⟩;have tD:=dM.trans (bq.mono dM.size);have ek:=ky b' (.cells #[.int .i64 20, .int .i64 2, .int .i64 4, .int .i64 12] 103);have zO:=aO.new b' [.int .i64 20, .int .i64 2, .int .i64 4, .int .i64 12] 103 (0,0);obtain ⟨w3,CH⟩:∃ w3,Hid (b'.alloc (.cells #[.int .i64 20, .int .i64 2, .int .i64 4, .int .i64 12] 103)=w3):=⟨_,aMH rfl⟩;rw [CH.out] at ek;have zO:aO w3 b'.heap.size [.int .i64 20, .int .i64 2, .int .i64 4, .int .i64 12] 103 (0,0):=by rw [← CH.out];exact zO
     have z_:w3.cell? ⟨b'.heap.size,0,none⟩=some (.int .i64 20):=zO.cell 0;have p7:=tD.trans (ek.mono tD.size);have CA:=aMH ((AY.out.later bq).later ek);have HF:=aMH (HE.out.later p7);have Cz:=aMH (EO.out.later p7);have Dn:=kT.trans (p7.mono kT.size);have Hz:=aMH (Xh.out.keep Dn);obtain ⟨t0,t1,t2,t3,t4,t5,t6⟩:=a8.eh ((AY.out.later bq));rw [zf.out] at t2;clear bS bd bP c3 c4 c5 dw dV dW;obtain ⟨bS,bd,bP,c3,c4,c5,dw,dV,dW⟩:=ae.rM (EO.out.later tD);rw [jF.out] at c3;rw [hV.out] at dw;have aa0:wr.heap.size<b'.heap.size:=by have:=bq.size;have:=AY.out.lt;omega
     have aa1:w.heap.size<b'.heap.size:=by have:=Tp;omega
     go_wp2_with fail
     rw [CH.out];clear t0 t1 t2 t3 t4 t5 t6 bS bd bP c3 c4 c5 dw dV dW;obtain ⟨t0,t1,t2,t3,t4,t5,t6⟩:=a8.eh CA.out;obtain ⟨bS,bd,bP,c3,c4,c5,dw,dV,dW⟩:=ae.rM Cz.out;rw [jF.out] at c3;rw [hV.out] at dw;rw [zf.out] at t2;clear bq zO ek tD;cases aB:cJ t.id wm nN with
     | false =>
      have cv:Hid (W.jQ=false):=ae.sL (k:=k) (by rw [hV.out];exact bB) (by rw [kc.out,aB];simp);have za:=aMH aB;clear aB;refine (nV za.out _).mono ?_;rintro e w' ⟨rfl,rfl⟩;go_wp2_with fail
      go_ret;exact ⟨hh cv.out.symm,Dn⟩
     | true =>
      have za:=aMH aB;clear aB;refine (nV za.out _).mono ?_;rintro e w' ⟨rfl,rfl⟩;go_wp2_with fail
      cases κ:cJ t.owner 0 ((gU:Int) - 1) with
      | false =>
       have cv:Hid (W.jQ=false):=ae.sL (k:=k) (by rw [hV.out];exact bB) (by rw [kc.out,κ];simp);have fA:=aMH κ;clear κ;refine (nV fA.out _).mono ?_;rintro e w' ⟨rfl,rfl⟩;go_wp2_with fail
       go_ret;exact ⟨hh cv.out.symm,Dn⟩
      | true =>
       have fA:=aMH κ;clear κ;refine (nV fA.out _).mono ?_;rintro e w' ⟨rfl,rfl⟩;go_wp2_with fail
       cases τ:W.field.ground t.spot with
       | false =>
        have cv:Hid (W.jQ=false):=ae.sL (k:=k) (by rw [hV.out];exact bB) (by rw [kc.out,τ];simp);have uX:=aMH τ;clear τ;have k4:=I1 W.field t.spot eG eJ _ Hz.out kb.out;rw [uX.out] at k4;refine k4.mono ?_;rintro e nU ⟨rfl,dX⟩;have Di:=p7.trans (dX.mono p7.size);have vO:=kT.trans (Di.mono kT.size);have CB:=aMH (CA.out.later dX);have HG:=aMH (HF.out.later dX);have Hy:=aMH (Cz.out.later dX);clear t0 t1 t2 t3 t4 t5 t6 bS bd bP c3 c4 c5 dw dV dW k4;obtain ⟨t0,t1,t2,t3,t4,t5,t6⟩:=a8.eh CB.out;have z_:=cell_later dX z_;go_wp2_with fail
        go_ret;exact ⟨hh cv.out.symm,vO⟩
       | true =>
        have uX:=aMH τ;clear τ;have k4:=I1 W.field t.spot eG eJ _ Hz.out kb.out;rw [uX.out] at k4;refine k4.mono ?_;rintro e nU ⟨rfl,dX⟩;have Di:=p7.trans (dX.mono p7.size);have vO:=kT.trans (Di.mono kT.size);have CB:=aMH (CA.out.later dX);have HG:=aMH (HF.out.later dX);have Hy:=aMH (Cz.out.later dX);clear t0 t1 t2 t3 t4 t5 t6 bS bd bP c3 c4 c5 dw dV dW k4;obtain ⟨t0,t1,t2,t3,t4,t5,t6⟩:=a8.eh CB.out;have z_:=cell_later dX z_;go_wp2_with fail
        cases aq:cJ t.df 1 20 with
        | false =>
         have cv:Hid (W.jQ=false):=ae.sL (k:=k) (by rw [hV.out];exact bB) (by rw [kc.out,aq];simp);have zb:=aMH aq;clear aq;refine (nV zb.out _).mono ?_;rintro e w' ⟨rfl,rfl⟩;go_wp2_with fail
         go_ret;exact ⟨hh cv.out.symm,vO⟩
        | true =>
         have zb:=aMH aq;clear aq;refine (nV zb.out _).mono ?_;rintro e w' ⟨rfl,rfl⟩;go_wp2_with fail
         cases bb:cJ t.load 0 0 with
         | false =>
          have cv:Hid (W.jQ=false):=ae.sL (k:=k) (by rw [hV.out];exact bB) (by rw [kc.out,bb];simp);have zc:=aMH bb;clear bb;refine (nV zc.out _).mono ?_;rintro e w' ⟨rfl,rfl⟩;go_wp2_with fail
          go_ret;exact ⟨hh cv.out.symm,vO⟩
         | true =>
          have zc:=aMH bb;clear bb;refine (nV zc.out _).mono ?_;rintro e w' ⟨rfl,rfl⟩;go_wp2_with fail
          have Dx:t.spot.ok:=by
           obtain ⟨i1,i2,i3,i4,i5,i6⟩:=au.idx kb.out (au.jn uX.out);obtain ⟨g1,g2,g3,g4,_,_⟩:=au.g_ kb.out;exact ⟨cH.2 (by omega),cH.2 (by omega)⟩
          obtain ⟨v,lz⟩:∃ v,Hid ((dv.get l t.spot).getD 0=v):=⟨_,aMH rfl⟩;obtain ⟨st,dO,dt,Eg,qD,Qr⟩:=ZU HG.out Lu.out Lo.out t.spot Dx v lz.out;obtain ⟨Bz,aR,BA,f1,BB,Jp,Jz,JA,Dj⟩:=Qr;have asE:0≤v∧v≤1:=by
           rw [← lz.out,AZ.out];split<;>simp
          have Qd:=aMH Jp;have ajd:=aMH Jz;have CG:=aMH JA;have FZ:=(Dj (aQG abw)).1 vO;have y_:=aMH (Hy.out.of_heap ((Dj (B:=0) (a:=nU) (aNl _)).2 _ (by omega)));have B0:qD.cell? ⟨wr.heap.size,0,none⟩=some (.int .i64 t.id):=(CG.out _ (by simp;omega)).trans t0;have sI:qD.cell? ⟨wr.heap.size,3,none⟩=some (.int .i64 t.spot.x):=(CG.out _ (by simp;omega)).trans t3;have axP:qD.cell? ⟨wr.heap.size,4,none⟩=some (.int .i64 t.spot.y):=(CG.out _ (by simp;omega)).trans t4;have g1:=Bz 1;have g2:=aR 1;have g3:=BA 1;have g4:=f1 1;have g5:=BB 1;clear Jp Jz JA Dj Bz aR BA f1 BB;simp only [Y'] at g1 g2 g3 g4 g5;cases p_:(W.iz k).contains t.spot with
          | true =>
           have nI:v=1:=by rw [← lz.out,AZ.out,p_];rfl
           subst nI;rw [show (1:Int)+1=2 from rfl] at g4 g5;have cv:Hid (W.jQ=false):=ae.sL (k:=k) (by rw [hV.out];exact bB) (by rw [kc.out,p_];simp);clear p_
           go_region
           go_wp2_with fail
           go_ret;exact ⟨hh cv.out.symm,below_drewN FZ 1⟩
          | false =>
           have nI:v=0:=by rw [← lz.out,AZ.out,p_];rfl
           subst nI;rw [show (0:Int)+1=1 from rfl] at g4 g5;have n6:Hid (∀ j,j<k+1→W.wR j=true):=by
            intro j aw;by_cases fF:j<k
            ·exact jf.out j fF
            ·obtain rfl:j=k:=by omega
             rw [kc.out,za.out,fA.out,uX.out,zb.out,zc.out,p_];rfl
           have Qb:Hid (∀ c,dv.get (dv.put l kz t.spot (0+1)) c=if (W.iz (k+1)).contains c=true then some 1 else none):=by
            intro c;rw [dv.FK,Xm.out,AZ.out];by_cases Dr:c=t.spot
            ·simp [Dr]
            ·rw [aMA Dr];simp [Dr]
           have Qp:Hid (∀ e∈dv.put l kz t.spot (0+1),e.1.ok):=dv.Uc Lu.out Dx;have Qc:Hid (((dv.put l kz t.spot (0+1)).map (·.1)).Nodup):=dv.Gq Lo.out _ _ _;clear p_ Dx
           go_region
           go_wp2_with fail
           go_roundw
           case rel=>exact ⟨k+1,_,_,by omega,by go_num,by rw [Xi.out],n6,Qd.out.drewN 1,Qp,Qc,Qb,y_.out.drewN 1,below_drewN FZ 1⟩
           case measure=>simp [intOf];omega
    ·have Jm:cJ t.kind 1 2=false:=oB (by omega);have cv:Hid (W.jQ=false):=ae.sL (k:=k) (by rw [hV.out];exact bB) (by rw [dk,Jm];rfl);have HC:=aMH (λ V:World=>adx t.kind V Jm);have aa8:(t.kind == 1)=false:=by simpa using ym
     clear dk Jm ym lH;go_wp2_with fail
     rw [HK.out];refine (HC.out _).mono ?_;rintro e b' ⟨rfl,bq⟩;have tD:=dM.trans (bq.mono dM.size);obtain ⟨t0,t1,t2,t3,t4,t5,t6⟩:=a8.eh ((AY.out.later bq));clear bS bd bP c3 c4 c5 dw dV dW;obtain ⟨bS,bd,bP,c3,c4,c5,dw,dV,dW⟩:=ae.rM (EO.out.later tD);have aa0:wr.heap.size<b'.heap.size:=by have:=bq.size;have:=AY.out.lt;omega
     have aa1:w.heap.size<b'.heap.size:=by have:=Tp;omega
     go_wp2_with fail
     go_ret;exact ⟨hh cv.out.symm,(kT.trans (tD.mono kT.size)).trans ((ky _ _).mono (by omega))⟩
  ·obtain rfl:k=dH:=by omega
   have ej:∀ j,j<W.ah.length→W.wR j=true:=λ j aw=>jf.out j (by rw [hV.out] at aw;exact aw);have oA:W.jQ=(cJ W.next 1 1000000 && cJ W.now 0 1000000):=by
    unfold ae.jQ;rw [aNd.2 (λ j aw=>ej j (aM8.1 aw)),aPj]
   have zg:=aMH oA;clear ej oA tH;cases κ:cJ W.next 1 1000000 with
   | false =>
    have H1:=aMH κ;clear κ;go_wp2_with fail
    refine (nV H1.out _).mono ?_;rintro e w' ⟨rfl,rfl⟩;go_wp2_with fail
    go_ret;exact ⟨hh (by rw [zg.out,H1.out];rfl),kT⟩
   | true =>
    have Ds:=λ V=>Pv W.now 0 1000000 V;have H1:=aMH κ;rw [H1.out,aPj] at zg;clear κ;generalize cJ W.now 0 1000000=r2 at *
    go_wp2_with fail
    refine (nV H1.out _).mono ?_;rintro e w' ⟨rfl,rfl⟩;go_wp2_with fail
    refine (Ds _).mono ?_;rintro e w' ⟨rfl,rfl⟩;go_wp2_with fail
    go_ret;exact ⟨hh zg.out.symm,kT⟩
end
theorem E' (a:ae.cU) (W:ae) (w:World) (b8:ae.Has w a W):
  Calls prog 82 #[.agg (ae.cells a W).toArray] w λ e w'=>e= .returned (.int .i64 W.a7)∧Below w.heap.size w w':=by
 have tK:=λ aB ft V (h:ae.Has V a W)=>aw8 a W V h aB ft;have NN:=λ V (h:ae.Has V a W)=>avB a W V h;have oA:=λ aB ft yd V (h:ae.Has V a W)=>azv a W V h aB ft yd;obtain ⟨eG,fV,fW,fq,eO,eJ,ff,fT,fv,eS⟩:=a;show Calls _ _ #[.agg #[.int .i64 W.field.wide, .int .i64 W.field.high, .slice eG W.field.places.length eJ, .slice fV W.bj.length ff, .slice fW W.bh.length fT, .slice fq W.bW.length fv, .slice eO W.ah.length eS, .int .i64 W.next, .int .i64 W.now]] _ _;have cS:=ky w (.cells (ae.cells ⟨eG,fV,fW,fq,eO,eJ,ff,fT,fv,eS⟩ W).toArray 52);have kM:=aMH (aO.new w (ae.cells ⟨eG,fV,fW,fq,eO,eJ,ff,fT,fv,eS⟩ W) 52 (0,0));have qR:=aMH (b8.keep cS);obtain ⟨w0,iF⟩:∃ w0,Hid (w.alloc (.cells (ae.cells ⟨eG,fV,fW,fq,eO,eJ,ff,fT,fv,eS⟩ W).toArray 52)=w0):=⟨_,aMH rfl⟩;rw [iF.out] at cS qR;have kM:Hid (aO w0 w.heap.size (ae.cells ⟨eG,fV,fW,fq,eO,eJ,ff,fT,fv,eS⟩ W) 52 (0,0)):=by rw [← iF.out];exact kM
 have hf:=RV W.field eG eJ w0 qR.out.P;have n8:Hid (w.alloc (.cells #[.int .i64 W.field.wide, .int .i64 W.field.high, .slice eG W.field.places.length eJ, .slice fV W.bj.length ff, .slice fW W.bh.length fT, .slice fq W.bW.length fv, .slice eO W.ah.length eS, .int .i64 W.next, .int .i64 W.now] 52)=w0):=by rw [← iF.out];rfl
 obtain ⟨bS,bd,bP,c3,c4,c5,dw,dV,dW⟩:=ae.rM kM.out;clear b8;by_cases tF:W.field.a7=0
 ·by_cases Jn:8<W.bj.length∨100<W.ah.length
  ·rw [ae.Yr tF Jn];rw [tF] at hf;have ai3:=aMH Jn;clear Jn tF tK NN oA;generalize W.field.places.length=Ka at *
   generalize W.bj.length=gU at *
   generalize W.bh.length=ns at *
   generalize W.bW.length=nm at *
   generalize W.ah.length=dH at *
   go_enter func82,ntmps82;go_wp2_with fail
   rw [n8.out];refine hf.mono ?_;rintro e b' ⟨rfl,bq⟩;have d3:=cell_later bq c3;have d6:=cell_later bq dw;have key:decide ((8:Int)<(gU:Int))=true∨(decide ((8:Int)<(gU:Int))=false∧decide ((100:Int)<(dH:Int))=true):=by
    have:=ai3.out;simp;omega
   clear bS bd bP c3 c4 c5 dw dV dW;rcases key with h | ⟨h,τ⟩
   all_goals
    go_wp2_with fail
    go_ret;exact ⟨Z,cS.trans (bq.mono cS.size)⟩
  ·rw [ae.Q_ tF Jn];have ft:W.bj.length≤8:=by omega
   have yd:W.ah.length≤100:=by omega
   have tK:=tK tF ft;have oA:=oA tF ft yd;rw [tF] at hf;have g1:decide ((8:Int)<(W.bj.length:Int))=false:=by simp;omega
   have g2:decide ((100:Int)<(W.ah.length:Int))=false:=by simp;omega
   have CF:=aMH (λ V (h:Below w0.heap.size w0 V)=>tK V (qR.out.keep h));have EP:=aMH (λ V (h:Below w0.heap.size w0 V)=>NN V (qR.out.keep h));have zg:=aMH (λ V (h:Below w0.heap.size w0 V)=>oA V (qR.out.keep h));rw [ae.amn] at CF EP zg;have CF:Hid (∀ V,Below w0.heap.size w0 V→Calls prog 106 #[.agg #[.int .i64 W.field.wide, .int .i64 W.field.high, .slice eG W.field.places.length eJ, .slice fV W.bj.length ff, .slice fW W.bh.length fT, .slice fq W.bW.length fv, .slice eO W.ah.length eS, .int .i64 W.next, .int .i64 W.now]] V λ e w'=>e= .returned (.bool W.mZ)∧Below V.heap.size V w'):=CF;have EP:Hid (∀ V,Below w0.heap.size w0 V→Calls prog 107 #[.agg #[.int .i64 W.field.wide, .int .i64 W.field.high, .slice eG W.field.places.length eJ, .slice fV W.bj.length ff, .slice fW W.bh.length fT, .slice fq W.bW.length fv, .slice eO W.ah.length eS, .int .i64 W.next, .int .i64 W.now]] V λ e w'=>e= .returned (.bool W.nM)∧Below V.heap.size V w'):=EP;have zg:Hid (∀ V,Below w0.heap.size w0 V→Calls prog 108 #[.agg #[.int .i64 W.field.wide, .int .i64 W.field.high, .slice eG W.field.places.length eJ, .slice fV W.bj.length ff, .slice fW W.bh.length fT, .slice fq W.bW.length fv, .slice eO W.ah.length eS, .int .i64 W.next, .int .i64 W.now]] V λ e w'=>e= .returned (.bool W.jQ)∧Below V.heap.size V w'):=zg;clear Jn tF tK NN oA ft yd;generalize W.mZ=r1 at *
   generalize W.nM=r2 at *
   generalize W.jQ=sI at *
   generalize W.field.places.length=Ka at *
   generalize W.bj.length=gU at *
   generalize W.bh.length=ns at *
   generalize W.bW.length=nm at *
   generalize W.ah.length=dH at *
   have sH:=hf;clear hf;cases r1 with
   | false =>
    go_enter func82,ntmps82;go_wp2_with fail
    rw [n8.out];refine sH.mono ?_;rintro e b' ⟨rfl,bq⟩;have bS:=cell_later bq bS;have bd:=cell_later bq bd;have bP:=cell_later bq bP;have c3:=cell_later bq c3;have c4:=cell_later bq c4;have c5:=cell_later bq c5;have dw:=cell_later bq dw;have dV:=cell_later bq dV;have dW:=cell_later bq dW;go_wp2_with fail
    refine (CF.out _ bq).mono ?_;rintro e w3 ⟨rfl,ek⟩;go_wp2_with fail
    go_ret;exact ⟨Z,cS.trans ((mH bq ek).mono cS.size)⟩
   | true =>
    cases r2 with
    | false =>
     go_enter func82,ntmps82;go_wp2_with fail
     rw [n8.out];refine sH.mono ?_;rintro e b' ⟨rfl,bq⟩;have bS:=cell_later bq bS;have bd:=cell_later bq bd;have bP:=cell_later bq bP;have c3:=cell_later bq c3;have c4:=cell_later bq c4;have c5:=cell_later bq c5;have dw:=cell_later bq dw;have dV:=cell_later bq dV;have dW:=cell_later bq dW;go_wp2_with fail
     refine (CF.out _ bq).mono ?_;rintro e w3 ⟨rfl,ek⟩;have pd:=mH bq ek;have bS:=cell_later ek bS;have bd:=cell_later ek bd;have bP:=cell_later ek bP;have c3:=cell_later ek c3;have c4:=cell_later ek c4;have c5:=cell_later ek c5;have dw:=cell_later ek dw;have dV:=cell_later ek dV;have dW:=cell_later ek dW;go_wp2_with fail
     refine (EP.out _ pd).mono ?_;rintro e nU ⟨rfl,dX⟩;go_wp2_with fail
     go_ret;exact ⟨Z,cS.trans ((mH pd dX).mono cS.size)⟩
    | true =>
     cases sI with
     | false =>
      go_enter func82,ntmps82;go_wp2_with fail
      rw [n8.out];refine sH.mono ?_;rintro e b' ⟨rfl,bq⟩;have bS:=cell_later bq bS;have bd:=cell_later bq bd;have bP:=cell_later bq bP;have c3:=cell_later bq c3;have c4:=cell_later bq c4;have c5:=cell_later bq c5;have dw:=cell_later bq dw;have dV:=cell_later bq dV;have dW:=cell_later bq dW;go_wp2_with fail
      refine (CF.out _ bq).mono ?_;rintro e w3 ⟨rfl,ek⟩;have pd:=mH bq ek;have bS:=cell_later ek bS;have bd:=cell_later ek bd;have bP:=cell_later ek bP;have c3:=cell_later ek c3;have c4:=cell_later ek c4;have c5:=cell_later ek c5;have dw:=cell_later ek dw;have dV:=cell_later ek dV;have dW:=cell_later ek dW;go_wp2_with fail
      refine (EP.out _ pd).mono ?_;rintro e nU ⟨rfl,dX⟩;have re:=mH pd dX;have bS:=cell_later dX bS;have bd:=cell_later dX bd;have bP:=cell_later dX bP;have c3:=cell_later dX c3;have c4:=cell_later dX c4;have c5:=cell_later dX c5;have dw:=cell_later dX dw;have dV:=cell_later dX dV;have dW:=cell_later dX dW;go_wp2_with fail
      refine (zg.out _ re).mono ?_;rintro e qC ⟨rfl,sy⟩;go_wp2_with fail
      go_ret;exact ⟨Z,cS.trans ((mH re sy).mono cS.size)⟩
     | true =>
      go_enter func82,ntmps82;go_wp2_with fail
      rw [n8.out];refine sH.mono ?_;rintro e b' ⟨rfl,bq⟩;have bS:=cell_later bq bS;have bd:=cell_later bq bd;have bP:=cell_later bq bP;have c3:=cell_later bq c3;have c4:=cell_later bq c4;have c5:=cell_later bq c5;have dw:=cell_later bq dw;have dV:=cell_later bq dV;have dW:=cell_later bq dW;go_wp2_with fail
      refine (CF.out _ bq).mono ?_;rintro e w3 ⟨rfl,ek⟩;have pd:=mH bq ek;have bS:=cell_later ek bS;have bd:=cell_later ek bd;have bP:=cell_later ek bP;have c3:=cell_later ek c3;have c4:=cell_later ek c4;have c5:=cell_later ek c5;have dw:=cell_later ek dw;have dV:=cell_later ek dV;have dW:=cell_later ek dW;go_wp2_with fail
      refine (EP.out _ pd).mono ?_;rintro e nU ⟨rfl,dX⟩;have re:=mH pd dX;have bS:=cell_later dX bS;have bd:=cell_later dX bd;have bP:=cell_later dX bP;have c3:=cell_later dX c3;have c4:=cell_later dX c4;have c5:=cell_later dX c5;have dw:=cell_later dX dw;have dV:=cell_later dX dV;have dW:=cell_later dX dW;go_wp2_with fail
      refine (zg.out _ re).mono ?_;rintro e qC ⟨rfl,sy⟩;go_wp2_with fail
      go_ret;exact ⟨Z,cS.trans ((mH re sy).mono cS.size)⟩
 ·rw [ae.Yq tF];have hd:(W.field.a7 == 0)=false:=by simpa using tF
  have F5:(W.field.a7 != 0)=true:=by simpa using tF
  clear tF tK NN oA;generalize W.field.a7=k at *
  go_enter func82,ntmps82;go_wp2_with fail
  rw [n8.out];refine hf.mono ?_;rintro e b' ⟨rfl,bq⟩;go_wp2_with fail
  go_ret;exact ⟨Z,cS.trans (bq.mono cS.size)⟩
end Go.Proofs.YthlpmldmhakhaaaGreatDoor
