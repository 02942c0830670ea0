import Derived.Test.YtmeeljmapailnaaGreatSeo
set_option linter.unusedVariables false
set_option linter.unusedSimpArgs false
set_option maxRecDepth 100000
set_option maxHeartbeats 4000000
open Go.RowKit
namespace Go.Proofs.YtmeeljmapailnaaGreat
open Tryz
abbrev bbq:=@Nat.div_div_eq_div_mul
abbrev bb7:=@beq_true
abbrev bc7:=@BitVec.getLsbD_ofNat
section
variable {α:Type} {B:List Nat} {s:cT} {q m f:Nat} {g:Bool}
theorem atH:ez prog aQ.rep 48 69 48:=ez.ki (z:=aQ.zero) (k:=6) underlying48 aQ.info rfl rfl (by decide) aQ.j8
open Go.Proofs.YtmeeljmapailnaaGreat.fL
theorem atF {R:J α} {w:World} {aA e by_ c:Nat} {A:Option Addr} {l:List α} (h:R.aF e by_ w aA (J.ab A) A c l):∀ q∈J.ab A,∃ cur:List Value,aM w q cur e (0,0):=λ q I=>by
 obtain ⟨_,ps,_,_,⟨_,bK⟩,_⟩:=h;rcases bK with ⟨aW,_⟩ | ⟨g,cap,cur,aW,_,ag,_⟩
 ·injection aW with aW;subst aW;simp [J.ab] at I
 ·injection aW with aW;subst aW
  obtain rfl:=aYf.1 I;exact ⟨cur.toList,by simpa [aM] using ag⟩
structure sW (w:World) (aA:Nat) (A:Option Addr) (c:Nat) (l:List aQ):Prop where
 has:aQ.rep.aK 48 w A c l
 lt:∀ q∈J.ab A,aA≤q∧q<w.heap.size
 row:∀ q∈J.ab A,∃ cur:List Value,aM w q cur 69 (0,0)
theorem aGW {A:Option Addr} {c:Nat} {l:List aQ} {S:List Nat} {w w':World} (h:aQ.rep.aK 48 w A c l) (m:Mod S w w') (bF:∀ q∈J.ab A,q<w.heap.size) (hd:∀ x∈J.ab A,x∉S):aQ.rep.aK 48 w' A c l:=by
 obtain ⟨κ,τ,au,aU,ess,bN,cq,ew⟩:=h;refine ⟨κ,τ,au,aU,ess,bN,cq,λ aG=> ?_⟩
 ·obtain ⟨b,o,rfl,hc⟩:=ew aG;refine ⟨b,o,Z,λ j u hu=> ?_⟩;rw [← hc j u hu];have:=m.block b (bF b (aYf.2 rfl)) (hd b (aYf.2 rfl));simp only [World.cell?,this]
section
variable {w w':World} {aA Z':Nat} {A:Option Addr} {c:Nat} {l:List aQ} {T:List bS} {S:List cT} {k i:Nat}
theorem sW.mod (h:sW w aA A c l) (m:Mod B w w') (hd:∀ x∈J.ab A,x∉B):sW w' aA A c l :=
 ⟨aGW h.has m (λ q I=>(h.lt q I).2) hd,λ q I=>⟨(h.lt q I).1,aZG (h.lt q I).2 m.size⟩,λ q I=>by
  obtain ⟨cur,ag⟩:=h.row q I;exact ⟨cur,by unfold aM;rw [m.block q ag.lt (hd q I)];exact ag⟩⟩
theorem sW.later (h:sW w aA A c l) (x:Ext w w'):sW w' aA A c l:=h.mod (B:= []) (Mod.a8 x) λ _ _ h=>by simp at h
theorem sW.of (h:aQ.rep.aF 69 48 w aA (J.ab A) A c l):sW w aA A c l:=⟨h.has,λ q I=>h.lt q I,atF h⟩
theorem adi {lo s:Nat} (h:q∈J.ab (eF A c lo s)):q∈J.ab A:=by
 unfold eF at h;split at h
 ·exact h
 ·cases A with
  | none=>exact h
  | some a =>
   have e:(a.add (lo * s)).block=a.block:=by unfold Addr.add;split<;>rfl
   have h:q∈ [(a.add (lo * s)).block]:=h;rw [e] at h;exact h
theorem sW.cut (h:sW w aA A c l) (aG:0<l.length):sW w aA (eF A c 1 6) (c - 1) (l.drop 1):=by
 have hs:=h.has.sub 1 l.length (by omega) (by omega);rw [aYp (by rw [aYs];exact aYg _)] at hs;exact ⟨hs,λ q I=>h.lt q (adi I),λ q I=>h.row q (adi I)⟩
def iD (w:World) (aA:Nat) (T:List bS) (S:List cT):Prop:=T.map (λ v=>(v.late,v.gone))=S.map (λ s=>(s.late,s.gone))∧∀ (i:Nat) (v:bS),T[i]? =some v→∃ s:cT,S[i]? =some s∧v.n=s.waits.length∧sW w aA v.a v.c s.waits
theorem iD.len (h:iD w aA T S):T.length=S.length:=by have:=aZb List.length h.1;simpa using this
theorem iD.mod (h:iD w aA T S) (m:Mod B w w') (hd:∀ q∈gS T,q∉B):iD w' aA T S:=⟨h.1,λ i v hi=>by
 obtain ⟨s,κ,τ,au⟩:=h.2 i v hi;exact ⟨s,κ,τ,au.mod m λ q I=>hd q (ve hi I)⟩⟩
theorem iD.later (h:iD w aA T S) (x:Ext w w'):iD w' aA T S:=⟨h.1,λ i v hi=>by
 obtain ⟨s,κ,τ,au⟩:=h.2 i v hi;exact ⟨s,κ,τ,au.later x⟩⟩
theorem iD.down (h:iD w aA T S) (bc:Z'≤aA):iD w Z' T S:=⟨h.1,λ i v hi=>by
 obtain ⟨s,κ,τ,au⟩:=h.2 i v hi;exact ⟨s,κ,τ,au.has,λ q I=>⟨aYF bc (au.lt q I).1,(au.lt q I).2⟩,au.row⟩⟩
theorem iD.lt (h:iD w aA T S):∀ q∈gS T,aA≤q∧q<w.heap.size:=λ q I=>by
 obtain ⟨i,v,hi,I⟩:=P5 I;obtain ⟨s,κ,τ,au⟩:=h.2 i v hi;exact au.lt q I
theorem iD.nil (w:World) (aA:Nat):iD w aA [] []:=⟨rfl,λ i v h=>by simp at h⟩
theorem fG.LP (h:fG w aA T S):iD w aA T S:=⟨h.2.1,λ i v hi=>by
 obtain ⟨A,c,s,κ,τ,au⟩:=h.get (k:=i) (aX8.1 hi).1;rw [hi] at κ;obtain rfl:=aYd κ;exact ⟨s,τ,Z,sW.of au⟩⟩
theorem iD.zN (h:iD w aA T S):qL w T S:=by
 refine ⟨⟨by simp [h.len],λ i v hi=> ?_⟩,h.1⟩;rw [aYv] at hi;cases cB:T[i]? with
 | none=>rw [cB] at hi;cases hi
 | some u =>
  rw [cB] at hi;obtain rfl:=aYd hi;obtain ⟨s,κ,τ,au⟩:=h.2 i u cB;exact ⟨s.waits,by rw [aYv,κ];rfl,τ,au.has⟩
theorem iD.get (h:iD w aA T S) (ak:k<T.length):∃ (A:Option Addr) (c:Nat) (s:cT),T[k]? =some ⟨A,s.waits.length,c,s.late,s.gone⟩∧S[k]? =some s∧sW w aA A c s.waits:=by
 obtain ⟨A,c,s,κ,τ,au⟩:=h.zN.at_ ak;obtain ⟨s',aU,bN,cq⟩:=h.2 k _ κ;rw [τ] at aU;obtain rfl:=aYd aU;exact ⟨A,c,s,κ,τ,cq⟩
theorem iD.set (h:iD w aA T S) {c:Nat} (ak:k<T.length) (o:sW w aA A c s.waits):iD w aA (T.set k ⟨A,s.waits.length,c,s.late,s.gone⟩) (S.set k s):=by
 have gC:k<S.length:=by rw [← h.len];exact ak
 refine ⟨by rw [aZu,aZu,h.1],λ i v hi=> ?_⟩;by_cases nh:k=i
 ·subst nh;rw [aYz ak] at hi;obtain rfl:=aYd hi;exact ⟨s,aYz gC,Z,o⟩
 ·rw [aYJ nh] at hi;obtain ⟨s',κ,τ,au⟩:=h.2 i v hi;exact ⟨s',by rw [aYJ nh];exact κ,τ,au⟩
end
def xL (s:cT):cT:=if 0<s.waits.length then ⟨s.waits,0,s.gone⟩ else if s.gone=false then ⟨s.waits,min (s.late+1) 1000000,s.gone⟩ else s
def Dg (S:List cT) (k:Nat):List cT:=(S.take k).map xL++S.drop k
theorem aFh (S:List cT):Dg S S.length=S.map xL:=by unfold Dg;rw [aYS,List.drop_length,aYP]
theorem Uq {S:List cT} {k:Nat}:(Dg S k)[k]? =S[k]? :=by
 unfold Dg;rcases aZc k S.length with h | h
 ·rw [aYy (by rw [aYT,aYa];omega),aYT,aYa,aZx (by omega),aZk];simp
 ·rw [aZE (by simp;omega),aZE h]
theorem abQ {S:List cT} {k:Nat} (h:S[k]? =some s):Dg S (k+1)=(Dg S k).set k (xL s):=by
 obtain ⟨ak,rfl⟩:=aX8.1 h;unfold Dg;have e:((S.take k).map xL).length=k:=by rw [aYT,aYa];omega
 rw [aYH ak,aYA,aYK,bbB _ _ (by omega),e,bb9,aZ9 ak];rfl
theorem aJd {S:List cT} {k:Nat} (h:yM S) (hs:S[k]? =some s):0≤s.late∧s.late≤1000000:=by
 have κ:=(h.2.2 k s hs).2;unfold cT.zK at κ;simp only [aYl,aZv,aYM,aYI] at κ;omega
def DD (m:Nat) (x:List cT×List aQ) (i:Nat):List cT×List aQ:=match x.1[i]? with
 | some s=>if 0<s.waits.length∧x.2.length<m then (x.1.set i ⟨s.waits.drop 1,s.late,s.gone⟩,x.2++ [s.waits.getD 0 default]) else x
 | none=>x
def IX (m:Nat) (x:List cT×List aQ):List cT×List aQ:=(List.range x.1.length).foldl (DD m) x
def EV (m:Nat):Nat→List cT×List aQ→List cT×List aQ
 | 0,x=>x
 | f+1,x=>if (IX m x).2.length=x.2.length then IX m x else EV m f (IX m x)
def xg (m:Nat) (S:List cT):List cT×List aQ:=EV m (m+1) (S.map xL, [])
theorem aJS {i:Nat} {S:List cT} {out:List aQ} (hs:S[i]? =some s) (h:¬(0<s.waits.length∧out.length<m)):DD m (S,out) i=(S,out):=by
 unfold DD;rw [show (S,out).1[i]? =some s from hs];exact aYi h
theorem aJT {i:Nat} {S:List cT} {out:List aQ} (hs:S[i]? =some s) (h:0<s.waits.length∧out.length<m):DD m (S,out) i=(S.set i ⟨s.waits.drop 1,s.late,s.gone⟩,out++ [s.waits.getD 0 default]):=by
 unfold DD;rw [show (S,out).1[i]? =some s from hs];exact aYq h
theorem aiQ (m i:Nat) (x:List cT×List aQ):(List.range (i+1)).foldl (DD m) x=DD m ((List.range i).foldl (DD m) x) i:=by rw [aZY,aZU];rfl
theorem awr {x y:List cT×List aQ} (aE:IX m x=y) (h:y.2.length=x.2.length) (hf:0<f):EV m f x=y:=by
 obtain ⟨f,rfl⟩:∃ k,f=k+1:=⟨f - 1,by omega⟩;rw [EV,aE,aYq h]
theorem aws {x y:List cT×List aQ} (aE:IX m x=y) (h:¬ y.2.length=x.2.length) (hf:0<f):EV m f x=EV m (f - 1) y:=by
 obtain ⟨f,rfl⟩:∃ k,f=k+1:=⟨f - 1,by omega⟩;rw [EV,aE,aYi h];rfl
def agV (S:List cT) (m:Int):Prop:=yM S∧1≤m∧m≤100
def arE (S:List cT) (m:Int) (e:Int) (p4:List cT) (out:List aQ):Prop:=(e=0∧agV S m∧(p4,out)=xg m.toNat S)∨(e≠0∧¬ agV S m∧p4= []∧out= [])
def MB (m:Nat) (C x:List cT×List aQ) (EK:Bool):Prop:=(EK=true∧∃ f,m<f+x.2.length∧EV m f x=C)∨(EK=false∧x=C)
theorem MB.next {C x y:List cT×List aQ} (h:MB m C x true) (aE:IX m x=y) (hm:x.2.length≤m) (ah:x.2.length≤y.2.length):MB m C y (decide (y.2.length≠x.2.length)):=by
 rcases h with ⟨_,f,κ,τ⟩ | ⟨h,_⟩
 ·by_cases he:y.2.length=x.2.length
  ·refine .inr ⟨by simp [he], ?_⟩;rw [← τ,awr aE he (by omega)]
  ·refine .inl ⟨by simp [he],f - 1,by omega, ?_⟩;rw [← τ,aws aE he (by omega)]
 ·cases h
theorem aJb {l:List α} {k:Nat} {a:α} (h:l[k]? =some a):l.set k a=l:=by
 obtain ⟨ak,rfl⟩:=aX8.1 h;exact aZ6 ak
theorem aoF {T:List bS} {k:Nat} {A:Option Addr} {n c jl cc:Nat} {l:Int} (cB:T[k]? =some ⟨A,n,c,l,g⟩) (h:q∈gS (T.set k ⟨eF A c 1 6,jl,cc,l,g⟩)):q∈gS T:=(P6 h).elim Vp λ h=>ve cB (adi h)
theorem awq {a b:Nat} (h:g=decide (b≠a)) (κ:a≤b) (τ:b≤m):m+1 - b+g.toNat<m+1 - a+true.toNat:=by
 subst h;by_cases e:b=a
 ·subst e;simp
 ·simp [e];omega
theorem aJa (A:Option Addr) (c:Nat) (T:List bS) (S:List cT) (m:Int) (w:World) (cB:bS.rep.aK 40 w A c T) (hS:qL w T S):
  Calls prog 96 #[.slice A T.length c,Φ m] w (λ e w'=>∃ (e':Int) (bQ:Option Addr) (cc:Nat) (k9:List bS) (p4:List cT) (k5:Option Addr) (co:Nat) (out:List aQ),e= .returned (.tuple #[.slice bQ k9.length cc, .slice k5 out.length co,Φ e'])∧arE S m e' p4 out∧bS.rep.aF 163 40 w' w.heap.size (J.ab bQ) bQ cc k9∧iD w' w.heap.size k9 p4∧aQ.rep.aF 69 48 w' w.heap.size (J.ab k5) k5 co out∧(∀ q∈J.ab bQ,q∉gS k9)∧(∀ q∈J.ab k5,q∉J.ab bQ∧q∉gS k9)∧Ext w w'):=by
 have Ie:=cB.fa;have TO:=cB.2.2.1;refine ch (n:=102) func96 Z Z Z ?_;refine aw<|va Z<|va Z<|aJ Z<|av<|aB Z<|ca SQ Z Z ((Vo _ _ T S _ (cB.keep (Ext.cH w)) (hS.keep (Ext.cH w))).mono ?_);rintro e l9 ⟨G0,rfl,uR,aR⟩;refine cu ?_;have:=aR.size;refine aJ Z<|aB Z<|cS Z Z<|aC<| ?_;refine eU Z (λ mv=> ?_) (λ mv=> ?_)
 ·refine aB Z<|va Z<|va Z<|aY Z<|bD<|cz (.tmp Z (.tmp Z (.tmp Z .nil)))<| ?_;exact ⟨G0,none,0, [], [],none,0, [],Z, .inr ⟨(by simpa using mv),(λ bw=>(show ¬ G0=0 by simpa using mv) (uR.2 bw.1)),Z,Z⟩,J.aF.nil _,iD.nil _ _,J.aF.nil _,λ q I=>by simp [J.ab] at I,λ q I=>by simp [J.ab] at I,aR⟩
 ·have HW:=uR.1 (by simpa using mv);refine bm<|av<|aB Z<|dR Z Z<|vm Z<|ec Z Z<|bh Z (λ hc=>gO (gt hc Z) Z)<|aa (eW Z Z Z Z)<|aC<| ?_;refine du Z (λ ng=> ?_) (λ ng=> ?_)
  ·simp only [bn] at ng;refine aw<|va Z<|va Z<|aY Z<|bD<|cz (.tmp Z (.tmp Z (.tmp Z .nil)))<| ?_;exact ⟨1,none,0, [], [],none,0, [],Z, .inr ⟨(by decide),(λ bw=>by have:=bw.2;omega),Z,Z⟩,J.aF.nil _,iD.nil _ _,J.aF.nil _,λ q I=>by simp [J.ab] at I,λ q I=>by simp [J.ab] at I,aR⟩
  ·simp only [bn] at ng;have KY:1≤m∧m≤100:=by omega
   refine bm<|aB Z<|ca YZ Z Z ((adt _ _ T S _ (cB.keep aR) (hS.keep aR)).mono ?_);rintro e VU ⟨rT,eH,Cn,rfl,asX,afz,aBR,zW⟩;refine cu ?_;have yj:=γ aR zW;refine aJ Z<|av<|aB Z<|aa (b5 underlying34 Z)<|vm Z<|aC<|bJ<| ?_;have aky:Cn.length=S.length:=afz.zN.len;have OM:=hS.len;have asA:iD VU l9.heap.size Cn (Dg S 0):=afz.LP;refine eV (λ cp cn aP=>∃ k:Nat,∃ oB:List bS,cn= [(0, .slice rT Cn.length eH),(1,Φ m),(4, .slice none 0 0),(5, .slice none 0 0),(6,Φ 0),(28,Φ (Cn.length:Int)),(29,Φ (k:Int))]∧cp=S.length - k∧Ext w aP∧bS.rep.aF 163 40 aP l9.heap.size (J.ab rT) rT eH oB∧iD aP l9.heap.size oB (Dg S k)∧(k≤S.length)∧(oB.length=S.length)∧(∀ q∈gS oB,q∈J.ab rT→False)) _ _ ⟨0,Cn,Z,Z,yj,asX,asA,by omega,aky,λ q κ τ=>aBR q τ κ⟩ (eO Z Z Z) ?_;rintro ana aN0 BF ⟨k,oB,rfl,rfl,hZ,Aq,wV,ak,vZ,Fo⟩;refine aw<|dR Z Z<|aC<|av<| ?_;refine en Z (λ nd=> ?_) (λ nd=> ?_)
   ·obtain ⟨gZ,ft,bG,hM,ln,aON⟩:=wV.get (k:=k) (by omega);rw [Uq] at ln;have tE:=aJd HW ln;refine bm<|av<|bJ<|aB Z<|aJ Z<|aB Z<|vm Z<|aa (cl k underlying34 l0 Z Z (Aq.has.bT (aV k)) Z (by omega))<|aJ Z<|bJ<|aB Z<|aa (bx Z)<|aa (aj s5 Z)<| ?_;refine aa (v:= .slice gZ bG.waits.length ft) (ax Z (J.aK.lg pe (Aq.has.cD (aV k)) 0 hM Z qU))<|aa (b5 underlying48 Z)<|aa (gO Z Z)<|aJ Z<| ?_;refine en Z (λ mR=> ?_) (λ mR=> ?_)
    ·refine rg<|vm Z<|aa (bx Z)<|aa (aj Ki Z)<|so (q':=(⟨(⟨gZ,bG.waits.length,ft,bG.late,bG.gone⟩:bS).a,(⟨gZ,bG.waits.length,ft,bG.late,bG.gone⟩:bS).n,(⟨gZ,bG.waits.length,ft,bG.late,bG.gone⟩:bS).c,0,(⟨gZ,bG.waits.length,ft,bG.late,bG.gone⟩:bS).gone⟩:bS)) (j:=1) (i:=k) Aq J.dQ hM Z Z Z Z (λ _ cs h=>by have rz:=(show _∧_ from h).2;obtain rfl:=pe h;exact ⟨rfl,cN⟩) Z Z dg λ wE Dp atd=> ?_;have lz:=Ext.mod hZ Dp (λ q I=>aYF (by omega) (Aq.lt q I).1);refine nl<|b1<|b1<|eM Z Z Z<| ?_;have wV:=wV.mod Dp Fo;obtain ⟨_,Oj,_,Xt⟩:=wV.2 k _ hM;obtain rfl:=aYd ((Uq.trans ln).symm.trans Oj);have Z4:xL bG=⟨bG.waits,0,bG.gone⟩:=by unfold xL;rw [aYq (by omega)]
     exact eJ ⟨k+1,(oB).set k ((⟨(⟨gZ,bG.waits.length,ft,bG.late,bG.gone⟩:bS).a,(⟨gZ,bG.waits.length,ft,bG.late,bG.gone⟩:bS).n,(⟨gZ,bG.waits.length,ft,bG.late,bG.gone⟩:bS).c,0,(⟨gZ,bG.waits.length,ft,bG.late,bG.gone⟩:bS).gone⟩:bS)),Z,Z,lz,atd,(by rw [abQ ln,Z4];exact iD.set (s:=⟨bG.waits,0,bG.gone⟩) wV (by omega) Xt),by omega,by rw [aYn];exact vZ,λ q κ τ=>(P6 κ).elim (λ κ=>Fo q (Vp κ) τ) (λ κ=>Fo q (ve hM κ) τ)⟩
    ·refine aB Z<|aa (bx Z)<|aa (aj NQ Z)<|aa (v:= .bool bG.gone) (ax Z (J.aK.lg pe (Aq.has.cD (aV k)) 2 hM Z CI))<|aa (dJ Z)<|aJ Z<| ?_;refine du Z (λ uP=> ?_) (λ uP=> ?_)
     ·simp only [aZv,aZP] at uP;refine rg<|vm Z<|vm Z<|aa (bx Z)<|aa (aj Ki Z)<|aa (v:=Φ bG.late) (ax Z (J.aK.lg pe (Aq.has.cD (aV k)) 1 hM Z aT))<|gx Z Z<|aa (nk Z Z)<|aa (bx Z)<|aa (aj Ki Z)<|so (q':=(⟨(⟨gZ,bG.waits.length,ft,bG.late,bG.gone⟩:bS).a,(⟨gZ,bG.waits.length,ft,bG.late,bG.gone⟩:bS).n,(⟨gZ,bG.waits.length,ft,bG.late,bG.gone⟩:bS).c,min (bG.late+1) 1000000,(⟨gZ,bG.waits.length,ft,bG.late,bG.gone⟩:bS).gone⟩:bS)) (j:=1) (i:=k) Aq J.dQ hM Z Z Z Z (λ _ cs h=>by have rz:=(show _∧_ from h).2;obtain rfl:=pe h;exact ⟨rfl,cN⟩) Z Z dg λ DK kG wY=> ?_;have rM:=Ext.mod hZ kG (λ q I=>aYF (by omega) (Aq.lt q I).1);refine nl<|b1<|b1<|eM Z Z Z<| ?_;have wV:=wV.mod kG Fo;obtain ⟨_,Oj,_,Xt⟩:=wV.2 k _ hM;obtain rfl:=aYd ((Uq.trans ln).symm.trans Oj);have Z4:xL bG=⟨bG.waits,min (bG.late+1) 1000000,bG.gone⟩:=by unfold xL;rw [aYi (by omega),aYq uP]
      exact eJ ⟨k+1,(oB).set k ((⟨(⟨gZ,bG.waits.length,ft,bG.late,bG.gone⟩:bS).a,(⟨gZ,bG.waits.length,ft,bG.late,bG.gone⟩:bS).n,(⟨gZ,bG.waits.length,ft,bG.late,bG.gone⟩:bS).c,min (bG.late+1) 1000000,(⟨gZ,bG.waits.length,ft,bG.late,bG.gone⟩:bS).gone⟩:bS)),Z,Z,rM,wY,(by rw [abQ ln,Z4];exact iD.set (s:=⟨bG.waits,min (bG.late+1) 1000000,bG.gone⟩) wV (by omega) Xt),by omega,by rw [aYn];exact vZ,λ q κ τ=>(P6 κ).elim (λ κ=>Fo q (Vp κ) τ) (λ κ=>Fo q (ve hM κ) τ)⟩
     ·simp only [aZv,aZP] at uP;refine fu<|b1<|b1<|eM Z Z Z<| ?_;exact eJ ⟨k+1,oB,Z,Z,hZ,Aq,(by rw [abQ ln,show xL bG=bG from by unfold xL;rw [aYi (by omega),aYi (by rw [uP];decide)],aJb (by rw [Uq];exact ln)];exact wV),by omega,vZ,Fo⟩
   ·have mr:k=S.length:=by omega
    subst mr;rw [aFh] at wV;refine dn<|dk<|dG<|dj<|aX<|aw<|aJ Z<|av<|aw<|aJ Z<|bJ<| ?_;refine eV (λ cp cn aP=>∃ EH:List bS,∃ EG:List cT,∃ dP:Option Addr,∃ jS:Nat,∃ out:List aQ,∃ EK:Bool,cn= [(0, .slice rT Cn.length eH),(1,Φ m),(4, .slice none 0 0),(5, .slice none 0 0),(6,Φ 0),(10, .slice dP out.length jS),(11, .bool EK)]∧cp=m.toNat+1 - out.length+EK.toNat∧Ext w aP∧bS.rep.aF 163 40 aP l9.heap.size (J.ab rT) rT eH EH∧aQ.rep.aF 69 48 aP w.heap.size (J.ab dP) dP jS out∧iD aP l9.heap.size EH EG∧(MB m.toNat (xg m.toNat S) (EG,out) EK)∧(EH.length=S.length)∧(out.length≤m.toNat)∧(∀ q∈gS EH,q∈J.ab rT→False)∧(∀ q∈gS EH,q∈J.ab dP→False)∧(EG.length=S.length)∧(∀ q∈J.ab dP,q∈J.ab rT→False)) _ _ ⟨oB,(S.map xL),none,0, [],true,Z,Z,hZ,Aq,(J.aF.nil _),wV, .inl ⟨Z,_,by simp,rfl⟩,vZ,by simp,Fo,λ q κ τ=>by simp [J.ab] at τ,by simp,(λ q I ag=>by (simp [J.ab] at I))⟩ (qp Z) ?_;rintro mV aN9 zV ⟨EH,EG,dP,jS,out,EK,rfl,rfl,mG,afP,afN,afB,gq,aks,akS,hdr,T1,akr,ahv⟩;refine av<|aB Z<|aC<| ?_;refine du Z (λ tl=> ?_) (λ tl=> ?_)
    ·rw [tl] at gq;refine bm<|bJ<|aw<|aJ Z<|aB Z<|aa (b5 underlying34 Z)<|vm Z<|aC<|bJ<| ?_;refine eV (λ cp cn aP=>∃ i:Nat,∃ Ax:List bS,∃ Hi:List cT,∃ Ab:Option Addr,∃ ci:Nat,∃ eh:List aQ,∃ AY:Bool,cn= [(0, .slice rT Cn.length eH),(1,Φ m),(4, .slice none 0 0),(5, .slice none 0 0),(6,Φ 0),(10, .slice Ab eh.length ci),(11, .bool AY),(61, .bool EK),(62, .slice rT Cn.length eH),(63,Φ (Cn.length:Int)),(64,Φ (i:Int))]∧cp=S.length - i∧Ext w aP∧bS.rep.aF 163 40 aP l9.heap.size (J.ab rT) rT eH Ax∧aQ.rep.aF 69 48 aP w.heap.size (J.ab Ab) Ab ci eh∧iD aP l9.heap.size Ax Hi∧(i≤S.length)∧(Ax.length=S.length)∧(eh.length≤m.toNat)∧(∀ q∈gS Ax,q∈J.ab rT→False)∧(∀ q∈gS Ax,q∈J.ab Ab→False)∧(Hi.length=S.length)∧((Hi,eh)=(List.range i).foldl (DD m.toNat) (EG,out))∧(AY=decide (eh.length≠out.length))∧(out.length≤eh.length)∧(∀ q∈J.ab Ab,q∈J.ab rT→False)) _ _ ⟨0,EH,EG,dP,jS,out,false,Z,Z,mG,afP,afN,afB,by omega,aks,akS,hdr,T1,akr,rfl,(by simp),aYg _,ahv⟩ (eO Z Z Z) ?_;rintro FU arO DL ⟨i,Ax,Hi,Ab,ci,eh,AY,rfl,rfl,nz,yJ,JS,Es,hi,aa4,aa9,OD,OT,aa3,hF,Zh,OU,HA⟩;have:=nz.size;have apF:=bM yJ.lt;have aKw:∀ q∈gS Ax,q<DL.heap.size:=λ q I=>(Es.lt q I).2;refine aw<|dR Z Z<|aC<|av<| ?_;refine en Z (λ Oo=> ?_) (λ Oo=> ?_)
     ·obtain ⟨gZ,ft,bG,hM,ln,Hl⟩:=Es.get (k:=i) (by omega);refine bm<|av<|bJ<|aB Z<|aJ Z<|aB Z<|vm Z<|aa (cl i underlying34 l0 Z Z (yJ.has.bT (aV i)) Z (by omega))<|aJ Z<|aB Z<|aa (bx Z)<|aa (aj s5 Z)<|aa (v:= .slice gZ bG.waits.length ft) (ax Z (J.aK.lg pe (yJ.has.cD (aV i)) 0 hM Z qU))<| ?_;refine aa (b5 underlying48 Z)<|aa (gO Z Z)<|vm Z<|ec Z Z<|bh Z (λ hc=>b5 underlying48 (gt hc Z))<|ec Z Z<|bh Z (λ hc=>blt (gt hc Z) (gt hc Z))<|aa (ei Z Z Z Z)<|aC<| ?_;refine du Z (λ Fi=> ?_) (λ Fi=> ?_)
      ·simp only [bn] at Fi;have xv:0<bG.waits.length∧eh.length<m.toNat:=by omega
       obtain ⟨_,Oj,_,Hl⟩:=Es.2 i _ hM;obtain rfl:=aYd (ln.symm.trans Oj);have SA:∀ q∈J.ab gZ,q∈J.ab rT→False:=λ q κ τ=>OD q (ve hM κ) τ;have ahF:∀ q∈J.ab gZ,q∈J.ab Ab→False:=λ q κ τ=>OT q (ve hM κ) τ;have aC7:(bG.waits.getD 0 default).ok:=aQ.oD Hl.has _ (jk xv.1);refine P0 (J.ab Ab) [(5,0),(7,0),(8,2),(9,2),(13,0),(18,3)] [0,1,2,3,4,5,6,7,10,11,12,13,14,8,9,15,16,17,18,19] (by kernel_rfl) (by kernel_rfl) ?_;refine fO Z Z (λ _=>gw Z) Z<|fO Z Z (λ _=>gw Z) Z<|fO Z Z (λ _=>gw Z) Z<|fO Z Z (λ _=>bx Z) Z<|fO Z Z (λ _=>aj s5 Z) Z<|r8 (v:= .slice gZ bG.waits.length ft) Z Z (λ _ x=>ax Z (J.aK.lg pe ((yJ.mod x (cQ HA)).has.cD (aV i)) 0 hM Z qU)) Z<|fO Z Z (λ _=>cl 0 underlying48 gm Z Z (Hl.has.bT (aV 0)) Z (by omega)) Z<|r8 Z Z (λ _ x=>ax Z (J.aK.iu OB ((Hl.mod x ahF).has.cD (aV 0)) (dt (l:=bG.waits) (u:=default) (j:=0) (by omega)) ky gm)) Z<|fO Z Z (λ _=>gw Z) Z<|fO Z Z (λ _=>bx Z) Z<|fO Z Z (λ _=>aj s5 Z) Z<|r8 (v:= .slice gZ bG.waits.length ft) Z Z (λ _ x=>ax Z (J.aK.lg pe ((yJ.mod x (cQ HA)).has.cD (aV i)) 0 hM Z qU)) Z<|fO Z Z (λ _=>Vm 1 underlying48 gm Z Z Z (by omega)) Z<|CN Z Z Z λ L5 jM Q hK=>c7 (e:= 69) (cs:= [Φ ((bG.waits.getD 0 default).by_),Φ ((bG.waits.getD 0 default).kind),Φ ((bG.waits.getD 0 default).bd),Φ ((bG.waits.getD 0 default).spot.x),Φ ((bG.waits.getD 0 default).spot.y),Φ ((bG.waits.getD 0 default).what)]) Z (λ _=>by kernel_rfl) Z λ wI xd kp abP yx=>hK _ _ ⟨Mod.a8 (γ jM kp), ?_⟩;have:=jM.size;have qA:=γ nz jM;have kt:=γ qA kp;have Vb:=yx.lt;have JS:=JS.later (γ jM kp);refine CN Z Z Z λ V1 o5 Q hK=>ap atH J.dQ (JS.later o5) ((aM.gu (R:=aQ.rep) (by_:=48) (q:=bG.waits.getD 0 default) yx ⟨Z,aC7⟩ (by decide)).keep o5) Z Z (by simp only [aYc,aYh];omega) (by simp only [aYc,aYh];omega) (by have:=o5.size;omega) Z λ DN Ec AG kH Cm xu ant=>hK _ _ ⟨(Mod.a8 o5).trans kH, ?_⟩;have:=o5.size;have D5:=γ kt o5;have rP:=Ext.mod D5 kH (λ q I=>aYF (by omega) ((JS.later o5).lt q I).1);refine fO Z Z (λ _=>ee Z) Z<|fO Z Z (λ _=>bx Z) Z<|fO Z Z (λ _=>aj s5 Z) Z<| ?_;have yJ:=(yJ.later (γ jM (γ kp o5))).mod kH (cQ HA);refine N0 Z Z Z λ L' iN Q hK=>so (q':=(⟨eF gZ ft 1 6,bG.waits.length - 1,ft - 1,(⟨gZ,bG.waits.length,ft,bG.late,bG.gone⟩:bS).late,(⟨gZ,bG.waits.length,ft,bG.late,bG.gone⟩:bS).gone⟩:bS)) (j:=0) (i:=i) (yJ.later iN) J.dQ hM Z Z Z Z (λ _ cs h=>by have rz:=(show _∧_ from h).2;obtain rfl:=pe h;exact ⟨rfl,rz⟩) Z Z CD λ Ma rr XK=>hK _ _ ?_;have uo:=γ rP iN;have uq:=Ext.mod uo rr (λ q I=>aYF (by omega) ((yJ.later iN).lt q I).1);refine fO Z Z (λ _=>ee Z) Z<|N1 λ Qr QF=> ?_;have rR:=γ uq QF;refine b1<|eM Z Z Z<| ?_;have XK:=XK.later QF;have Cm:=((Cm.later iN).mod rr (hh xu HA apF)).later QF;have Es:=((((Es.later (γ jM (γ kp o5))).mod kH OT).later iN).mod rr OD).later QF;have Hl:=((((Hl.later (γ jM (γ kp o5))).mod kH ahF).later iN).mod rr SA).later QF;have aAU:=Hl.cut xv.1;have ra:(bG.waits.drop 1).length=bG.waits.length - 1:=aYs;exact eJ ⟨i+1,(Ax).set i ((⟨eF gZ ft 1 6,bG.waits.length - 1,ft - 1,(⟨gZ,bG.waits.length,ft,bG.late,bG.gone⟩:bS).late,(⟨gZ,bG.waits.length,ft,bG.late,bG.gone⟩:bS).gone⟩:bS)),Hi.set i ⟨bG.waits.drop 1,bG.late,bG.gone⟩,Ec,AG,eh++ [bG.waits.getD 0 default],true,Z,Z,rR,XK,Cm,(by have bw:=iD.set (s:=⟨bG.waits.drop 1,bG.late,bG.gone⟩) (k:=i) Es (by omega) aAU;rw [ra] at bw;exact bw),by omega,by rw [aYn];exact aa4,by rw [aX9,aYr];omega,λ q κ τ=>OD q (aoF hM κ) τ,λ q κ τ=>(λ κ=>by (exact aYC (xu q τ) (λ amo=>by (exact OT q κ amo)) (λ amo=>by (have:=aKw q κ;omega)))) (aoF hM κ),by rw [aYn];exact aa3,by rw [aiQ,← hF,aJT ln xv],by rw [aX9,aYr];exact (aYD (by omega)).symm,by rw [aX9,aYr];omega,(hh xu HA apF)⟩
      ·simp only [bn] at Fi;have xv:¬(0<bG.waits.length∧eh.length<m.toNat):=by omega
       refine fu<|b1<|eM Z Z Z<| ?_;exact eJ ⟨i+1,Ax,Hi,Ab,ci,eh,AY,Z,Z,nz,yJ,JS,Es,by omega,aa4,aa9,OD,OT,aa3,by rw [aiQ,← hF,aJS ln xv],Zh,OU,HA⟩
     ·have azw:i=S.length:=by omega
      refine dn<|dk<|dG<|dj<|b1<| ?_;exact om _ _ ⟨Ax,Hi,Ab,ci,eh,AY,Z,Z,nz,yJ,JS,Es,by rw [Zh];exact MB.next gq (by unfold IX;rw [show (EG,out).1.length=S.length from akr,← azw];exact hF.symm) akS OU,aa4,aa9,OD,OT,aa3,HA⟩ (by rw [tl];exact awq Zh OU aa9) (qp Z)
    ·refine dn<|dk<|dG<|dj<|aX<|aB Z<|vm Z<|va Z<|va Z<|aY Z<|cz (.tmp Z (.tmp Z (.tmp Z .nil)))<| ?_;exact ⟨0,_,_,EH,EG,dP,jS,out,by rw [aks,aky];rfl, .inl ⟨rfl,⟨HW,KY⟩,(by rcases gq with ⟨bw,_⟩ | ⟨_,bw⟩;exact absurd bw (by simp [tl]);exact bw)⟩,afP.down (by omega),afB.down (by omega),afN,λ q κ τ=>hdr q τ κ,λ q κ=>⟨λ τ=>by exfalso;(exact ahv q κ τ),λ τ=>T1 q τ κ⟩,mG⟩
end
end Go.Proofs.YtmeeljmapailnaaGreat
namespace Go.Proofs.YtmeeljmapailnaaGreat.b4
open Tryz
def oF:Nat→Nat→Nat
 | 0,_=>0
 | f+1,x=>x % 2+oF f (x / 2)
theorem Ys (f g x:Nat):oF (f+g) x=oF f x+oF g (x / 2 ^ f):=by
 induction f generalizing x with
 | zero=>simp [oF]
 | succ f bL =>
  rw [Nat.succ_add,oF,oF,bL,bbq,bbp,aZq 2];omega
theorem Yt (f x:Nat):oF f (x % 2 ^ f)=oF f x:=by
 induction f generalizing x with
 | zero=>rfl
 | succ f bL =>
  rw [oF,oF,bbp];have κ:x % (2 ^ f * 2) % 2=x % 2:=Nat.mod_mod_of_dvd _ ⟨2 ^ f,aZq _ _⟩;have τ:x % (2 ^ f * 2) / 2=x / 2 % 2 ^ f:=by rw [aZq,Nat.mod_mul_right_div_self]
  rw [κ,τ,bL]
theorem NA (f x:Nat):oF f x≤f:=by
 induction f generalizing x with
 | zero=>exact aYg _
 | succ f bL=>have:=bL (x / 2);rw [oF];omega
def size (x:Nat):Nat:=oF 32 x
theorem size_bytes (x:Nat) (h:x<4294967296):size x=oF 8 (x / 16777216)+oF 8 (x / 65536 % 256)+oF 8 (x / 256 % 256)+oF 8 (x % 256):=by
 unfold size;rw [show (32:Nat)=8+(8+(8+8)) from rfl,Ys,Ys,Ys,bbq,bbq];rw [show (256:Nat)=2 ^ 8 from rfl,Yt,Yt,Yt];simp only [Nat.reducePow,Nat.reduceMul];omega
theorem U7 (n:Nat) (h:n<256):Lib.pop8 (n:Int)=(oF 8 n:Int):=by
 have e:=Lib.pop8_eq ⟨n,h⟩;have bb:∀ m:Fin 256,Lib.onesCount m.val=oF 8 m.val:=by decide +kernel
 rw [bb ⟨n,h⟩] at e;exact e
end Go.Proofs.YtmeeljmapailnaaGreat.b4
namespace Go.Proofs.YtmeeljmapailnaaGreat.b4
open Tryz
open Go.RowKit Go.Proofs.YtmeeljmapailnaaGreat Go.Proofs.YtmeeljmapailnaaGreat.fL

theorem aIM {a b:Int} (h:a=b):Ending.returned (.int .i64 a)= .returned (.int .i64 b):=by rw [h]
theorem XW (a:Nat) (h:a<4294967296):bits .and .u32 (a:Int) 255=((a % 256:Nat):Int):=by
 have κ:=(bct .u32 32 (by decide) (fun n aG κ=>by simp [IntKind.wrap,IntKind.signed,IntKind.bits];omega) a 255 (by omega) (by omega)).1;have e:a &&& 255=a % 256:=Nat.and_two_pow_sub_one_eq_mod a 8;rw [e] at κ;exact κ
@[go_sem high] theorem aQT:(⟨((([0,1,1,2,1,2,2,3,1,2,2,3,2,3,3,4,1,2,2,3,2,3,3,4,2,3,3,4,3,4,4,5,1,2,2,3,2,3,3,4,2,3,3,4,3,4,4,5,2,3,3,4,3,4,4,5,3,4,4,5,4,5,5,6]:List UInt8).append [1,2,2,3,2,3,3,4,2,3,3,4,3,4,4,5,2,3,3,4,3,4,4,5,3,4,4,5,4,5,5,6,2,3,3,4,3,4,4,5,3,4,4,5,4,5,5,6,3,4,4,5,4,5,5,6,4,5,5,6,5,6,6,7]).append (([1,2,2,3,2,3,3,4,2,3,3,4,3,4,4,5,2,3,3,4,3,4,4,5,3,4,4,5,4,5,5,6,2,3,3,4,3,4,4,5,3,4,4,5,4,5,5,6,3,4,4,5,4,5,5,6,4,5,5,6,5,6,6,7]:List UInt8).append [2,3,3,4,3,4,4,5,3,4,4,5,4,5,5,6,3,4,4,5,4,5,5,6,4,5,5,6,5,6,6,7,3,4,4,5,4,5,5,6,4,5,5,6,5,6,6,7,4,5,5,6,5,6,6,7,5,6,6,7,6,7,7,8])).toArray⟩:ByteArray)=Lib.pop8tab:=by decide +kernel
theorem awy (n:Nat) (hn:n<4294967296) (w:World):
  Calls prog 181 #[.int .u32 (n:Int)] w fun e w'=>e= .returned (.int .i64 (size n:Int))∧∃ q,w'=w.drewN q:=by
 have d1:(n:Int) / 16777216=((n / 16777216:Nat):Int):=by omega
 have d2:(n:Int) / 65536=((n / 65536:Nat):Int):=by omega
 have d3:(n:Int) / 256=((n / 256:Nat):Int):=by omega
 have a2:=XW (n / 65536) (by omega);have a3:=XW (n / 256) (by omega);have a4:=XW n hn;have nO:=U7 (n / 16777216) (by omega);have pB:=U7 (n / 65536 % 256) (by omega);have nP:=U7 (n / 256 % 256) (by omega);have zH:=U7 (n % 256) (by omega);have i1:(0:Int)≤((n / 16777216:Nat):Int)∧((n / 16777216:Nat):Int)≤255:=by omega
 have i2:(0:Int)≤((n / 65536 % 256:Nat):Int)∧((n / 65536 % 256:Nat):Int)≤255:=by omega
 have i3:(0:Int)≤((n / 256 % 256:Nat):Int)∧((n / 256 % 256:Nat):Int)≤255:=by omega
 have i4:(0:Int)≤((n % 256:Nat):Int)∧((n % 256:Nat):Int)≤255:=by omega
 have c1:=NA 8 (n / 16777216);have c2:=NA 8 (n / 65536 % 256);have c3:=NA 8 (n / 256 % 256);have c4:=NA 8 (n % 256);rw [size_bytes n hn];generalize n / 16777216=k_ at *
 generalize n / 65536=nt at *
 generalize n / 256=Bt at *
 generalize nt % 256=fw at *
 generalize Bt % 256=hQ at *
 generalize eg:n % 256=xa at *
 obtain ⟨i10,i11⟩:=i1;obtain ⟨i20,i21⟩:=i2;obtain ⟨i30,i31⟩:=i3;obtain ⟨i40,i41⟩:=i4;go_enter func181,ntmps181;go_wp2_with fail
 go_quiet (fail)
 go_wp2_with fail
 go_ret;exact ⟨aIM (by push_cast;rfl),nq,Z⟩

theorem awA (n:Nat) (hn:n<4294967296) (w:World):
  Calls prog 162 #[.int .u32 (n:Int)] w fun e w'=>e= .returned (.int .i64 (size n:Int))∧∃ q,w'=w.drewN q:=by
 go_enter func162,ntmps162;go_wp2_with fail
 refine (awy n hn _).mono ?_;rintro e w' ⟨rfl,q,rfl⟩;go_wp2_with fail
 go_ret;exact ⟨Z,q,Z⟩
def Bs (t:Int):List Nat→Nat→Int
 | [],_=> -1
 | x::xs,i=>if t≤(size x:Int) then (i:Int) else Bs t xs (i+1)
def Sets (w:World) (b o:Nat) (l:List Nat):Prop:=∀ k,(h:k<l.length)→w.cell? ⟨b,o+k,none⟩=some (.int .u32 ((l[k]:Nat):Int))∧l[k]<4294967296
end Go.Proofs.YtmeeljmapailnaaGreat.b4
namespace Go.Proofs.YtmeeljmapailnaaGreat.b4
open Tryz
open Go.RowKit Go.Proofs.YtmeeljmapailnaaGreat.fL
def diff (a b:Nat):Nat:=(BitVec.ofNat 32 a &&& ~~~BitVec.ofNat 32 b).toNat
theorem NL (a b:Nat):diff a b<4294967296:=(BitVec.ofNat 32 a &&& ~~~BitVec.ofNat 32 b).isLt
theorem axa (a b i:Nat) (ha:a<4294967296) (hi:i<32):(diff a b).testBit i=(a.testBit i && !b.testBit i):=by
 unfold diff;rw [BitVec.testBit_toNat,BitVec.getLsbD_and,BitVec.getLsbD_not,bc7,bc7];simp [hi]
theorem anF (a:Nat):BitVec.ofInt 32 (a:Int)=BitVec.ofNat 32 a:=aG3 a
theorem axb (a b:Nat):bits .andNot .u32 (a:Int) (b:Int)=(diff a b:Int):=by
 have h:=S3 (x:=bits .andNot .u32 (a:Int) (b:Int)) (b:=BitVec.ofNat 32 a &&& ~~~BitVec.ofNat 32 b) (R7 _ _ _) (R6 _ _ _) (by rw [aG0,anF,anF]);exact h
theorem Wf (n:Int) (aDX:0≤n) (h₁:n<2 ^ 32):IntKind.u32.wrap n=n:=by simp [IntKind.wrap,IntKind.signed,IntKind.bits];omega
theorem aHa (a b:Nat) (ha:a<4294967296) (ag:b<4294967296):bits .or .u32 (a:Int) (b:Int)=((a ||| b:Nat):Int):=(bct .u32 32 (by decide) Wf a b ha ag).2
theorem auq (a b:Nat) (ha:a<4294967296) (ag:b<4294967296):bits .and .u32 (a:Int) (b:Int)=((a &&& b:Nat):Int):=(bct .u32 32 (by decide) Wf a b ha ag).1
theorem auZ (a k:Nat) (ha:a<4294967296):bits .and .u32 ((a / 2 ^ k:Nat):Int) 1=if a.testBit k then 1 else 0:=by
 have κ:a / 2 ^ k<4294967296:=bdg (Nat.div_le_self _ _) ha;have h:=auq (a / 2 ^ k) 1 κ (by decide);rw [bdh] at h;rw [show (1:Int)=((1:Nat):Int) from rfl,h,Nat.testBit_eq_decide_div_mod_eq];rcases bcy (a / 2 ^ k) with e | e<;>simp [e]
theorem aFV {a b:Nat} (ha:a<4294967296) (ag:b<4294967296):a ||| b<4294967296:=Nat.or_lt_two_pow (n:=32) ha ag
theorem PT {k:Nat} (ak:k<32):2 ^ k<4294967296:=Nat.pow_lt_pow_right (a:=2) (by decide) ak
end Go.Proofs.YtmeeljmapailnaaGreat.b4
namespace Go.Proofs.YtmeeljmapailnaaGreat.b4
open Tryz
open Go.RowKit Go.Proofs.YtmeeljmapailnaaGreat Go.Proofs.YtmeeljmapailnaaGreat.fL
def IP (m x k:Nat):Bool:=diff x m == 0 && !x.testBit k && (x == 0 || m.testBit k)
def PS (m:Nat):List Nat→Nat→Bool
 | [],_=>true
 | x::xs,k=>IP m x k && PS m xs (k+1)
def check (m:Nat) (l:List Nat):Int :=
 if m=0∨65536≤m then 1 else if PS m l 0=false then 4 else if 0≤Bs ((size m:Int) / 2+1) l 0 then 4 else 0
end Go.Proofs.YtmeeljmapailnaaGreat.b4
namespace Go.Proofs.YtmeeljmapailnaaGreat.b4
open Tryz
open Go.RowKit Go.Proofs.YtmeeljmapailnaaGreat Go.Proofs.YtmeeljmapailnaaGreat.fL

def IK (m:Nat) (k:Int):Bool:=decide (0≤k) && (decide (k<16) && m.testBit k.toNat)
def F2 (k x:Nat):Nat:=diff x (2 ^ k)
def aQp (l:List Nat):List Value:=l.map fun x:Nat=>Value.int .u32 (x:Int)
def part (k:Nat) (l:List Nat) (i:Nat):List Nat:=(l.take i).map (F2 k)++l.drop i
theorem acI (k:Nat) (l:List Nat) (i:Nat):(part k l i).length=l.length:=by unfold part;simp;omega
theorem aHt (k:Nat) (l:List Nat) (i:Nat) (h:i<l.length):(part k l i)[i]? =some l[i]:=by
 unfold part;have e:((l.take i).map (F2 k)).length=i:=by rw [aYT,aYa];omega
 rw [aYy (by rw [e];exact aYg _),e,bb9,aZk,Nat.add_zero,aYb h]
theorem acJ (k:Nat) (l:List Nat) (i:Nat) (h:i<l.length):(part k l i).set i (F2 k l[i])=part k l (i+1):=by
 unfold part;have e:((l.take i).map (F2 k)).length=i:=by rw [aYT,aYa];omega
 rw [bbB _ _ (by rw [e];exact aYg _),e,bb9,aYH h,aYA,aZ9 h,bam,aYK];rfl
def we (l:List Nat) (k:Nat):List Nat:=part k (l.set k 0) 16

end Go.Proofs.YtmeeljmapailnaaGreat.b4
namespace Go.Proofs.YtmeeljmapailnaaGreat.b4
open Tryz
open Go.RowKit Go.Proofs.YtmeeljmapailnaaGreat Go.Proofs.YtmeeljmapailnaaGreat.fL

def kI (m:Nat) (l:List Nat):Int:=Bs ((size m:Int) / 2+1) l 0
def zJ:Nat→Nat→List Nat→Nat×List Nat
 | 0,m,l=>(m,l)
 | f+1,m,l=>if 0≤kI m l then zJ f (diff m (2 ^ (kI m l).toNat)) (we l (kI m l).toNat) else (m,l)
def sx (l:List Nat):Nat:=(l.filter (· != 0)).length
theorem aGQ (l:List Nat):sx l≤l.length:=baY _ _
theorem anV (t:Int):∀ (l:List Nat) (i:Nat),0≤Bs t l i→∃ j,∃ h:j<l.length,Bs t l i=((i+j:Nat):Int)∧t≤(size l[j]:Int)
 | [],i,h=>by simp [Bs] at h
 | x::xs,i,h=>by
  unfold Bs at h ⊢;by_cases hx:t≤(size x:Int)
  ·rw [aYq hx];exact ⟨0,by simp,by simp,hx⟩
  ·rw [aYi hx] at h ⊢;obtain ⟨j,ay,κ,τ⟩:=anV t xs (i+1) h;exact ⟨j+1,by simp;exact ay,by rw [κ];congr 1;omega,τ⟩
theorem aql {m:Nat} {l:List Nat} (h:0≤kI m l):∃ k:Nat,kI m l=(k:Int)∧∃ ak:k<l.length,(size m:Int) / 2+1≤(size l[k]:Int):=by
 obtain ⟨j,ay,κ,τ⟩:=anV _ l 0 h;exact ⟨j,by unfold kI;rw [κ];simp,ay,τ⟩
theorem aJv:size 0=0:=by decide
theorem abR (l:List Nat) (k:Nat) (h:l.length=16):(we l k).length=16:=by unfold we;rw [acI,aYn];exact h
theorem aFq (l:List Nat) (k:Nat) (h:l.length=16):we l k=(l.set k 0).map (F2 k):=by
 unfold we part;have τ:(l.set k 0).length=16:=by rw [aYn];exact h
 rw [aYp (by omega),bcU (by omega),aYP]
theorem aHh (k:Nat):F2 k 0=0:=by
 unfold F2 diff;simp
theorem anD (f:Nat→Nat) (aG:f 0=0):∀ l:List Nat,sx (l.map f)≤sx l
 | []=>aYg _
 | x::xs=>by
  have bL:=anD f aG xs;unfold sx at *
  rw [aY3,aZO,aZO];by_cases hx:x=0
  ·subst hx;rw [aG];simpa using bL
  ·rw [aYq (show (x != 0)=true by simp [hx])];split
   ·rw [aYc,aYc];exact Nat.succ_le_succ bL
   ·rw [aYc];exact bdp bL
theorem anE:∀ (l:List Nat) (k:Nat) (ak:k<l.length),l[k]≠0→sx (l.set k 0)+1=sx l
 | x::xs,0,_,h=>by
  unfold sx;simp at h;simp [h]
 | x::xs,k+1,ak,h=>by
  have bL:=anE xs k (by simpa using ak) (by simpa using h);unfold sx at *
  simp only [ban,aZO];split
  ·simp;omega
  ·exact bL
theorem aFs {m:Nat} {l:List Nat} (ah:l.length=16) {k:Nat} (ak:k<l.length) (h:(size m:Int) / 2+1≤(size l[k]:Int)):sx (we l k)<sx l:=by
 have aG:l[k]≠0:=by
  intro aG;rw [aG,aJv] at h;omega
 have κ:=anE l k ak aG;rw [aFq l k ah];have τ:=anD (F2 k) (aHh k) (l.set k 0);omega
end Go.Proofs.YtmeeljmapailnaaGreat.b4
namespace Go.Proofs.YtmeeljmapailnaaGreat.b4
open Tryz
open Go.RowKit Go.Proofs.YtmeeljmapailnaaGreat Go.Proofs.YtmeeljmapailnaaGreat.fL
def Part (a b:Nat):Prop:=∀ i,a.testBit i=true→b.testBit i=true
structure arX (m:Nat) (l:List Nat):Prop where
 aUm:m<65536
 len:l.length=16
 lt:∀ k,l.getD k 0<4294967296
 sub:∀ k,Part (l.getD k 0) m
 self:∀ k,(l.getD k 0).testBit k=false
 mem:∀ k,l.getD k 0≠0→m.testBit k=true
theorem anO (m:Nat):∀ (l:List Nat) (k:Nat),PS m l k=true↔∀ j,j<l.length→IP m (l.getD j 0) (k+j)=true
 | [],k=>by simp [PS]
 | x::xs,k=>by
  rw [PS,aYl,anO m xs (k+1)];constructor
  ·rintro ⟨κ,τ⟩ j ay
   match j with
   | 0=>exact κ
   | j+1 =>
    have:=τ j (by simpa using ay);rw [show k+(j+1)=k+1+j from by omega];exact this
  ·intro h;refine ⟨h 0 (by simp),fun j ay=> ?_⟩;have:=h (j+1) (by simpa using ay);rw [show k+(j+1)=k+1+j from by omega] at this;exact this
structure aOT (m:Nat) (l:List Nat) (r:Nat×List Nat):Prop where
 eB:arX r.1 r.2
 some_:r.1≠0
 kI:kI r.1 r.2<0
 sub:Part r.1 m
 aWR:∀ j,Part (r.2.getD j 0) (l.getD j 0)
 gone:∀ j,m.testBit j=true→r.1.testBit j=false→size r.1<2 * size (l.getD j 0)
end Go.Proofs.YtmeeljmapailnaaGreat.b4
namespace Go.Proofs.YtmeeljmapailnaaGreat.lW
open Tryz
open Go.Proofs.YtmeeljmapailnaaGreat.fL

def aPY (j:Nat):UInt8:=1 <<<UInt8.ofNat j
def am4 (b:BitVec 32):Nat→BitVec 32
 | 0=>0#32
 | k+1=>am4 b k ^^^ (if b.getLsbD k then 1#32 <<<k else 0#32)
end Go.Proofs.YtmeeljmapailnaaGreat.lW
namespace Go.Proofs.YtmeeljmapailnaaGreat.lW
open Tryz
open Go.RowKit Go.Proofs.YtmeeljmapailnaaGreat.fL

def cells (l:List UInt8):List Value:=l.map fun b=>Value.int .u8 (b.toNat:Int)
structure Inv (T:ByteArray) (b:BitVec 32) (p N k:Nat) (t:List UInt8):Prop where
 len:t.length=N
 low:∀ j,j<k→b.getLsbD j=true→p+j<8 * N
 sum:fold (~~~0#32) t=fold (~~~0#32) T.data.toList ^^^ steps (8 * N - p) (am4 b k)
end Go.Proofs.YtmeeljmapailnaaGreat.lW
namespace Go.Proofs.YtmeeljmapailnaaGreat
open Tryz
section
variable {m:Nat}
def aNz (aA:Nat) (w:World) (A:Option Addr) (c:Nat) (t:List UInt8):Prop :=
 ∃ (g:Nat) (R:List UInt8) (L:Nat),A=some ⟨g,0,none⟩∧aA≤g∧aM w g (lW.cells (t++R)) 5 (L,L+1)∧t.length≤L∧t.length≤c∧c≤9223372036854775807∧t.length≤140737488355328
section
variable {aA:Nat} {w w':World} {A:Option Addr} {c:Nat} {t:List UInt8} {S:List Nat}
end
section
variable {P:Program} {n:Nat} {E cW:List (Nat×Value)} {a:Act} {w w' w0 w1:World} {Q:Exit→Act→World→Prop} {ops:Array Oper} {v:Value}
variable {d:Option Nat} {ty:TypeId} {pos:String} {af:Array Edge} {g:Option (Nat×Bool)} {x y z:Operand} {t u:TypeId} {rest:List Oper} {i j:Int} {k k':IntKind}
theorem ava (hx:ev E x=some (.int k i)) (aE:ev E y=some (.int k' (m:Int))) (hm:m≤k.bits) (aG:0≤i):c9 P E ⟨d, .binOp .shr t x y u,ty,pos,af,g⟩ w (.int k (i / 2 ^ m)) w:=qo hx aE (by rfl:binOp .shr t (.int k i) (.int k' (m:Int))=Op.shift .shr k i k' (m:Int)) (by
 unfold Op.shift;rw [aYi (by omega)];show (pure (Value.int k (i.fdiv (2 ^ min (m:Int).toNat k.bits))):Sem Value).run _ _=_;rw [aY2,aZx hm,Int.fdiv_eq_ediv_of_nonneg _ (by exact Int.le_of_lt (Int.pow_pos (by decide)))];rfl)
theorem au9 (hx:ev E x=some (.int k 1)) (aE:ev E y=some (.int k' j)) (ay:j=(m:Int)) (hm:m≤k.bits):c9 P E ⟨d, .binOp .shl t x y u,ty,pos,af,g⟩ w (.int k (k.wrap (2 ^ m))) w:=qo hx aE (by rfl:binOp .shl t (.int k 1) (.int k' j)=Op.shift .shl k 1 k' j) (by
 subst ay;unfold Op.shift;rw [aYi (by omega)];show (pure (Value.int k (k.wrap (1 * 2 ^ min (m:Int).toNat k.bits))):Sem Value).run _ _=_;rw [aY2,aZx hm,Int.one_mul];rfl)
theorem auQ (hx:ev E x=some (.int k i)) (aE:ev E y=some (.int k j)):c9 P E ⟨d, .binOp .and t x y u,ty,pos,af,g⟩ w (.int k (bits .and k i j)) w:=qo hx aE (binOp_and t k i j) rfl
end
end
section
variable {a m b:Nat} {j:Int} {k':IntKind}
open Go.Proofs.YtmeeljmapailnaaGreat.fL
abbrev eR:=Nat
def eR.rep:J eR:=J.flat 1 (λ n:Nat=> [.int .u32 (n:Int)]) (λ n=>n<4294967296) (λ _ u=>∃ n:Int,u= .int .u32 n) (λ _=>rfl) (by intro a u hu;simp at hu;subst hu;rfl) (by
 intro a j u hu;cases j with
 | zero=>simp at hu;exact ⟨_,hu.symm⟩
 | succ j=>simp at hu)
theorem Fm {w:World} {cs:List Value} {a:eR} (h:eR.rep.has w cs a):cs= [.int .u32 (a:Int)]:=bas (show cs= [.int .u32 (a:Int)]∧a<4294967296 from h)
theorem eR.j8:∀ (j:Nat) u,(Value.int .u32 0).cells[j]? =some u→eR.rep.raw j u:=by
 intro j u hu;have hu:(#[(.int .u32 0:Value)]:Array Value)[j]? =some u:=hu
 match j,hu with
 | 0,hu=>exact ⟨_,(aYd hu).symm⟩
 | j+1,hu=>simp at hu
abbrev eR.zero:Value:= .int .u32 0
theorem eR.info:(prog.info? 35).map (λ i=>(i.zero,i.size,i.bytes))=some (some (.int .u32 0),1,4):=by kernel_rfl
theorem eR.plain:eR.rep.Plain:=J.qa
theorem eR.oD {by_:Nat} {w:World} {A:Option Addr} {c:Nat} {l:List eR} (h:eR.rep.aK by_ w A c l):∀ a∈l,a<4294967296:=J.aK.AB (R:=eR.rep) (Q:=λ a=>a<4294967296) (fun {w cs a} (h:eR.rep.has w cs a)=>(show cs= [.int .u32 (a:Int)]∧a<4294967296 from h).2) h
section
open b4
variable {P:Program} {E:List (Nat×Value)} {w:World} {d:Option Nat} {ty:TypeId} {pos:String} {af:Array Edge} {g:Option (Nat×Bool)} {x y:Operand} {t u:TypeId}
def xb (a k:Nat):Int:=if a.testBit k then 1 else 0
theorem Gm (hx:ev E x=some (.int .u32 (a:Int))) (aE:ev E y=some (.int k' j)) (ay:j=(m:Int)) (hm:m≤32):c9 P E ⟨d, .binOp .shr t x y u,ty,pos,af,g⟩ w (.int .u32 ((a / 2 ^ m:Nat):Int)) w:=by
 subst ay;have h:=ava (P:=P) (w:=w) (d:=d) (ty:=ty) (pos:=pos) (af:=af) (g:=g) (t:=t) (u:=u) (m:=m) hx aE hm (bap a)
 rwa [show (a:Int) / 2 ^ m=((a / 2 ^ m:Nat):Int) by simp] at h
theorem LZ (hx:ev E x=some (.int .u32 ((a / 2 ^ m:Nat):Int))) (aE:ev E y=some (.int .u32 1)) (ha:a<4294967296):c9 P E ⟨d, .binOp .and t x y u,ty,pos,af,g⟩ w (.int .u32 (xb a m)) w:=by
 have h:=auQ (P:=P) (w:=w) (d:=d) (ty:=ty) (pos:=pos) (af:=af) (g:=g) (t:=t) (u:=u) hx aE
 rwa [auZ a m ha] at h
theorem VQ (hx:ev E x=some (.int .u32 (a:Int))) (aE:ev E y=some (.int .u32 (b:Int))):c9 P E ⟨d, .binOp .andNot t x y u,ty,pos,af,g⟩ w (.int .u32 ((diff a b:Nat):Int)) w:=qo hx aE (by rfl:binOp .andNot t (.int .u32 (a:Int)) (.int .u32 (b:Int))=pure (.int .u32 (bits .andNot .u32 (a:Int) (b:Int)))) (by rw [axb];rfl)
theorem aLh (hx:ev E x=some (.int .u32 (a:Int))) (aE:ev E y=some (.int .u32 (b:Int))) (ha:a<4294967296) (ag:b<4294967296):c9 P E ⟨d, .binOp .or t x y u,ty,pos,af,g⟩ w (.int .u32 ((a ||| b:Nat):Int)) w:=qo hx aE (by rfl:binOp .or t (.int .u32 (a:Int)) (.int .u32 (b:Int))=pure (.int .u32 (bits .or .u32 (a:Int) (b:Int)))) (by rw [aHa a b ha ag];rfl)
theorem VS (hx:ev E x=some (.int .u32 1)) (aE:ev E y=some (.int k' j)) (ay:j=(m:Int)) (hm:m<32):c9 P E ⟨d, .binOp .shl t x y u,ty,pos,af,g⟩ w (.int .u32 ((2 ^ m:Nat):Int)) w:=by
 have h:=au9 (P:=P) (w:=w) (d:=d) (ty:=ty) (pos:=pos) (af:=af) (g:=g) (t:=t) (u:=u) (k:= .u32) hx aE ay (by show m≤32;omega)
 rwa [show (IntKind.u32.wrap ((2:Int) ^ m))=((2 ^ m:Nat):Int) by
  rw [show ((2:Int) ^ m)=((2 ^ m:Nat):Int) by simp,Wf _ (bap _) (Int.ofNat_lt.2 (PT hm))]] at h
end
theorem apM (n:Nat) (hn:n<4294967296) (w:World):Calls prog 162 #[.int .u32 (n:Int)] w λ e w'=>e= .returned (Φ (b4.size n:Int))∧Ext w w' :=
 (b4.awA n hn w).mono λ e w' ⟨h,q,I⟩=>⟨h,by rw [I];exact below_drewN (aYG _ _) q⟩
def F3 (t:Int) (x:eR):Bool:=decide (t≤(b4.size x:Int))
theorem anU (t:Int):∀ (l:List Nat) (i:Nat),(gY (F3 t) l= -1∧b4.Bs t l i= -1)∨∃ k:Nat,gY (F3 t) l=(k:Int)∧b4.Bs t l i=((i+k:Nat):Int)
 | [],i=> .inl ⟨rfl,rfl⟩
 | x::xs,i=>by
  unfold b4.Bs;by_cases hx:t≤(b4.size x:Int)
  ·exact .inr ⟨0,Ir (k:=0) (by simp) (by show F3 t x=true;exact aYD hx) (λ j ay=>by omega),by rw [aYq hx];rfl⟩
  ·rw [aYi hx];rcases anU t xs (i+1) with ⟨κ,τ⟩ | ⟨k,κ,τ⟩
   ·refine .inl ⟨Iq λ j ay=> ?_,τ⟩
    match j with
    | 0=>exact aYL hx
    | j+1 =>
     rcases abw (F3 t) xs with ⟨_,au⟩ | ⟨k,ak,au,_⟩
     ·exact au _ (aZs _)
     ·omega
   ·refine .inr ⟨k+1, ?_,by rw [τ];congr 1;omega⟩;rcases abw (F3 t) xs with ⟨au,_⟩ | ⟨k',ak,au,aU,bN⟩
    ·omega
    ·obtain rfl:k'=k:=by omega
     refine Ir (by simpa using ak) (by simpa using aU) (λ j ay=> ?_)
     match j with
     | 0=>exact aYL hx
     | j+1=>exact bN j (by omega)
theorem aLX (m:Nat) (l:List Nat):gY (F3 ((b4.size m:Int) / 2+1)) l=b4.kI m l:=by
 unfold b4.kI;rcases anU ((b4.size m:Int) / 2+1) l 0 with ⟨κ,τ⟩ | ⟨k,κ,τ⟩
 ·rw [κ,τ]
 ·rw [κ,τ,aY4]
theorem anQ (m x k:Nat):((((b4.diff x m:Nat):Int) != 0) || (xb x k == 1) || (((x:Nat):Int) != 0 && (xb m k == 0)))= !b4.IP m x k:=by
 unfold b4.IP xb;generalize b4.diff x m=d;have aW:(((d:Nat):Int) != 0)= !(d == 0):=by
  rw [bar];simp
 have bb:(((x:Nat):Int) != 0)= !(x == 0):=by
  rw [bar];simp
 rw [aW,bb];cases (d == 0)<;>cases (x == 0)<;>cases x.testBit k<;>cases m.testBit k<;>rfl
def Nk (m:Nat) (l:List Nat):Prop:=l.length=16∧b4.check m l=0
theorem VR {l:List Nat}:Nk m l↔m≠0∧m<65536∧l.length=16∧(∀ j,j<l.length→b4.IP m (l.getD j 0) j=true)∧b4.kI m l<0:=by
 have κ:=b4.anO m l 0;unfold Nk b4.check;constructor
 ·rintro ⟨ah,h⟩;split at h
  ·cases h
  ·split at h
   ·cases h
   ·split at h
    ·cases h
    ·rename_i a b c
     refine ⟨by omega,by omega,ah,λ j ay=> ?_,bdj.1 c⟩;have:=κ.1 (by simpa using b) j ay
     rwa [aY4] at this
 ·rintro ⟨a,b,ah,c,d⟩;refine ⟨ah, ?_⟩;rw [aYi (by omega),aYi (by rw [κ.2 (λ j ay=>by rw [aY4];exact c j ay)];decide)];exact aYi (show ¬ 0≤b4.kI m l by omega)
theorem aLd (h:m≠0) (τ:m<65536):(((m:Int)== 0) || (((m / 2 ^ 16:Nat):Int) != 0))=false:=by
 have e:m / 2 ^ 16=0:=bcm τ;rw [e];simp [h]
theorem aLc (h:(((m:Int)== 0) || (((m / 2 ^ 16:Nat):Int) != 0))=false):m≠0∧m<65536:=by
 simp only [aYM,bag,bbL] at h;omega
theorem agT (A:Option Addr) (c:Nat) (l:List eR) (w:World) (h:eR.rep.aK 4 w A c l):
  Calls prog 91 #[.slice A l.length c] w λ e w'=>∃ bQ cc,e= .returned (.slice bQ l.length cc)∧eR.rep.aF 35 4 w' w.heap.size (J.ab bQ) bQ cc l∧(bQ=none↔A=none)∧Below w.heap.size w w':=by
 obtain ⟨i0,hi,pj,nL,qe⟩:=baD eR.info;have PZ:∀ (w:World) (a:Option Addr) (n c jl cc:Nat),(binOp .eql 36 (.slice a n c) (.slice none jl cc)).run prog w= .ok (.bool a.isNone) w:=λ w a n c jl cc=>baa w _ _ a n c jl cc underlying36;cases A with
 | none =>
  obtain rfl:c=0:=h.2.2.2.1 rfl;obtain rfl:l= []:=aYx (by have:=h.1;omega);go_enter func91,ntmps91;go_wp2_with fail
  go_ret;exact ⟨none,0,Z,J.aF.nil _,by simp,aYG _ _⟩
 | some a =>
  have cV:Below w.heap.size w (w.alloc (.cells #[] 35)):=(aYG _ w).alloc (aYg _) _;obtain ⟨n,fr⟩:∃ n,Hid (l.length=n):=⟨_,aYe rfl⟩;obtain ⟨κ,τ,au,aU,ess,bN,cq⟩:=h.keep cV;have ux:=aYe bN;have mT:∀ u∈ess.flatten,u.oneCell'=true:=by
   intro u hu;obtain ⟨y,aE,hu⟩:=aZj.1 hu;obtain ⟨a,ha⟩:=bN.left y aE;exact eR.rep.one ha u hu
  have ph:∀ (j:Nat) u,ess.flatten[j]? =some u→eR.rep.raw (j % eR.rep.size) u:=λ j u hu=>E7 bN (by decide) hu;rw [fr.out] at κ au cq;have dI:=aYe cq;have jO:=aYe (Own.empty (e:= 35) (size:=eR.rep.size) (G:=eR.rep.raw) w (aYg w.heap.size));clear h aU bN cq;rw [fr.out];go_enter func91,ntmps91;go_wp2_with (at_builtin;refine Jj _ rfl _ _ 36 rfl w.heap.size 35 i0 (Value.int .u32 0) eR.rep.size 4 underlying36 hi pj nL qe rfl (by decide) eR.rep.raw eR.j8 _ _ _ rfl jO.out (some a) n c ess.flatten rfl dI.out mT ph ?qc4 ?qc5 ?qc6 ?_)
  case qc4=>unfold maxLen;omega
  case qc5=>omega
  case qc6=>simp
  intro v' w1 fz jE mS fX;have dc:=cV.grown jE (by simp) (by intro k ak;simp [Value.ownBlock] at ak;omega);obtain ⟨cb,c1,rfl,hle,_,_,_,lL⟩:=fz.shape;have kS:cb≠none:=by
   intro h;subst h;exact mS (lL Z)
  have bq:Hid (eR.rep.aF 35 4 w1 w.heap.size (J.ab cb) cb c1 l):=aYe (J.aF.Br eR.plain ux.out (by rw [fr.out];exact au) (by rw [fr.out];simpa using fz));have sQ:=aYe kS;clear jE mS fX fz kS lL mT ph;go_wp2_with fail
  go_ret;exact ⟨cb,c1,Z,bq.out,⟨λ h=>absurd h sQ.out,λ h=>by cases h⟩,dc⟩
theorem aD5 (ef:FuncId) (cs:List Value) (p:eR→Bool) (A:Option Addr) (c:Nat) (l:List eR) (w:World) (ah:eR.rep.aK 4 w A c l) (ll:Enters prog ef) (gq:∀ x∈l,∀ w',Ext w w'→Calls prog ef (([.int .u32 (x:Int)]:List Value)++cs).toArray w' λ e lx=>e= .returned (.bool (p x))∧Ext w' lx):
  Calls prog 163 #[.slice A l.length c, .func (.func ef) #[] cs.toArray] w (λ e w'=>e= .returned (Φ (gY p l))∧Ext w w'):=by
 have tD:=ah.fa;refine ch (n:=19) func163 Z Z Z ?_;refine aw<|aJ Z<|av<|aB Z<|aa (b5 underlying36 Z)<|vm Z<|aC<|bJ<| ?_;refine eV (λ cp cn aP=>∃ k:Nat,cn= [(0, .slice A l.length c),(1, .func (.func ef) #[] cs.toArray),(7,Φ (l.length:Int)),(8,Φ (k:Int))]∧cp=l.length - k∧Ext w aP∧(k≤l.length)∧(∀ i,i<k→p (l.getD i 0)=false)) _ _ ⟨0,Z,Z,(Ext.cH w),by omega,λ i hi=>by omega⟩ (eO Z Z Z) ?_;rintro Lh JI cG ⟨k,rfl,rfl,de,ak,aN⟩;refine aw<|dR Z Z<|aC<|av<| ?_;refine en Z (λ mv=> ?_) (λ mv=> ?_)
 ·refine bm<|av<|bJ<|aB Z<|aJ Z<|aB Z<|vm Z<|vm Z<|aa (cl k underlying36 xm Z Z ((ah.keep de).bT (aV k)) Z (by omega))<|aa (ax Z (J.aK.fh Fm ((ah.keep de).cD (aV k)) (dt (l:=l) (u:=0) (by omega)) Z r4))<|NB ll Z Z Z ((gq (l.getD k 0) (jk (by omega)) _ de).mono ?_);rintro e Je ⟨rfl,rJ⟩;refine cu ?_;have mI:=γ de rJ;refine aC<| ?_;refine du Z (λ jD=> ?_) (λ jD=> ?_)
  ·refine aB Z<|aY Z<|eb<|bD<|m0<|eb<|bD<|b_ Z Z<| ?_;exact ⟨by have e:=O_ (p:=p) (l:=l) (d:=0) (k:=k) (by omega) jD aN;rw [e];rfl,mI⟩
  ·refine fu<|b1<|eM Z Z Z<| ?_;exact eJ ⟨k+1,Z,Z,mI,by omega,sr aN jD⟩
 ·refine dn<|dk<|dG<|dj<|aX<|aw<|aY Z<|b_ Z Z<| ?_;exact ⟨by have e:=O9 (p:=p) (l:=l) (d:=0) (λ i hi=>aN i (by omega));rw [e];rfl,de⟩
theorem aLi (tS:Nat) (hx:tS<4294967296) (t:Int) (b:Nat) (w:World) (aI:aM w b [Φ t] 3 (0,0)):
  Calls prog 164 #[.int .u32 (tS:Int), .pointer (bA b)] w (λ e w'=>e= .returned (.bool (F3 t tS))∧Ext w w'):=by
 refine ch (n:=8) func164 Z Z Z ?_;refine aw<|aJ Z<|av<| ?_;refine cO [(1,0),(2,0)] [0,1,2,3,4] ?_;refine a1 Z Z<|qW Z Z ah8 Z (λ _ x=>apM tS hx _) Z<|cf Z Z aI aT Z<|aq Z (λ _=>jg Z Z)<|aq Z (λ _=>ee Z)<|fn λ cG dS=> ?_;refine aX<|rt<|b_ Z Z<| ?_;exact ⟨Z,dS⟩
theorem apP (m:Nat) (hm:m<4294967296) (A:Option Addr) (c:Nat) (l:List Nat) (w:World) (ah:eR.rep.aK 4 w A c l):
  Calls prog 129 #[.agg #[.int .u32 (m:Int), .slice A l.length c]] w (λ e w'=>e= .returned (Φ (b4.kI m l))∧Ext w w'):=by
 have kF:b4.size m≤32:=b4.NA 32 m;refine ch (n:=13) func129 Z Z Z ?_;refine dZ Z Z λ cG bB aR d' ae=> ?_;have hE:=ae.lt;refine aJ Z<|aw<|aa (aj xn Z)<|bk Z ae r4 Z<|cM ah8 Z (apM m hm _) λ eC dm=> ?_;have:=dm.size;have bO:=γ aR dm;refine aa (au6 Z Z (by omega) (by omega) (aIB (by omega) (by omega) (by omega)))<|gx Z Z<|cU SZ Z λ wC uE fi K_ iB=> ?_;have k2:=γ bO fi;refine st (new:= [Φ (((b4.size m:Int) / 2)+1)]) Z Z iB Z dg Z Z Z λ t_ tL iB=> ?_;have iP:=Ext.mod k2 tL bo;refine aC<|aw<|aa (aj xo Z)<| ?_;have ae:=(ae.later (γ dm fi)).mod tL aO;refine bk Z ae AT Z<|aa (Ln Z Z)<|cM ayw Z (aD5 164 [.pointer (bA uE)] (F3 (((b4.size m:Int) / 2)+1)) _ _ l _ (ah.keep iP) ayv (λ x hx w' h=>aLi x (eR.oD ah x hx) (((b4.size m:Int) / 2)+1) uE w' (iB.later h))) λ nR gb=> ?_;have eZ:=γ iP gb;refine aY Z<|b_ Z Z<| ?_;exact ⟨by rw [aLX];rfl,eZ⟩
theorem apL (m:Nat) (hm:m<4294967296) (A:Option Addr) (c:Nat) (l:List Nat) (w:World) (ah:eR.rep.aK 4 w A c l):
  Calls prog 93 #[.agg #[.int .u32 (m:Int), .slice A l.length c]] w (λ e w'=>∃ e':Int,e= .returned (Φ e')∧(e'=0↔Nk m l)∧Ext w w'):=by
 refine ch (n:=54) func93 Z Z Z ?_;refine dZ Z Z λ cG bB aR d' ae=> ?_;refine aJ Z<|av<|aw<|aa (aj xn Z)<|bk Z ae r4 Z<|aa (beq Z Z)<|vm Z<|bh Z (λ hc=>aj xn Z)<|bh Z (λ hc=>ax (gt hc Z) (ae.one r4 Z))<|bh Z (λ hc=>Gm (m:=16) (gt hc Z) Z Z (by decide))<|bh Z (λ hc=>bne (gt hc Z) Z)<|aa (eW Z Z Z Z)<|aC<| ?_;refine du Z (λ gg=> ?_) (λ gg=> ?_)
 ·refine aw<|aY Z<|bD<|b_ Z Z<| ?_;exact ⟨1,Z,⟨λ bw=>absurd bw (by decide),λ bw=>absurd bw (λ bw=>by obtain ⟨b2,a2,_⟩:=VR.1 bw;rw [aLd b2 a2] at gg;cases gg)⟩,aR⟩
 ·obtain ⟨KY,TQ⟩:=aLc gg;refine bm<|av<|aw<|aa (aj xo Z)<|bk Z ae AT Z<|aa (b5 underlying36 Z)<|cS Z Z<|aC<| ?_;refine eU Z (λ jD=> ?_) (λ jD=> ?_)
  ·refine aw<|aY Z<|bD<|b_ Z Z<| ?_;exact ⟨4,Z,⟨λ bw=>absurd bw (by decide),λ bw=>absurd bw (λ bw=>by have:=bw.1;omega)⟩,aR⟩
  ·have KX:l.length=16:=by omega
   refine bm<|av<|aw<|aa (aj xo Z)<|bk Z ae AT Z<|aa (b5 underlying36 Z)<|vm Z<|aC<|bJ<| ?_;refine eV (λ cp cn aP=>∃ k:Nat,cn= [(1, .pointer (bA bB)),(19, .slice A l.length c),(20,Φ (l.length:Int)),(21,Φ (k:Int))]∧cp=l.length - k∧Ext w aP∧aM aP bB [.int .u32 (m:Int), .slice A l.length c] 38 (0,0)∧(k≤l.length)∧(∀ j,j<k→b4.IP m (l.getD j 0) j=true)) _ _ ⟨0,Z,Z,aR,ae,by omega,λ i hi=>by omega⟩ (eO Z Z Z) ?_;rintro aUo aNW VU ⟨k,rfl,rfl,yj,ae,ak,aN⟩;refine aw<|dR Z Z<|aC<|av<| ?_;refine en Z (λ jB=> ?_) (λ jB=> ?_)
   ·refine bm<|av<|bJ<|aB Z<|aa (cl k underlying36 xm Z Z ((ah.keep yj).bT (aV k)) Z (by omega))<|aa (ax Z (J.aK.fh Fm ((ah.keep yj).cD (aV k)) (dt (l:=l) (u:=0) (by omega)) Z r4))<|va Z<|aJ Z<|aB Z<|aa (aj xn Z)<|bk Z ae r4 Z<|aa (VQ Z Z)<|cS Z Z<|vm Z<|ec Z Z<|ec Z Z<|bh Z (λ hc=>Gm (m:=k) (gt hc Z) (gt hc Z) Z (by omega))<| ?_;refine bh Z (λ hc=>LZ (a:=(l.getD k 0)) (gt hc Z) Z (eR.oD ah _ (jk (by omega))))<|bh Z (λ hc=>beq (gt hc Z) Z)<|aa (eW Z Z Z Z)<|vm Z<|ec Z Z<|bh Z (λ hc=>bne (gt hc Z) Z)<|apK Z (λ hc=>(gt hc Z))<|tY Z Z Z Z (λ hc=>aj xn Z) Z<|tY Z Z Z Z (λ hc=>ax (gt hc Z) (ae.one r4 Z)) Z<|tY Z Z Z Z (λ hc=>gw Z) Z<|tY Z Z Z Z (λ hc=>Gm (m:=k) (gt hc Z) (gt hc Z) Z (by omega)) Z<|tY Z Z Z Z (λ hc=>LZ (a:=m) (gt hc Z) Z hm) Z<|tY Z Z Z Z (λ hc=>beq (gt hc Z) Z) Z<|bh Z (λ hc=>anW hc (gt hc Z) Z Z)<|aa (eW Z Z Z Z)<|aC<| ?_;refine du Z (λ q0=> ?_) (λ q0=> ?_)
    ·refine aw<|aY Z<|eb<|bD<|m0<|eb<|bD<|b_ Z Z<| ?_;exact ⟨4,Z,⟨λ bw=>absurd bw (by decide),λ bw=>absurd bw (λ bw=>by have xv:=(VR.1 bw).2.2.2.1 k (by omega);rw [anQ,xv] at q0;cases q0)⟩,yj⟩
    ·rw [anQ] at q0;have aaY:b4.IP m (l.getD k 0) k=true:=by simpa using q0
     refine fu<|b1<|eM Z Z Z<| ?_;exact eJ ⟨k+1,Z,Z,yj,ae,by omega,sr aN aaY⟩
   ·refine dn<|dk<|dG<|dj<|aX<|av<|aw<|aa (ax Z (ae.all p7 lI))<|cM Y0 Z (apP m hm _ _ l _ (ah.keep yj)) λ Gq qx=> ?_;have m4:=γ yj qx;refine aa (jg Z Z)<|aC<| ?_;refine J9 Z (λ CX=> ?_) (λ CX=> ?_)
    ·refine aw<|aY Z<|bD<|b_ Z Z<| ?_;exact ⟨4,Z,⟨λ bw=>absurd bw (by decide),λ bw=>absurd bw (λ bw=>by have:=(VR.1 bw).2.2.2.2;omega)⟩,m4⟩
    ·refine bm<|aw<|aY Z<|b_ Z Z<| ?_;exact ⟨0,Z,⟨λ _=>VR.2 ⟨KY,TQ,KX,λ j ay=>aN j (by omega),by omega⟩,λ _=>Z⟩,m4⟩
end
section
variable {k m i f:Nat} {l:List Nat}
open Go.Proofs.YtmeeljmapailnaaGreat.fL
theorem apQ (m:Nat) (hm:m<4294967296) (A:Option Addr) (c:Nat) (l:List Nat) (n:Nat) (w:World) (ah:eR.rep.aK 4 w A c l) (hn:l.length=n):Calls prog 129 #[.agg #[.int .u32 (m:Int), .slice A n c]] w (λ e w'=>e= .returned (Φ (b4.kI m l))∧Ext w w'):=by
 subst hn;exact apP m hm A c l w ah
theorem aLe (m:Nat) (k:Int):((decide (0≤k) && decide (k<16)) && (xb m k.toNat == 1))=b4.IK m k:=by
 unfold b4.IK xb;rw [Bool.and_assoc];cases m.testBit k.toNat<;>rfl
theorem VP {a:Nat}:xb a k=1↔a.testBit k=true:=by unfold xb;cases a.testBit k<;>simp
theorem aLf {a b:Bool} (h:((!a) || (!b))=false):a=true∧b=true:=by cases a<;>cases b<;>simp_all
theorem apO {k:Int} (h:b4.IK m k=true):0≤k∧k<16:=by
 unfold b4.IK at h;simp only [aYl,aYB] at h;exact ⟨h.1,h.2.1⟩
theorem aLk (k:Nat) (l:List Nat):b4.part k l 0=l:=rfl
theorem apR (h:i<l.length):(b4.part k l i)[i]? =some (l.getD i 0):=by rw [b4.aHt k l i h,l2 h]
theorem aLj (h:i<l.length):(b4.part k l i).set i (b4.diff (l.getD i 0) (2 ^ k))=b4.part k l (i+1):=by rw [← b4.acJ k l i h,l2 h];rfl
theorem apN (ah:l.length=16) (h:0≤b4.kI m l):b4.sx (b4.we l (b4.kI m l).toNat)<b4.sx l:=by
 obtain ⟨k,e,ak,τ⟩:=b4.aql h;rw [e,aY2];exact b4.aFs ah ak τ
theorem aLm {C:Nat×List Nat} (ah:l.length=16) (κ:b4.sx l≤f) (τ:b4.zJ f m l=C) (h:0≤b4.kI m l):∃ f,b4.sx (b4.we l (b4.kI m l).toNat)≤f∧b4.zJ f (b4.diff m (2 ^ (b4.kI m l).toNat)) (b4.we l (b4.kI m l).toNat)=C:=by
 have au:=apN ah h;obtain ⟨f,rfl⟩:∃ k,f=k+1:=⟨f - 1,by omega⟩;rw [b4.zJ,aYq h] at τ;exact ⟨f,by omega,τ⟩
theorem aLl (h:¬ 0≤b4.kI m l):b4.zJ f m l=(m,l):=by
 cases f with
 | zero=>rfl
 | succ f=>rw [b4.zJ,aYi h]
def Hv (m:Nat) (l:List Nat) (p q:Int):Prop:=Nk m l∧b4.IK m p=true∧b4.IK m q=true∧p≠q∧(l.getD q.toNat 0).testBit p.toNat=false
def ET (m:Nat) (l:List Nat) (p q:Int):Nat×List Nat:=b4.zJ 16 m (l.set q.toNat (l.getD q.toNat 0 ||| 2 ^ p.toNat))
def arD (m:Nat) (l:List Nat) (p q e:Int) (m':Nat) (wa:List Nat):Prop:=(e=0∧Hv m l p q∧(m',wa)=ET m l p q)∨(e≠0∧¬ Hv m l p q∧m'=0∧wa= [])
theorem adX (m:Nat) (hm:m<4294967296) (A:Option Addr) (n c:Nat) (k:Int) (w:World):
  Calls prog 132 #[.agg #[.int .u32 (m:Int), .slice A n c],Φ k] w (λ e w'=>e= .returned (.bool (b4.IK m k))∧Ext w w'):=by
 refine ch (n:=19) func132 Z Z Z ?_;refine dZ Z Z λ cG bB aR d' ae=> ?_;refine aJ Z<|aB Z<|aa (jg Z Z)<|vm Z<|ec Z Z<|bh Z (λ hc=>blt (gt hc Z) Z)<|aa (ei Z Z Z Z)<|vm Z<|bh Z (λ hc=>aj xn Z)<|bh Z (λ hc=>ax (gt hc Z) (ae.one r4 Z))<|ec Z Z<|bh Z (λ hc=>Gm (m:=k.toNat) (gt hc Z) (gt hc Z) (by (try simp only [aYl,aYB,aZf,bb7] at hc);omega) (by (try simp only [aYl,aYB,aZf,bb7] at hc);omega))<|bh Z (λ hc=>LZ (a:=m) (gt hc Z) Z hm)<|bh Z (λ hc=>beq (gt hc Z) Z)<|aa (ei Z Z Z Z)<|aY Z<|b_ Z Z<| ?_;exact ⟨by rw [← aLe];rfl,aR⟩
theorem aLb (aA:Nat) (g:Nat) (m:Nat) (hm:m<4294967296) (A:Option Addr) (n c:Nat) (l:List Nat) (k:Int) (ak:0≤k∧k<16) (w:World) (aI:aM w g [.int .u32 (m:Int), .slice A n c] 38 (0,0)) (bq:eR.rep.aF 35 4 w aA (J.ab A) A c l) (hn:l.length=n) (aCQ:l.length=16) (hd:∀ q∈J.ab A,q=g→False):
  Calls prog 133 #[.pointer (bA g),Φ k] w (λ e w'=>e= .returned (.tuple #[])∧aM w' g [.int .u32 ((b4.diff m (2 ^ k.toNat):Nat):Int), .slice A n c] 38 (0,0)∧eR.rep.aF 35 4 w' aA (J.ab A) A c (b4.we l k.toNat)∧Mod (g::J.ab A) w w'):=by
 refine ch (n:=40) func133 Z Z Z ?_;refine av<| ?_;refine cO [(3,0),(9,3)] [0,1,2,3,4,5,6,7,8,9] ?_;refine a1 Z Z<|aq Z (λ _=>bx Z)<|aq Z (λ _=>aj xn Z)<|cf Z Z aI r4 Z<|a1 Z Z<|aq Z (λ _=>VS (m:=k.toNat) Z Z (by omega) (by omega))<|aq Z (λ _=>VQ Z Z)<|aq Z (λ _=>bx Z)<|aq Z (λ _=>aj xn Z)<|dE Z Z Z λ cG dS Q hK=>dU Z Z (aI.later dS) Z xm Z Z λ ap7 Bl aI=>hK _ _ ?_;have de:=(Mod.cH (g::J.ab A) w).trans (Mod.a8 dS);have QO:=de.md Bl lr;refine fn λ eC dm=> ?_;have bO:=QO.trans (Mod.a8 dm);refine aX<|aB Z<|aa (bx Z)<|aa (aj xo Z)<| ?_;have aI:=aI.later dm;refine bk Z aI AT Z<|vm Z<| ?_;have bq:=((bq.later dS).mod Bl (bl hd)).later dm;refine aa (cl k.toNat underlying36 xm Z Z (bq.has.bT (aV k.toNat)) (by omega) (by omega))<|so (q':=0) (j:=0) (i:=k.toNat) bq J.dQ (dt (l:=l) (u:=0) (by omega)) Z Z Z Z (λ _ cs h=>by have rz:=(show _∧_ from h).2;obtain rfl:=Fm h;exact ⟨rfl,(show (0:Nat)<4294967296 by decide)⟩) Z Z xm λ wC Ld He=> ?_;have k2:=bO.md Ld (λ q I=> .inl (aYm _ I));refine aC<|aB Z<|aa (bx Z)<|aa (aj xo Z)<| ?_;have aI:=aI.mod Ld (λ I=>hd _ I rfl);refine bk Z aI AT Z<|aa (b5 underlying36 Z)<|vm Z<|aC<|bJ<| ?_;have aa5:((l).set k.toNat 0).length=16:=by rw [aYn];exact aCQ
 obtain ⟨PA,bc⟩:∃ PA,PA=((l).set k.toNat 0):=⟨_,rfl⟩;rw [← bc] at aa5 He;refine eV (λ cp cn aP=>∃ i:Nat,cn= [(0, .pointer (bA g)),(1,Φ k),(24,Φ (n:Int)),(25,Φ (i:Int))]∧cp=n - i∧Mod (g::J.ab A) w aP∧aM aP g [.int .u32 (((b4.diff m (2 ^ k.toNat):Nat):Int)), .slice A n c] 38 (0,0)∧eR.rep.aF 35 4 aP aA (J.ab A) A c (b4.part k.toNat PA i)∧(i≤n)∧((b4.part k.toNat PA i).length=16)∧(∀ q∈J.ab A,q=g→False)) _ _ ⟨0,Z,Z,k2,aI,(by rw [aLk];exact He),by omega,by rw [b4.acI];exact aa5,hd⟩ (eO Z Z Z) ?_;rintro tK afm Gq ⟨i,rfl,rfl,m4,aI,jb,hi,aR5,vP⟩;refine aw<|dR Z Z<|aC<|av<| ?_;refine en Z (λ vV=> ?_) (λ vV=> ?_)
 ·refine bm<|av<|bJ<|aB Z<|aJ Z<| ?_;refine cO [(3,0),(6,0),(11,3)] [0,1,2,3,4,5,6,7,8,9,10,11] ?_;refine a1 Z Z<|aq Z (λ _=>bx Z)<|aq Z (λ _=>aj xo Z)<|cf Z Z aI AT Z<|a1 Z Z<|aq Z (λ _=>cl i underlying36 xm Z Z (jb.has.bT (aV i)) Z (by omega))<|dT Z (λ _ x=>ax Z (J.aK.fh Fm ((jb.later x).has.cD (aV i)) (apR (by omega)) Z r4))<|a1 Z Z<|aq Z (λ _=>VS (m:=k.toNat) Z Z (by omega) (by omega))<|aq Z (λ _=>VQ Z Z)<|aq Z (λ _=>cl i underlying36 xm Z Z (jb.has.bT (aV i)) Z (by omega))<|dE Z Z Z λ ua fp Q hK=>so (q':=b4.diff (PA.getD i 0) (2 ^ k.toNat)) (j:=0) (i:=i) (jb.later fp) J.dQ (apR (by omega)) Z Z Z Z (λ _ cs h=>by have rz:=(show _∧_ from h).2;obtain rfl:=Fm h;exact ⟨rfl,b4.NL _ _⟩) Z Z xm λ DK kG wY=>hK _ _ ?_;have kM:=m4.trans (Mod.a8 fp);have rM:=kM.md kG (λ q I=> .inl (aYm _ I));refine fn λ zV il=> ?_;have mG:=rM.trans (Mod.a8 il);refine b1<|eM Z Z Z<| ?_;have aI:=((aI.later fp).mod kG (λ I=>vP _ I rfl)).later il;have wY:=wY.later il;exact eJ ⟨i+1,Z,Z,mG,aI,(by rw [← aLj (by omega)];exact wY),by omega,by rw [b4.acI];exact aa5,vP⟩
 ·refine dn<|dk<|dG<|dj<|ne<|cz .nil<| ?_;obtain rfl:i=16:=by omega
  exact ⟨Z,aI,by unfold b4.we;rw [← bc];exact jb,m4⟩
theorem aK8 (m:Nat) (hm:m<4294967296) (A:Option Addr) (c:Nat) (l:List Nat) (p iW:Int) (w:World) (ah:eR.rep.aK 4 w A c l):
  Calls prog 99 #[.agg #[.int .u32 (m:Int), .slice A l.length c],Φ p,Φ iW] w (λ e w'=>∃ (e':Int) (m':Nat) (bQ:Option Addr) (cc:Nat) (wa:List Nat) (b:Bool),e= .returned (.tuple #[.agg #[.int .u32 (m':Int), .slice bQ wa.length cc], .bool b,Φ e'])∧arD m l p iW e' m' wa∧eR.rep.aF 35 4 w' w.heap.size (J.ab bQ) bQ cc wa∧Ext w w'):=by
 refine ch (n:=71) func99 Z Z Z ?_;refine dZ Z Z λ cG bB aR d' ae=> ?_;have hE:=ae.lt;refine cU SR Z λ eC cJ bt hP ar=> ?_;have bO:=γ aR bt;have mB:=ar.lt;refine va Z<|aJ Z<|aw<| ?_;have ae:=ae.later bt;refine aa (ax Z (ae.all p7 lI))<|ca ah9 Z Z ((apL m hm _ _ l _ (ah.keep bO)).mono ?_);rintro e wD ⟨yy,rfl,OA,cr⟩;refine cu ?_;have:=cr.size;have jq:=γ bO cr;refine aJ Z<|av<|bJ<|aB Z<|cS Z Z<|aJ Z<| ?_;refine eU Z (λ mR=> ?_) (λ mR=> ?_)
 ·refine fu<|b1<|aX<|av<|aB Z<|cS Z Z<|aC<| ?_;refine eU Z (λ CX=> ?_) (λ CX=> ?_)
  ·refine aw<|aa (v:= .agg #[.int .u32 0, .slice none 0 0]) (eu Z)<|vm Z<| ?_;have ar:=ar.later cr;refine cF Z Z ar Z lI Z Z λ zT tM ar=> ?_;have k3:=Ext.mod jq tM bo;refine va Z<|aY Z<|bD<|cz (.cell Z (ar.all p7 lI) (.tmp Z (.tmp Z .nil)))<| ?_;exact ⟨yy,0,none,0, [],false,Z, .inr ⟨(by simpa using mR),(λ bw=>(show ¬ yy=0 by simpa using mR) (OA.2 bw.1)),Z,Z⟩,J.aF.nil _,k3⟩
  ·exfalso;omega
 ·have ajC:=OA.1 (by simpa using mR);have KX:=ajC.1;refine aw<| ?_;have ae:=ae.later cr;refine aa (ax Z (ae.all p7 lI))<|vm Z<|cM Y1 Z (adX m hm A l.length c p _) λ rF cX=> ?_;have:=cX.size;have iA:=γ jq cX;refine aa (dJ Z)<|vm Z<| ?_;have ae:=ae.later cX;refine bh Z (λ hc=>ax Z (ae.all p7 lI))<|ec Z Z<|sB Z Y1 (λ hc=>gp (gt hc Z) (gp (gt hc Z) Z)) (λ hc=>adX m hm A l.length c iW _) λ zU j5=> ?_;have:=j5.size;have k4:=γ iA j5;refine bh Z (λ hc=>dJ (gt hc Z))<|aa (eW Z Z Z Z)<|aJ Z<| ?_;refine du Z (λ Tw=> ?_) (λ Tw=> ?_)
  ·refine rg<|va Z<|nl<|b1<|aX<|av<|aB Z<|cS Z Z<|aC<|eT Z<|aw<|aa (v:= .agg #[.int .u32 0, .slice none 0 0]) (eu Z)<|vm Z<| ?_;have ar:=ar.later (γ cr (γ cX j5));refine cF Z Z ar Z lI Z Z λ zV mV ar=> ?_;have mG:=Ext.mod k4 mV bo;refine va Z<|aY Z<|bD<|cz (.cell Z (ar.all p7 lI) (.tmp Z (.tmp Z .nil)))<| ?_;exact ⟨7,0,none,0, [],false,Z, .inr ⟨(by decide),(λ bw=>by rw [bw.2.1,bw.2.2.1] at Tw;cases Tw),Z,Z⟩,J.aF.nil _,mG⟩
  ·obtain ⟨akW,akX⟩:=aLf Tw;have aSs:=apO akW;have aSx:=apO akX;refine aB Z<|vm Z<|aa (beq Z Z)<|aJ Z<| ?_;refine iE Z (λ y7=> ?_) (λ y7=> ?_)
   ·refine rg<|va Z<|nl<|b1<|aX<|av<|aB Z<|cS Z Z<|aC<|eT Z<|aw<|aa (v:= .agg #[.int .u32 0, .slice none 0 0]) (eu Z)<|vm Z<| ?_;have ar:=ar.later (γ cr (γ cX j5));refine cF Z Z ar Z lI Z Z λ vk oS ar=> ?_;have jr:=Ext.mod k4 oS bo;refine va Z<|aY Z<|bD<|cz (.cell Z (ar.all p7 lI) (.tmp Z (.tmp Z .nil)))<| ?_;exact ⟨1,0,none,0, [],false,Z, .inr ⟨(by decide),(λ bw=>bw.2.2.2.1 (by omega)),Z,Z⟩,J.aF.nil _,jr⟩
   ·have aDd:p≠iW:=by omega
    refine aw<|aa (aj xo Z)<| ?_;have ae:=ae.later j5;refine bk Z ae AT Z<|vm Z<|aa (cl iW.toNat underlying36 xm Z Z ((ah.keep k4).bT (aV iW.toNat)) (by omega) (by omega))<|aa (ax Z (J.aK.fh Fm ((ah.keep k4).cD (aV iW.toNat)) (dt (l:=l) (u:=0) (by omega)) Z r4))<|vm Z<|aa (Gm (m:=p.toNat) Z Z (by omega) (by omega))<|aa (LZ (a:=(l.getD iW.toNat 0)) Z Z (eR.oD ah _ (jk (by omega))))<|aa (beq Z Z)<|aJ Z<| ?_;refine iE Z (λ aan=> ?_) (λ aan=> ?_)
    ·refine rg<|va Z<|nl<|b1<|aX<|av<|aB Z<|cS Z Z<|aC<|eT Z<|aw<|aa (v:= .agg #[.int .u32 0, .slice none 0 0]) (eu Z)<|vm Z<| ?_;have ar:=ar.later (γ cr (γ cX j5));refine cF Z Z ar Z lI Z Z λ L3 II ar=> ?_;have wO:=Ext.mod k4 II bo;refine va Z<|aY Z<|bD<|cz (.cell Z (ar.all p7 lI) (.tmp Z (.tmp Z .nil)))<| ?_;exact ⟨8,0,none,0, [],false,Z, .inr ⟨(by decide),(λ bw=>by have xv:=VP.1 aan;rw [bw.2.2.2.2] at xv;cases xv),Z,Z⟩,J.aF.nil _,wO⟩
    ·have KO:(l.getD iW.toNat 0).testBit p.toNat=false:=by simpa using mt VP.2 aan
     have aSw:iW.toNat<l.length:=by omega
     refine fu<|b1<|aX<|av<|aB Z<|cS Z Z<|aC<| ?_;refine eU Z (λ Oo=> ?_) (λ Oo=> ?_)
     ·exfalso;omega
     ·refine bm<|aw<|aa (aj xo Z)<|bk Z ae AT Z<|ca aia Z Z ((agT _ _ l _ (ah.keep k4)).mono ?_);rintro e wI ⟨BP,Yh,rfl,Ex,aSh,fv⟩;refine cu ?_;have kt:=γ k4 fv;have Ix:=dx Ex.lt;refine aa (aj xo Z)<| ?_;have ae:=ae.later fv;refine dU Z Z ae Z aib Z Z λ DM xQ ae=> ?_;have pR:=Ext.mod kt xQ bo;refine aC<|av<| ?_;refine cO [(1,0),(4,0),(9,3)] [0,1,2,3,4,5,6,7,8,9] ?_;refine aq Z (λ _=>aj xo Z)<|cf Z Z ae AT Z<|a1 Z Z<| ?_;have Ex:=Ex.mod xQ (bz Ix);refine aq Z (λ _=>cl iW.toNat underlying36 xm Z Z (Ex.has.bT (aV iW.toNat)) (by omega) (by omega))<|dT Z (λ _ x=>ax Z (J.aK.fh Fm ((Ex.later x).has.cD (aV iW.toNat)) (dt (l:=l) (u:=0) (by omega)) Z r4))<|a1 Z Z<|aq Z (λ _=>VS (m:=p.toNat) Z Z (by omega) (by omega))<|aq Z (λ _=>aLh Z Z (eR.oD ah _ (jk (by omega))) (b4.PT (by omega)))<|aq Z (λ _=>cl iW.toNat underlying36 xm Z Z (Ex.has.bT (aV iW.toNat)) (by omega) (by omega))<|dE Z Z Z λ ue fq Q hK=>so (q':=(l.getD iW.toNat 0) ||| (2 ^ p.toNat)) (j:=0) (i:=iW.toNat) (Ex.later fq) J.dQ (dt (l:=l) (u:=0) (by omega)) Z Z Z Z (λ _ cs h=>by have rz:=(show _∧_ from h).2;obtain rfl:=Fm h;exact ⟨rfl,(b4.aFV (eR.oD ah _ (jk (by omega))) (b4.PT (by omega)))⟩) Z Z xm λ V2 zx J0=>hK _ _ ?_;have j7:=γ pR fq;have D6:=Ext.mod j7 zx (λ q I=>aYF (by omega) ((Ex.later fq).lt q I).1);refine fn λ Jf hk=> ?_;have qC:=γ D6 hk;refine aX<|av<|aw<| ?_;have ae:=ae.later fq;have ahw:∀ q∈J.ab BP,q=bB→False:=λ q I ag=>by (have:=Ix q I;omega)
      have ae:=(ae.mod zx (λ I=>ahw _ I rfl)).later hk;refine aa (ax Z (ae.all p7 lI))<| ?_;have J0:=J0.later hk;refine cM Y0 Z (apQ m hm _ _ ((l).set iW.toNat ((l.getD iW.toNat 0) ||| (2 ^ p.toNat))) _ _ J0.has (by first | omega | (rw [aYn]) | (rw [b4.abR _ _ vZ];omega))) λ V3 i'=> ?_;have yo:=γ qC i';refine aJ Z<|bJ<| ?_;have J0:=J0.later i';have ae:=ae.later i';have akK:((l).set iW.toNat ((l.getD iW.toNat 0) ||| (2 ^ p.toNat))).length=16:=by rw [aYn];exact KX
      have ar:=((ar.later (γ cr (γ cX (γ j5 fv)))).mod xQ aO).later fq;have aw0:∀ q∈J.ab BP,q=cJ→False:=λ q I ag=>by (have:=Ix q I;omega)
      have ar:=(ar.mod zx (λ I=>aw0 _ I rfl)).later (γ hk i');refine eV (λ cp cn aP=>∃ mk:Nat,∃ lk:List eR,cn= [(2,Φ iW),(3, .pointer (bA bB)),(6, .pointer (bA cJ)),(7, .bool false),(8,Φ 0),(10,Φ (b4.kI mk lk))]∧cp=b4.sx lk∧Ext w aP∧aM aP cJ [.int .u32 0, .slice none 0 0] 38 (0,0)∧aM aP bB [.int .u32 (mk:Int), .slice BP ((l).length) Yh] 38 (0,0)∧eR.rep.aF 35 4 aP zU.heap.size (J.ab BP) BP Yh (lk)∧(mk<4294967296)∧(lk.length=16)∧(∃ f,b4.sx lk≤f∧b4.zJ f mk lk=b4.zJ 16 m (l.set iW.toNat (l.getD iW.toNat 0 ||| 2 ^ p.toNat)))∧(∀ q∈J.ab BP,q=cJ→False)∧(∀ q∈J.ab BP,q=bB→False)) _ _ ⟨m,(l).set iW.toNat ((l.getD iW.toNat 0) ||| (2 ^ p.toNat)),Z,Z,yo,ar,ae,J0,hm,akK,⟨16,by have:=b4.aGQ ((l).set iW.toNat ((l.getD iW.toNat 0) ||| (2 ^ p.toNat)));omega,rfl⟩,(λ q I ag=>by (have:=Ix q I;omega)),ahw⟩ (qp Z) ?_;rintro Ds aOn Mb ⟨mk,lk,rfl,rfl,vy,ar,cC,jb,akC,vZ,gq,YD,ahx⟩;refine av<|aB Z<|aa (jg Z Z)<|aC<| ?_;refine J9 Z (λ q2=> ?_) (λ q2=> ?_)
      ·obtain ⟨kw,aQO,aRQ,aRR⟩:=b4.aql (m:=mk) (l:=lk) (by omega);have aDN:0≤b4.kI mk lk∧b4.kI mk lk<16:=by omega
       refine bm<|av<|bJ<|rg<|vm Z<|ca ayx Z Z ((aLb _ bB mk akC _ _ _ lk (b4.kI mk lk) aDN _ cC jb (by omega) (by omega) ahx).mono ?_);rintro e Qt ⟨rfl,Q8,RM,zz⟩;refine cu ?_;have YE:∀ q∈(bB::J.ab BP),q=cJ→False:=λ q I ag=>(aYk.1 I).elim (λ h=>by omega) (λ h=>by (exact YD q h ag));have yr:=Ext.mod vy zz (λ q I=>(aYk.1 I).elim (λ h=>by omega) (λ h=>by have:=(jb.lt q h).1;omega));refine nl<|b1<|aX<|rg<|aa (ax Z (Q8.all p7 lI))<|cM Y0 Z (apQ (b4.diff mk (2 ^ (b4.kI mk lk).toNat)) (b4.NL _ _) _ _ (b4.we lk (b4.kI mk lk).toNat) _ _ RM.has (by first | omega | (rw [aYn]) | (rw [b4.abR _ _ vZ];omega))) λ aqb D1=> ?_;have Jz:=γ yr D1;refine va Z<|nl<| ?_;have ar:=(ar.mod zz (λ I=>YE _ I rfl)).later D1;have Q8:=Q8.later D1;have RM:=RM.later D1;exact om _ _ ⟨b4.diff mk (2 ^ (b4.kI mk lk).toNat),b4.we lk (b4.kI mk lk).toNat,Z,Z,Jz,ar,Q8,RM,b4.NL _ _,b4.abR _ _ vZ,(by obtain ⟨f,aaN,OI⟩:=gq;exact aLm vZ aaN OI (by omega)),YD,ahx⟩ (apN vZ (by omega)) (eO Z Z Z)
      ·have aDO:¬ 0≤b4.kI mk lk:=by omega
       refine dn<|dk<|dG<|dj<|aX<|av<| ?_;refine cO [(0,0),(1,0),(3,0),(5,3)] [0,1,2,3,4,5,6,7] ?_;refine dT Z (λ _ x=>ax Z ((cC.later x).all p7 lI))<|dT Z (λ _ x=>ax Z ((cC.later x).all p7 lI))<|a1 Z Z<|qW Z Z Y1 Z (λ _ x=>adX mk akC BP ((l).length) Yh iW _) Z<|aq Z (λ _=>dJ Z)<|dE Z Z Z λ V8 hY Q hK=>cF Z Z (ar.later hY) Z lI Z Z λ Ji mX ar=>hK _ _ ?_;have D':=γ vy hY;have sL:=Ext.mod D' mX bo;refine aq Z (λ _=>ee Z)<|aq Z (λ _=>ee Z)<|fn λ Mf jn=> ?_;have rS:=γ sL jn;refine aX<|rt<| ?_;have ar:=ar.later jn;refine cz (.cell Z (ar.all p7 lI) (.tmp Z (.tmp Z .nil)))<| ?_;have jb:=((jb.later hY).mod mX (bl YD)).later jn;exact ⟨0,mk,_,_,lk,_,by rw [show lk.length=l.length from by omega];rfl, .inl ⟨rfl,⟨ajC,akW,akX,aDd,KO⟩,(by obtain ⟨f,_,OI⟩:=gq;unfold ET;rw [← OI,aLl aDO])⟩,jb.down (by omega),rS⟩
end
section
theorem asH:ez prog qs 30 48 24:=ez.ki (z:= .slice none 0 0) (k:=1) underlying30 abz rfl rfl (by decide) (λ j u h=>ac2 j u h)
theorem asI:ez prog bS.rep 34 163 40:=ez.ki (z:=bS.zero) (k:=3) underlying34 bS.info rfl rfl (by decide) bS.j8
open Go.Proofs.YtmeeljmapailnaaGreat.fL
structure m6 where
 a:ai.b7
 A:Option Addr
 c:Nat
 T:List iC
 B:Option Addr
 d:Nat
 U:List bS
 C:Option Addr
 e:Nat
structure cY where
 W:ai
 L:List (List aQ)
 S:List cT
 hC:Nat
 V:List Nat
 kj:Int
def cY.cells (h:m6) (x:cY):List Value:= [Φ x.W.field.wide,Φ x.W.field.high, .slice h.a.P x.W.field.a_.length h.a.p, .slice h.a.B x.W.bf.length h.a.b, .slice h.a.S x.W.bE.length h.a.s, .slice h.a.M x.W.bX.length h.a.m, .slice h.a.T x.W.ao.length h.a.t,Φ x.W.next,Φ x.W.now, .slice h.A h.T.length h.c, .slice h.B h.U.length h.d, .int .u32 (x.hC:Int), .slice h.C x.V.length h.e,Φ x.kj]
structure cY.Has (w:World) (h:m6) (x:cY):Prop where
 W:ai.Has w h.a x.W
 T:qs.aK 24 w h.A h.c h.T
 L:oA w h.T x.L
 U:bS.rep.aK 40 w h.B h.d h.U
 S:qL w h.U x.S
 V:eR.rep.aK 4 w h.C h.e x.V
 m:x.hC<4294967296
structure fk (w:World) (aA:Nat) (h:m6) (x:cY):Prop where
 W:bH w aA h.a x.W
 T:qs.aF 48 24 w aA (J.ab h.A) h.A h.c h.T
 L:ju w aA h.T x.L
 U:bS.rep.aF 163 40 w aA (J.ab h.B) h.B h.d h.U
 S:iD w aA h.U x.S
 V:eR.rep.aF 35 4 w aA (J.ab h.C) h.C h.e x.V
 m:x.hC<4294967296
def fk.cR (h:m6):List Nat:=bH.cR h.a++J.ab h.A++mD h.T++J.ab h.B++gS h.U++J.ab h.C
section
variable {w w':World} {aA Z':Nat} {h:m6} {x:cY}
theorem cY.Has.keep (k:cY.Has w h x) (b:Ext w w'):cY.Has w' h x:=⟨k.W.keep b,k.T.keep b,k.L.keep b,k.U.keep b,k.S.keep b,k.V.keep b,k.m⟩
theorem fk.has (k:fk w aA h x):cY.Has w h x:=⟨k.W.has,k.T.has,k.L.apj,k.U.has,k.S.zN,k.V.has,k.m⟩
theorem fk.later (k:fk w aA h x) (b:Ext w w'):fk w' aA h x:=⟨k.W.later b,k.T.later b,k.L.later b,k.U.later b,k.S.later b,k.V.later b,k.m⟩
theorem fk.down (k:fk w aA h x) (b:Z'≤aA):fk w Z' h x:=⟨k.W.down b,k.T.down b,k.L.down b,k.U.down b,k.S.down b,k.V.down b,k.m⟩
theorem fk.mod {B:List Nat} (k:fk w aA h x) (m:Mod B w w') (hd:∀ q∈fk.cR h,q∉B):fk w' aA h x :=
 ⟨k.W.mod m λ q I=>hd q (by unfold fk.cR;simp [I]),k.T.mod m λ q I=>hd q (by unfold fk.cR;simp [I]),k.L.mod m λ q I=>hd q (by unfold fk.cR;simp [I]),k.U.mod m λ q I=>hd q (by unfold fk.cR;simp [I]),k.S.mod m λ q I=>hd q (by unfold fk.cR;simp [I]),k.V.mod m λ q I=>hd q (by unfold fk.cR;simp [I]),k.m⟩
theorem fk.lt (k:fk w aA h x):∀ q∈fk.cR h,aA≤q∧q<w.heap.size:=λ q I=>by
 unfold fk.cR at I;simp only [aYo] at I;rcases I with ((((I | I) | I) | I) | I) | I
 ·exact k.W.lt q I
 ·exact k.T.lt q I
 ·exact k.L.lt q I
 ·exact k.U.lt q I
 ·exact k.S.lt q I
 ·exact k.V.lt q I
end
def G7 (x:cY):Prop:=m_ x.W x.L∧yM x.S∧Nk x.hC x.V∧(1≤x.kj∧x.kj≤100)∧x.S.length=x.W.bf.length∧x.hC / 2 ^ x.S.length=0∧∀ (i:Nat) (s:cT),x.S[i]? =some s→s.gone= !x.hC.testBit i
theorem akE (n:Int) (w:World):
  Calls prog 26 #[Φ n] w (λ e w'=>e= .returned (.bool (decide (1≤n) && decide (n≤100)))∧Ext w w'):=by
 refine ch (n:=9) func26 Z Z Z ?_;refine aw<|aJ Z<|aB Z<|aa (jg Z Z)<|vm Z<|ec Z Z<|bh Z (λ hc=>ble (gt hc Z) Z)<|aa (ei Z Z Z Z)<|aY Z<|b_ Z Z<| ?_;exact ⟨Z,(Ext.cH w)⟩
theorem aC9 (bW:m6) (Hx:cY) (w:World) (hT:cY.Has w bW Hx):
  Calls prog 51 #[.agg ((cY.cells bW Hx).toArray)] w (λ e w'=>∃ dh:m6,e= .returned (.agg (cY.cells dh Hx).toArray)∧fk w' w.heap.size dh Hx∧Ext w w'):=by
 have Ie:=hT.T.fa;have TO:=hT.T.2.2.1;have aRW:=hT.U.fa;have aRV:=hT.U.2.2.1;refine ch (n:=105) func51 Z Z Z ?_;refine dZ Z Z λ cG bB aR d' ae=> ?_;have hE:=ae.lt;refine cU CE Z λ eC cJ bt hP ar=> ?_;have bO:=γ aR bt;have mB:=ar.lt;refine aC<|aw<|aa (aj CF Z)<|aa (aj Kh Z)<|aJ Z<|av<| ?_;refine cO [(7,0),(8,2),(12,0),(13,2),(17,0),(18,2),(22,3),(25,3),(28,3)] [0,1,2,3,4,5,6,7,9,10,11,12,14,15,16,17,8,13,18,19,20,21,22,23,24,25,26,27,28] ?_;refine a1 Z Z<|a1 Z Z<|a1 Z Z<|a1 Z Z<|aq Z (λ _=>bx Z)<|aq Z (λ _=>aj r7 Z)<|aq Z (λ _=>aj y0 Z)<| ?_;have ae:=ae.later bt;refine cf Z Z ae c8 Z<|a1 Z Z<|aq Z (λ _=>bx Z)<|aq Z (λ _=>aj s8 Z)<|cf Z Z ae xq Z<|a1 Z Z<|aq Z (λ _=>bx Z)<|aq Z (λ _=>aj vU Z)<|cf Z Z ae c8 Z<|ff Z Z Z λ hG fD Q hK=>ca xp Z Z ((sZ _ _ Hx.W.field.a_ _ (hT.W.P.keep (γ bO fD))).mono ?_);rintro e wE ⟨yt,Hs,rfl,lD,aCT,fK⟩;refine ⟨_,Z,hK _ _ ⟨γ fD fK, ?_⟩⟩;have:=fD.size;have c6:=γ bO fD;have:=fK.size;have lz:=γ c6 fK;have sA:=bM lD.lt;have wg:=dx lD.lt;refine ff Z Z Z λ ua fp Q hK=>ca Zc Z Z ((Sp _ _ Hx.W.bf _ (hT.W.B.keep (γ lz fp))).mono ?_);rintro e ub ⟨yu,Ht,rfl,lF,aCU,d_⟩;refine ⟨_,Z,hK _ _ ⟨γ fp d_, ?_⟩⟩;have:=fp.size;have kM:=γ lz fp;have:=d_.size;have hH:=γ kM d_;have pJ:=bM lF.lt;have nN:=dx lF.lt;refine ff Z Z Z λ wF ho Q hK=>ca xp Z Z ((sZ _ _ Hx.W.bE _ (hT.W.S.keep (γ hH ho))).mono ?_);rintro e Jc ⟨BR,Hu,rfl,nZ,aSk,kJ⟩;refine ⟨_,Z,hK _ _ ⟨γ ho kJ, ?_⟩⟩;have:=ho.size;have mf:=γ hH ho;have:=kJ.size;have z8:=γ mf kJ;have Gj:=bM nZ.lt;have xM:=dx nZ.lt;refine aq Z (λ _=>bx Z)<|aq Z (λ _=>aj r7 Z)<|aq Z (λ _=>aj y0 Z)<| ?_;have ae:=ae.later (γ fD (γ fK (γ fp (γ d_ (γ ho kJ)))));refine dE Z Z Z λ L3 DZ Q hK=>dU Z Z (ae.later DZ) Z nH Z Z λ Qn oT ae=>hK _ _ ?_;have:=DZ.size;have wO:=γ z8 DZ;have:=oT.size;have qz:=Ext.mod wO oT bo;refine aq Z (λ _=>bx Z)<|aq Z (λ _=>aj s8 Z)<|dE Z Z Z λ Qo vt Q hK=>dU Z Z (ae.later vt) Z Zd Z Z λ L6 Dr ae=>hK _ _ ?_;have:=vt.size;have ym:=γ qz vt;have:=Dr.size;have wP:=Ext.mod ym Dr bo;refine aq Z (λ _=>bx Z)<|aq Z (λ _=>aj vU Z)<|dE Z Z Z λ ad3 o4 Q hK=>dU Z Z (ae.later o4) Z nH Z Z λ V1 oV ae=>hK _ _ ?_;have:=o4.size;have Jx:=γ wP o4;have:=oV.size;have D5:=Ext.mod Jx oV bo;refine fn λ L8 k1=> ?_;have:=k1.size;have o8:=γ D5 k1;refine aX<|av<| ?_;refine cO [(5,0),(6,2),(10,0),(11,2),(14,3),(17,3)] [0,1,2,3,4,5,7,8,9,10,6,11,12,13,14,15,16,17] ?_;refine a1 Z Z<|a1 Z Z<|a1 Z Z<|aq Z (λ _=>bx Z)<|aq Z (λ _=>aj AX Z)<| ?_;have ae:=ae.later k1;refine cf Z Z ae c8 Z<|a1 Z Z<|aq Z (λ _=>bx Z)<|aq Z (λ _=>aj ld Z)<|cf Z Z ae nb Z<|ff Z Z Z λ L9 pP Q hK=>ca xp Z Z ((sZ _ _ Hx.W.bX _ (hT.W.M.keep (γ o8 pP))).mono ?_);rintro e L' ⟨BS,Nu,rfl,n1,aSn,iN⟩;refine ⟨_,Z,hK _ _ ⟨γ pP iN, ?_⟩⟩;have:=pP.size;have D7:=γ o8 pP;have:=iN.size;have uo:=γ D7 iN;have zQ:=bM n1.lt;have FN:=dx n1.lt;refine ff Z Z Z λ Jh sH Q hK=>ca Ze Z Z ((Sq _ _ Hx.W.ao _ (hT.W.T.keep (γ uo sH))).mono ?_);rintro e DO ⟨BT,Nv,rfl,n2,aSp,lU⟩;refine ⟨_,Z,hK _ _ ⟨γ sH lU, ?_⟩⟩;have:=sH.size;have yp:=γ uo sH;have:=lU.size;have pT:=γ yp lU;have I':=bM n2.lt;have Dm:=dx n2.lt;refine aq Z (λ _=>bx Z)<|aq Z (λ _=>aj AX Z)<| ?_;have ae:=ae.later (γ pP (γ iN (γ sH lU)));refine dE Z Z Z λ V5 iO Q hK=>dU Z Z (ae.later iO) Z nH Z Z λ Qt l6 ae=>hK _ _ ?_;have:=iO.size;have D8:=γ pT iO;have:=l6.size;have yr:=Ext.mod D8 l6 bo;refine aq Z (λ _=>bx Z)<|aq Z (λ _=>aj ld Z)<|dE Z Z Z λ V7 o6 Q hK=>dU Z Z (ae.later o6) Z NY Z Z λ V9 xS ae=>hK _ _ ?_;have:=o6.size;have D_:=γ yr o6;have:=xS.size;have Ea:=Ext.mod D_ xS bo;refine fn λ Me kr=> ?_;have:=kr.size;have wR:=γ Ea kr;refine aX<|aw<|aa (aj CF Z)<|aa (aj vS Z)<| ?_;have ae:=ae.later kr;refine bk Z ae AR Z<|aa (b5 underlying30 Z)<|UB (R:=qs) (by_:=24) (B:=w.heap.size) (c:=bW.T.length) (zv:=(.slice none 0 0)) J.qa underlying30 abz Z (by decide) (λ j u h=>ac2 j u h) Z Z Z (by omega) (by omega) (by omega) λ Gn X2 Qw aTj asZ=> ?_;have:=Qw.size;have D3:=γ wR Qw;have Iv:∀ q∈J.ab (bA X2),X2≤q:=λ q I=>aZQ (aYf.1 I).symm;refine aJ Z<|av<|aw<|aa (aj CF Z)<|aa (aj vS Z)<| ?_;have ae:=ae.later Qw;refine bk Z ae AR Z<|aa (b5 underlying30 Z)<|vm Z<|aC<|bJ<| ?_;have dA:=nw (((((oT).trans (kW vt Dr)).trans (kW o4 oV)).trans (kW (γ k1 (γ pP (γ iN (γ sH (γ lU iO))))) l6)).trans (kW o6 xS)) (γ kr Qw);have ar:=(ar.later (γ fD (γ fK (γ fp (γ d_ (γ ho (γ kJ DZ))))))).mod dA aO;have lD:=(lD.later (γ fp (γ d_ (γ ho (γ kJ DZ))))).mod dA (bz wg);have lF:=(lF.later (γ ho (γ kJ DZ))).mod dA (bz nN);have nZ:=(nZ.later DZ).mod dA (bz xM);have gG:=nw ((l6).trans (kW o6 xS)) (γ kr Qw);have n1:=(n1.later (γ sH (γ lU iO))).mod gG (bz FN);have n2:=(n2.later iO).mod gG (bz Dm);refine eV (λ cp cn aP=>∃ k:Nat,∃ jc:List iC,∃ dP:Option Addr,∃ jS:Nat,cn= [(1, .pointer (bA bB)),(2, .pointer (bA cJ)),(4, .slice dP jc.length jS),(61, .slice bW.A bW.T.length bW.c),(62,Φ (bW.T.length:Int)),(63,Φ (k:Int))]∧cp=bW.T.length - k∧Ext w aP∧aM aP bB [Φ Hx.W.field.wide,Φ Hx.W.field.high, .slice yt ((Hx.W.field.a_).length) Hs, .slice yu ((Hx.W.bf).length) Ht, .slice BR ((Hx.W.bE).length) Hu, .slice BS ((Hx.W.bX).length) Nu, .slice BT ((Hx.W.ao).length) Nv,Φ Hx.W.next,Φ Hx.W.now, .slice bW.A bW.T.length bW.c, .slice bW.B bW.U.length bW.d, .int .u32 (Hx.hC:Int), .slice bW.C Hx.V.length bW.e,Φ Hx.kj] 40 (0,0)∧aM aP cJ [Φ 0,Φ 0, .slice none 0 0, .slice none 0 0, .slice none 0 0, .slice none 0 0, .slice none 0 0,Φ 0,Φ 0, .slice none 0 0, .slice none 0 0, .int .u32 0, .slice none 0 0,Φ 0] 40 (0,0)∧bu.aF 3 8 aP hG.heap.size (J.ab yt) yt Hs (Hx.W.field.a_)∧az.rep.aF 55 16 aP ua.heap.size (J.ab yu) yu Ht (Hx.W.bf)∧bu.aF 3 8 aP wF.heap.size (J.ab BR) BR Hu (Hx.W.bE)∧bu.aF 3 8 aP L9.heap.size (J.ab BS) BS Nu (Hx.W.bX)∧bj.rep.aF 57 56 aP Jh.heap.size (J.ab BT) BT Nv (Hx.W.ao)∧qs.aF 48 24 aP w.heap.size (J.ab dP) dP jS jc∧ju aP Gn.heap.size jc (Hx.L.take k)∧(k≤bW.T.length)∧(jc.length=k)∧(Gn.heap.size≤aP.heap.size)∧(∀ q∈mD jc,q∈J.ab dP→False)∧(∀ q∈J.ab dP,q=bB→False)∧(∀ q∈J.ab dP,q=cJ→False)∧(∀ q∈J.ab dP,q∈J.ab yt→False)∧(∀ q∈J.ab dP,q∈J.ab yu→False)∧(∀ q∈J.ab dP,q∈J.ab BR→False)∧(∀ q∈J.ab dP,q∈J.ab BS→False)∧(∀ q∈J.ab dP,q∈J.ab BT→False)) _ _ ⟨0, [],some ⟨X2,0,none⟩,bW.T.length,Z,Z,D3,ae,ar,lD,lF,nZ,n1,n2,asZ,(ju.nil _ _),by omega,rfl,aYg _,λ q κ τ=>by simp [gS,mD] at κ,(λ q I ag=>by (have:=Iv q I;omega)),(λ q I ag=>by (have:=Iv q I;omega)),(λ q I ag=>by (have:=Iv q I;(have:=sA q ag;omega))),(λ q I ag=>by (have:=Iv q I;(have:=pJ q ag;omega))),(λ q I ag=>by (have:=Iv q I;(have:=Gj q ag;omega))),(λ q I ag=>by (have:=Iv q I;(have:=zQ q ag;omega))),(λ q I ag=>by (have:=Iv q I;(have:=I' q ag;omega)))⟩ (eO Z Z Z) ?_;rintro IC aNV apW ⟨k,jc,dP,jS,rfl,rfl,GK,ae,ar,lD,lF,nZ,n1,n2,gM,js,ak,Ok,ali,yV,AL,Cu,NC,ND,yW,vO,Hz⟩;have:=GK.size;have aVG:=ae.lt;have aVH:=ar.lt;have DI:=bM lD.lt;have Gg:=bM lF.lt;have tW:=bM nZ.lt;have yc:=bM n1.lt;have BC:=bM n2.lt;have wA:=bM gM.lt;have Tg:∀ q∈J.ab dP,w.heap.size≤q:=λ q I=>(gM.lt q I).1;have pI:∀ q∈mD jc,q<apW.heap.size:=λ q I=>(js.lt q I).2;have zn:∀ q∈mD jc,Gn.heap.size≤q:=λ q I=>(js.lt q I).1;refine aw<|dR Z Z<|aC<|av<| ?_;refine en Z (λ aA4=> ?_) (λ aA4=> ?_)
 ·obtain ⟨gZ,ft,j2,hM,A2,hx⟩:=hT.L.at_ (k:=k) (by omega);refine bm<|av<|bJ<|aw<|aa (cl k underlying30 CD Z Z ((hT.T.keep GK).bT (aV k)) Z (by omega))<|aa (v:= .slice gZ j2.length ft) (ax Z (J.aK.fh aaA ((hT.T.keep GK).cD (aV k)) hM Z qU))<|aJ Z<|rg<|vm Z<|vm Z<|ca NR Z Z ((Nz _ _ j2 _ (hx.keep GK)).mono ?_);rintro e aXh ⟨WB,Yd,rfl,MZ,aSa,zY⟩;refine cu ?_;have:=zY.size;have aMB:=γ GK zY;have aKA:=bM MZ.lt;have amU:=dx MZ.lt;refine c7 (e:= 48) (cs:= [.slice WB ((j2).length) Yd]) Z (λ _=>by kernel_rfl) Z λ ap0 aPl ny aTt aeX=> ?_;have D4:=γ aMB ny;have aVN:=aeX.lt;have gM:=gM.later (γ zY ny);refine ap asH J.dQ gM (aM.gu (R:=qs) (by_:=24) (q:=(⟨WB,(j2).length,Yd⟩:iC)) aeX ⟨Z,trivial⟩ (by decide)) Z Z (by simp only [aYc,aYh];omega) (by simp only [aYc,aYh];omega) (by omega) Z λ ap3 aq2 avD zt as7 CQ aUN=> ?_;have:=zt.size;have QL:=Ext.mod D4 zt (λ q I=>aYF (by omega) (gM.lt q I).1);refine va Z<|nl<|b1<|eM Z Z Z<| ?_;have ae:=(ae.later (γ zY ny)).mod zt (λ I=>AL _ I rfl);have ar:=(ar.later (γ zY ny)).mod zt (λ I=>Cu _ I rfl);have lD:=(lD.later (γ zY ny)).mod zt (cQ NC);have lF:=(lF.later (γ zY ny)).mod zt (cQ ND);have nZ:=(nZ.later (γ zY ny)).mod zt (cQ yW);have n1:=(n1.later (γ zY ny)).mod zt (cQ vO);have n2:=(n2.later (γ zY ny)).mod zt (cQ Hz);have js:=(js.later (γ zY ny)).mod zt yV;have MZ:=(MZ.later ny).mod zt (λ q I h=>by exfalso;(have:=amU q I;(have:=wA q h;omega)));exact eJ ⟨k+1,jc++ [(⟨WB,(j2).length,Yd⟩:iC)],aq2,avD,Z,Z,QL,ae,ar,lD,lF,nZ,n1,n2,as7,(by rw [Gb A2];exact js.snoc (MZ.down (by omega))),by omega,by rw [aX9,Ok];rfl,by omega,λ q κ τ=>(Qf κ).elim (λ κ=>by exfalso;(exact aYC (CQ q τ) (λ alE=>by (exact yV q κ alE)) (λ alE=>by (have:=pI q κ;omega)))) (λ κ=>by exfalso;(exact aYC (CQ q τ) (λ alF=>by (have:=amU q κ;(have:=wA q alF;omega))) (λ alF=>by (have:=aKA q κ;omega)))),(fJ CQ AL),(fJ CQ Cu),(λ q I ag=>by (exact aYC (CQ q I) (λ FJ=>by (exact NC q FJ ag)) (λ FJ=>by (have:=DI q ag;have:=sA q ag;omega)))),(λ q I ag=>by (exact aYC (CQ q I) (λ alG=>by (exact ND q alG ag)) (λ alG=>by (have:=Gg q ag;have:=pJ q ag;omega)))),(λ q I ag=>by (exact aYC (CQ q I) (λ alH=>by (exact yW q alH ag)) (λ alH=>by (have:=tW q ag;have:=Gj q ag;omega)))),(λ q I ag=>by (exact aYC (CQ q I) (λ alI=>by (exact vO q alI ag)) (λ alI=>by (have:=yc q ag;have:=zQ q ag;omega)))),(λ q I ag=>by (exact aYC (CQ q I) (λ alJ=>by (exact Hz q alJ ag)) (λ alJ=>by (have:=BC q ag;have:=I' q ag;omega))))⟩
 ·have mr:k=Hx.L.length:=by rw [← hT.L.1];omega
  subst mr;rw [aYS] at js;refine dn<|dk<|dG<|dj<|aX<|aw<|aa (aj uK Z)<|bk Z ae AU Z<|aa (b5 underlying34 Z)<|UB (R:=bS.rep) (by_:=40) (B:=w.heap.size) (c:=bW.U.length) (zv:=bS.zero) J.qa underlying34 bS.info Z (by decide) bS.j8 Z Z Z (by omega) (by omega) (by omega) λ VX X4 z6 aTA ata=> ?_;have:=z6.size;have aes:=γ GK z6;have Dk:∀ q∈J.ab (bA X4),X4≤q:=λ q I=>aZQ (aYf.1 I).symm;refine aJ Z<|av<|aw<|aa (aj uK Z)<| ?_;have ae:=ae.later z6;refine bk Z ae AU Z<|aa (b5 underlying34 Z)<|vm Z<|aC<|bJ<| ?_;have ar:=ar.later z6;have lD:=lD.later z6;have lF:=lF.later z6;have nZ:=nZ.later z6;have n1:=n1.later z6;have n2:=n2.later z6;have gM:=gM.later z6;have js:=js.later z6;refine eV (λ cp cn aP=>∃ k:Nat,∃ Ay:List bS,∃ mJ:Option Addr,∃ AF:Nat,cn= [(1, .pointer (bA bB)),(2, .pointer (bA cJ)),(4, .slice dP jc.length jS),(7, .slice mJ Ay.length AF),(78, .slice bW.B bW.U.length bW.d),(79,Φ (bW.U.length:Int)),(80,Φ (k:Int))]∧cp=bW.U.length - k∧Ext w aP∧aM aP bB [Φ Hx.W.field.wide,Φ Hx.W.field.high, .slice yt ((Hx.W.field.a_).length) Hs, .slice yu ((Hx.W.bf).length) Ht, .slice BR ((Hx.W.bE).length) Hu, .slice BS ((Hx.W.bX).length) Nu, .slice BT ((Hx.W.ao).length) Nv,Φ Hx.W.next,Φ Hx.W.now, .slice bW.A bW.T.length bW.c, .slice bW.B bW.U.length bW.d, .int .u32 (Hx.hC:Int), .slice bW.C Hx.V.length bW.e,Φ Hx.kj] 40 (0,0)∧aM aP cJ [Φ 0,Φ 0, .slice none 0 0, .slice none 0 0, .slice none 0 0, .slice none 0 0, .slice none 0 0,Φ 0,Φ 0, .slice none 0 0, .slice none 0 0, .int .u32 0, .slice none 0 0,Φ 0] 40 (0,0)∧bu.aF 3 8 aP hG.heap.size (J.ab yt) yt Hs (Hx.W.field.a_)∧az.rep.aF 55 16 aP ua.heap.size (J.ab yu) yu Ht (Hx.W.bf)∧bu.aF 3 8 aP wF.heap.size (J.ab BR) BR Hu (Hx.W.bE)∧bu.aF 3 8 aP L9.heap.size (J.ab BS) BS Nu (Hx.W.bX)∧bj.rep.aF 57 56 aP Jh.heap.size (J.ab BT) BT Nv (Hx.W.ao)∧qs.aF 48 24 aP w.heap.size (J.ab dP) dP jS jc∧ju aP Gn.heap.size jc Hx.L∧bS.rep.aF 163 40 aP w.heap.size (J.ab mJ) mJ AF Ay∧fG aP VX.heap.size Ay (Hx.S.take k)∧(k≤bW.U.length)∧(Ay.length=k)∧(VX.heap.size≤aP.heap.size)∧(∀ q∈gS Ay,q∈J.ab mJ→False)∧(∀ q∈J.ab mJ,q=bB→False)∧(∀ q∈J.ab mJ,q=cJ→False)∧(∀ q∈J.ab mJ,q∈mD jc→False)∧(∀ q∈J.ab mJ,q∈J.ab yt→False)∧(∀ q∈J.ab mJ,q∈J.ab yu→False)∧(∀ q∈J.ab mJ,q∈J.ab BR→False)∧(∀ q∈J.ab mJ,q∈J.ab BS→False)∧(∀ q∈J.ab mJ,q∈J.ab BT→False)∧(∀ q∈J.ab mJ,q∈J.ab dP→False)) _ _ ⟨0, [],some ⟨X4,0,none⟩,bW.U.length,Z,Z,aes,ae,ar,lD,lF,nZ,n1,n2,gM,js,ata,(fG.nil _ _),by omega,rfl,aYg _,λ q κ τ=>by simp [gS,mD] at κ,(λ q I ag=>by (have:=Dk q I;omega)),(λ q I ag=>by (have:=Dk q I;omega)),(λ q I ag=>by (have:=Dk q I;(have:=pI q ag;omega))),(λ q I ag=>by (have:=Dk q I;(have:=DI q ag;have:=sA q ag;omega))),(λ q I ag=>by (have:=Dk q I;(have:=Gg q ag;have:=pJ q ag;omega))),(λ q I ag=>by (have:=Dk q I;(have:=tW q ag;have:=Gj q ag;omega))),(λ q I ag=>by (have:=Dk q I;(have:=yc q ag;have:=zQ q ag;omega))),(λ q I ag=>by (have:=Dk q I;(have:=BC q ag;have:=I' q ag;omega))),(λ q I ag=>by (have:=Dk q I;(have:=wA q ag;omega)))⟩ (eO Z Z Z) ?_;rintro aUq aN2 aLE ⟨k,Ay,mJ,AF,rfl,rfl,Wx,ae,ar,lD,lF,nZ,n1,n2,gM,js,rY,Cf,ak,aAW,aDM,ag0,NH,YA,ag8,ag9,aha,Sw,ahb,ahc,ahd⟩;have aVW:=ae.lt;have aVX:=ar.lt;have I8:=bM lD.lt;have Gi:=bM lF.lt;have Qi:=bM nZ.lt;have VI:=bM n1.lt;have adK:=bM n2.lt;have adL:=bM gM.lt;have VJ:=bM rY.lt;have aQ4:∀ q∈J.ab mJ,w.heap.size≤q:=λ q I=>(rY.lt q I).1;have VH:∀ q∈gS Ay,q<aLE.heap.size:=λ q I=>(Cf.lt q I).2;have Up:∀ q∈gS Ay,VX.heap.size≤q:=λ q I=>(Cf.lt q I).1;refine aw<|dR Z Z<|aC<|av<| ?_;refine en Z (λ aBc=> ?_) (λ aBc=> ?_)
  ·obtain ⟨gZ,ft,bG,hM,aAH,hx⟩:=hT.S.at_ (k:=k) (by omega);refine bm<|av<|bJ<|aw<|aa (cl k underlying34 l0 Z Z ((hT.U.keep Wx).bT (aV k)) Z (by omega))<|aa (ax Z (J.aK.iu pe ((hT.U.keep Wx).cD (aV k)) hM E3 l0))<|cU SP Z λ aLI aPx yi aTF BX=> ?_;have aez:=γ Wx yi;have aVZ:=BX.lt;refine cF Z Z BX Z l0 Z Z λ aXC wm BX=> ?_;have:=wm.size;have aqy:=Ext.mod aez wm bo;refine aC<|aw<|aa (aj s5 Z)<|bk Z BX qU Z<|ca NR Z Z ((Nz _ _ bG.waits _ (hx.keep aqy)).mono ?_);rintro e aXG ⟨WE,Yf,rfl,M3,aSd,vr⟩;refine cu ?_;have:=vr.size;have aMX:=γ aqy vr;have aKF:=bM M3.lt;have Ux:=dx M3.lt;refine aa (aj s5 Z)<| ?_;have BX:=BX.later vr;refine dU Z Z BX Z CD Z Z λ aXI uY BX=> ?_;have:=uY.size;have aMZ:=Ext.mod aMX uY bo;refine aC<|rg<|vm Z<|aa (ax Z (BX.all E3 l0))<|c7 (e:= 163) (cs:= [.slice WE ((bG.waits).length) Yf,Φ bG.late, .bool bG.gone]) Z (λ _=>by kernel_rfl) Z λ aXK aPz nS aTH ae7=> ?_;have aM1:=γ aMZ nS;have aV1:=ae7.lt;have rY:=((((rY.later yi).mod wm (bU VJ)).later vr).mod uY (bU VJ)).later nS;refine ap asI J.dQ rY (aM.gu (R:=bS.rep) (by_:=40) (q:=(⟨WE,(bG.waits).length,Yf,bG.late,bG.gone⟩:bS)) ae7 ⟨Z,(show ea bG.late from bS.oD hT.U _ (aYR hM))⟩ (by decide)) Z Z (by simp only [aYc,aYh];omega) (by simp only [aYc,aYh];omega) (by omega) Z λ aXN WL Yl wo ate y2 aU0=> ?_;have:=wo.size;have aM4:=Ext.mod aM1 wo (λ q I=>aYF (by omega) (rY.lt q I).1);refine va Z<|nl<|b1<|eM Z Z Z<| ?_;have ae:=(((((ae.later yi).mod wm aO).later vr).mod uY aO).later nS).mod wo (λ I=>NH _ I rfl);have ar:=(((((ar.later yi).mod wm aO).later vr).mod uY aO).later nS).mod wo (λ I=>YA _ I rfl);have lD:=(((((lD.later yi).mod wm (bl λ q I ag=>by have:=I8 q I;have:=sA q I;have:=DI q I;omega)).later vr).mod uY (bl λ q I ag=>by have:=I8 q I;have:=sA q I;have:=DI q I;omega)).later nS).mod wo (cQ ag9);have lF:=(((((lF.later yi).mod wm (bl λ q I ag=>by have:=Gi q I;have:=pJ q I;have:=Gg q I;omega)).later vr).mod uY (bl λ q I ag=>by have:=Gi q I;have:=pJ q I;have:=Gg q I;omega)).later nS).mod wo (cQ aha);have nZ:=(((((nZ.later yi).mod wm (bl λ q I ag=>by have:=Qi q I;have:=Gj q I;have:=tW q I;omega)).later vr).mod uY (bl λ q I ag=>by have:=Qi q I;have:=Gj q I;have:=tW q I;omega)).later nS).mod wo (cQ Sw);have n1:=(((((n1.later yi).mod wm (bl λ q I ag=>by have:=VI q I;have:=zQ q I;have:=yc q I;omega)).later vr).mod uY (bl λ q I ag=>by have:=VI q I;have:=zQ q I;have:=yc q I;omega)).later nS).mod wo (cQ ahb);have n2:=(((((n2.later yi).mod wm (bl λ q I ag=>by have:=adK q I;have:=I' q I;have:=BC q I;omega)).later vr).mod uY (bl λ q I ag=>by have:=adK q I;have:=I' q I;have:=BC q I;omega)).later nS).mod wo (cQ ahc);have gM:=(((((gM.later yi).mod wm (bl λ q I ag=>by have:=adL q I;have:=wA q I;omega)).later vr).mod uY (bl λ q I ag=>by have:=adL q I;have:=wA q I;omega)).later nS).mod wo (cQ ahd);have js:=(((((js.later yi).mod wm (bU pI)).later vr).mod uY (bU pI)).later nS).mod wo (cQ ag8);have Cf:=(((((Cf.later yi).mod wm (bU VH)).later vr).mod uY (bU VH)).later nS).mod wo ag0;have M3:=((M3.mod uY (bz Ux)).later nS).mod wo (λ q I h=>by exfalso;(have:=Ux q I;(have:=VJ q h;omega)));exact eJ ⟨k+1,Ay++ [(⟨WE,(bG.waits).length,Yf,bG.late,bG.gone⟩:bS)],WL,Yl,Z,Z,aM4,ae,ar,lD,lF,nZ,n1,n2,gM,js,ate,(by rw [Gb aAH];exact Cf.snoc (M3.down (by omega)) (λ q κ τ=>by exfalso;(have:=Ux q τ;(have:=VH q κ;omega)))),by omega,by rw [aX9,aAW];rfl,by omega,λ q κ τ=>(aoH κ).elim (λ κ=>by exfalso;(exact aYC (y2 q τ) (λ Pn=>by (exact ag0 q κ Pn)) (λ Pn=>by (have:=VH q κ;omega)))) (λ κ=>by exfalso;(exact aYC (y2 q τ) (λ Po=>by (have:=Ux q κ;(have:=VJ q Po;omega))) (λ Po=>by (have:=aKF q κ;omega)))),(fJ y2 NH),(fJ y2 YA),(hh y2 ag8 pI),(λ q I ag=>by (exact aYC (y2 q I) (λ al7=>by (exact ag9 q al7 ag)) (λ al7=>by (have:=I8 q ag;have:=sA q ag;have:=DI q ag;omega)))),(λ q I ag=>by (exact aYC (y2 q I) (λ al8=>by (exact aha q al8 ag)) (λ al8=>by (have:=Gi q ag;have:=pJ q ag;have:=Gg q ag;omega)))),(λ q I ag=>by (exact aYC (y2 q I) (λ al9=>by (exact Sw q al9 ag)) (λ al9=>by (have:=Qi q ag;have:=Gj q ag;have:=tW q ag;omega)))),(λ q I ag=>by (exact aYC (y2 q I) (λ ama=>by (exact ahb q ama ag)) (λ ama=>by (have:=VI q ag;have:=zQ q ag;have:=yc q ag;omega)))),(λ q I ag=>by (exact aYC (y2 q I) (λ amb=>by (exact ahc q amb ag)) (λ amb=>by (have:=adK q ag;have:=I' q ag;have:=BC q ag;omega)))),(λ q I ag=>by (exact aYC (y2 q I) (λ amc=>by (exact ahd q amc ag)) (λ amc=>by (have:=adL q ag;have:=wA q ag;omega))))⟩
  ·have mr:k=Hx.S.length:=by rw [← hT.S.len];omega
   subst mr;rw [aYS] at Cf;refine dn<|dk<|dG<|dj<|aX<|aB Z<|vm Z<|aa (aj CF Z)<|aa (aj vS Z)<|dU Z Z ae Z YY Z Z λ aXT xN ae=> ?_;have:=xN.size;have aNa:=Ext.mod Wx xN bo;refine aa (aj uK Z)<|dU Z Z ae Z SS Z Z λ aLL xO ae=> ?_;have:=xO.size;have Wz:=Ext.mod aNa xO bo;refine aC<|aw<|aa (aj E4 Z)<|aa (aj xo Z)<|bk Z ae AT Z<|ca aia Z Z ((agT _ _ Hx.V _ (hT.V.keep Wz)).mono ?_);rintro e aLM ⟨aqG,avg,rfl,Rq,aSe,sF⟩;refine cu ?_;have aeB:=γ Wz sF;have amW:=dx Rq.lt;refine aa (aj E4 Z)<|aa (aj xo Z)<| ?_;have ae:=ae.later sF;refine dU Z Z ae Z aib Z Z λ aXZ xP ae=> ?_;have aNd:=Ext.mod aeB xP bo;refine aC<|aw<|aa (ax Z (ae.all jz fe))<| ?_;have ar:=(((ar.mod xN aO).mod xO aO).later sF).mod xP aO;refine cF Z Z ar Z fe Z Z λ aX1 zw ar=> ?_;have aNf:=Ext.mod aNd zw bo;refine sk<|cz (.cell Z (ar.all jz fe) .nil)<| ?_;have gM:=((((gM.mod xN (bl AL)).mod xO (bl AL)).later sF).mod xP (bl AL)).mod zw (bl Cu);have rY:=((((rY.mod xN (bl NH)).mod xO (bl NH)).later sF).mod xP (bl NH)).mod zw (bl YA);have Rq:=(Rq.mod xP (bz amW)).mod zw (bz amW);have js:=((((js.mod xN (bl λ q I ag=>by have:=zn q I;omega)).mod xO (bl λ q I ag=>by have:=zn q I;omega)).later sF).mod xP (bl λ q I ag=>by have:=zn q I;omega)).mod zw (bl λ q I ag=>by have:=zn q I;omega);have Cf:=((((Cf.mod xN (bl λ q I ag=>by have:=Up q I;omega)).mod xO (bl λ q I ag=>by have:=Up q I;omega)).later sF).mod xP (bl λ q I ag=>by have:=Up q I;omega)).mod zw (bl λ q I ag=>by have:=Up q I;omega);have lD:=((((lD.mod xN (bz wg)).mod xO (bz wg)).later sF).mod xP (bz wg)).mod zw (bz wg);have lF:=((((lF.mod xN (bz nN)).mod xO (bz nN)).later sF).mod xP (bz nN)).mod zw (bz nN);have nZ:=((((nZ.mod xN (bz xM)).mod xO (bz xM)).later sF).mod xP (bz xM)).mod zw (bz xM);have n1:=((((n1.mod xN (bz FN)).mod xO (bz FN)).later sF).mod xP (bz FN)).mod zw (bz FN);have n2:=((((n2.mod xN (bz Dm)).mod xO (bz Dm)).later sF).mod xP (bz Dm)).mod zw (bz Dm);have hR:=bH.acx (aA:=w.heap.size) (lD.down (by omega)) (lF.down (by omega)) (nZ.down (by omega)) (n1.down (by omega)) (n2.down (by omega)) (λ q κ τ=>by exfalso;(have:=nN q κ;(have:=I8 q τ;have:=sA q τ;have:=DI q τ;omega))) (λ q κ τ=>by exfalso;(have:=xM q κ;(have:=I8 q τ;have:=sA q τ;have:=DI q τ;omega))) (λ q κ τ=>by exfalso;(have:=xM q κ;(have:=Gi q τ;have:=pJ q τ;have:=Gg q τ;omega))) (λ q κ τ=>by exfalso;(have:=FN q κ;(have:=I8 q τ;have:=sA q τ;have:=DI q τ;omega))) (λ q κ τ=>by exfalso;(have:=FN q κ;(have:=Gi q τ;have:=pJ q τ;have:=Gg q τ;omega))) (λ q κ τ=>by exfalso;(have:=FN q κ;(have:=Qi q τ;have:=Gj q τ;have:=tW q τ;omega))) (λ q κ τ=>by exfalso;(have:=Dm q κ;(have:=I8 q τ;have:=sA q τ;have:=DI q τ;omega))) (λ q κ τ=>by exfalso;(have:=Dm q κ;(have:=Gi q τ;have:=pJ q τ;have:=Gg q τ;omega))) (λ q κ τ=>by exfalso;(have:=Dm q κ;(have:=Qi q τ;have:=Gj q τ;have:=tW q τ;omega))) (λ q κ τ=>by exfalso;(have:=Dm q κ;(have:=VI q τ;have:=zQ q τ;have:=yc q τ;omega))) hT.W.nums;exact ⟨⟨⟨yt,yu,BR,BS,BT,Hs,Ht,Hu,Nu,Nv⟩,dP,jS,jc,mJ,AF,Ay,aqG,avg⟩,Z,⟨hR,gM.down (by omega),js.down (by omega),rY.down (by omega),Cf.LP.down (by omega),Rq.down (by omega),hT.m⟩,aNf⟩
end
section
variable {m k:Nat} {g:Bool}
open Go.Proofs.YtmeeljmapailnaaGreat.fL
theorem aBK {a b:Nat} (h:(((a:Int) != (b:Int)) || (((m / 2 ^ a:Nat):Int) != 0))=false):a=b∧m / 2 ^ a=0:=by
 simp only [aYM,bbL] at h;exact ⟨by omega,by omega⟩
theorem aBL (h:(g != (xb m k == 0))=true):¬ g= !m.testBit k:=by
 unfold xb at h;intro e;subst e;cases ag:m.testBit k<;>rw [ag] at h<;>cases h
theorem aBN (h:(g != (xb m k == 0))=false):g= !m.testBit k:=by
 unfold xb at h;cases g<;>cases ag:m.testBit k<;>rw [ag] at h<;>first | rfl | cases h
theorem aBM {S:List cT} {bG:cT} (aN:∀ (i:Nat) (s:cT),i<k→S[i]? =some s→s.gone= !m.testBit i) (hS:S[k]? =some bG) (hr:bG.gone= !m.testBit k):∀ (i:Nat) (s:cT),i<k+1→S[i]? =some s→s.gone= !m.testBit i:=λ i s hi hs=>by
 rcases aZc i k with h | h
 ·exact aN i s h hs
 ·obtain rfl:i=k:=by omega
  rw [hS] at hs;obtain rfl:=aYd hs;exact hr
theorem aBJ (bW:m6) (Hx:cY) (w:World) (hT:cY.Has w bW Hx):
  Calls prog 52 #[.agg ((cY.cells bW Hx).toArray)] w (λ e w'=>∃ e':Int,e= .returned (Φ e')∧(e'=0↔G7 Hx)∧Ext w w'):=by
 refine ch (n:=66) func52 Z Z Z ?_;refine dZ Z Z λ cG bB aR d' ae=> ?_;refine aJ Z<|av<|av<| ?_;refine cO [(1,0),(2,2),(4,0),(5,2),(7,0),(8,2)] [0,1,3,4,6,7,10,2,5,8,9] ?_;refine aq Z (λ _=>aj CF Z)<|dT Z (λ _ x=>ax Z ((ae.later x).par [Φ Hx.W.field.wide,Φ Hx.W.field.high, .slice bW.a.P Hx.W.field.a_.length bW.a.p, .slice bW.a.B Hx.W.bf.length bW.a.b, .slice bW.a.S Hx.W.bE.length bW.a.s, .slice bW.a.M Hx.W.bX.length bW.a.m, .slice bW.a.T Hx.W.ao.length bW.a.t,Φ Hx.W.next,Φ Hx.W.now, .slice bW.A bW.T.length bW.c] AS qV Z))<|aq Z (λ _=>aj uK Z)<|cf Z Z ae AU Z<|aq Z (λ _=>aj E4 Z)<|dT Z (λ _ x=>ax Z ((ae.later x).par [.int .u32 (Hx.hC:Int), .slice bW.C Hx.V.length bW.e] p7 lI Z))<|a1 Z Z<|ff Z Z Z λ eC dm Q hK=>ca ah6 Z Z ((agN bW.a Hx.W _ _ bW.T Hx.L _ (hT.W.keep (γ aR dm)) (hT.T.keep (γ aR dm)) (hT.keep (γ aR dm)).L).mono ?_);rintro e wC ⟨Q3,rfl,ajO,pL⟩;refine ⟨_,Z,hK _ _ ⟨γ dm pL, ?_⟩⟩;have bO:=γ aR dm;have k2:=γ bO pL;refine ff Z Z Z λ hG fD Q hK=>ca SQ Z Z ((Vo _ _ bW.U Hx.S _ (hT.U.keep (γ k2 fD)) (hT.keep (γ k2 fD)).S).mono ?_);rintro e t_ ⟨Q4,rfl,ajP,jo⟩;refine ⟨_,Z,hK _ _ ⟨γ fD jo, ?_⟩⟩;have c6:=γ k2 fD;have iP:=γ c6 jo;refine ff Z Z Z λ nR gb Q hK=>ca ah9 Z Z ((apL Hx.hC hT.m _ _ Hx.V _ (hT.V.keep (γ iP gb))).mono ?_);rintro e rF ⟨Q5,rfl,ajR,cX⟩;refine ⟨_,Z,hK _ _ ⟨γ gb cX, ?_⟩⟩;have eZ:=γ iP gb;have iA:=γ eZ cX;refine r9 (v:= .agg #[Φ Q3,Φ Q4,Φ Q5]) Z Z (λ _=>lH Z (by kernel_rfl)) Z<|fn λ ub d_=> ?_;have hH:=γ iA d_;refine aX<|bJ<|uW 4<|kg<|aw<|dR Z Z<|aC<|av<|eT Z<|bm<|av<|bJ<|aw<|aa (v:=Φ Q3) (Is Z Z (by kernel_rfl))<|aJ Z<|aB Z<| ?_;refine cS Z Z<|aC<| ?_;refine eU Z (λ pc=> ?_) (λ pc=> ?_)
 ·refine aB Z<|aY Z<|eb<|bD<|m0<|eb<|bD<|b_ Z Z<| ?_;exact ⟨Q3,Z,⟨λ bw=>absurd bw (by simpa using pc),λ bw=>absurd bw (λ bw=>(show ¬ Q3=0 by simpa using pc) (ajO.2 bw.1))⟩,hH⟩
 ·have q7:=ajO.1 (by simpa using pc);refine fu<|b1<|aX<|rg<|aa (qN (r:=1) Z Z (by decide) (by decide))<|vm Z<|nl<|rv<|kg<|aw<|dR Z Z<|aC<|av<|eT Z<|bm<|av<|bJ<|aw<|aa (v:=Φ Q4) (Is Z Z (by kernel_rfl))<|va Z<| ?_;refine aC<|aB Z<|cS Z Z<|aC<| ?_;refine eU Z (λ Tx=> ?_) (λ Tx=> ?_)
  ·refine aB Z<|aY Z<|eb<|bD<|m0<|eb<|bD<|b_ Z Z<| ?_;exact ⟨Q4,Z,⟨λ bw=>absurd bw (by simpa using Tx),λ bw=>absurd bw (λ bw=>(show ¬ Q4=0 by simpa using Tx) (ajP.2 bw.2.1))⟩,hH⟩
  ·have q8:=ajP.1 (by simpa using Tx);have aad:=q8.1;have Oi:=q8.2.1;have OM:=hT.S.len;refine fu<|b1<|aX<|rg<|aa (qN (r:=2) Z Z (by decide) (by decide))<|vm Z<|nl<|rv<|kg<|aw<|dR Z Z<|aC<|av<|eT Z<|bm<|av<|bJ<|aw<|aa (v:=Φ Q5) (Is Z Z (by kernel_rfl))<|va Z<| ?_;refine aC<|aB Z<|cS Z Z<|aC<| ?_;refine eU Z (λ qc=> ?_) (λ qc=> ?_)
   ·refine aB Z<|aY Z<|eb<|bD<|m0<|eb<|bD<|b_ Z Z<| ?_;exact ⟨Q5,Z,⟨λ bw=>absurd bw (by simpa using qc),λ bw=>absurd bw (λ bw=>(show ¬ Q5=0 by simpa using qc) (ajR.2 bw.2.2.1))⟩,hH⟩
   ·have gC:=ajR.1 (by simpa using qc);refine fu<|b1<|aX<|rg<|aa (qN (r:=3) Z Z (by decide) (by decide))<|vm Z<|nl<|rv<|kg<|aw<|dR Z Z<|aC<|av<|gj Z<|dn<|dk<|dG<|dj<|aX<|av<|aw<| ?_;refine aa (aj aic Z)<| ?_;have ae:=ae.later (γ dm (γ pL (γ fD (γ jo (γ gb (γ cX d_))))));refine bk Z ae aT Z<|cM aid Z (akE Hx.kj _) λ Gs nT=> ?_;have oy:=γ hH nT;refine aa (dJ Z)<|aC<| ?_;refine du Z (λ tl=> ?_) (λ tl=> ?_)
    ·simp only [bn] at tl;refine aw<|aY Z<|bD<|b_ Z Z<| ?_;exact ⟨1,Z,⟨λ bw=>absurd bw (by decide),λ bw=>absurd bw (λ bw=>by have:=bw.2.2.2.1;omega)⟩,oy⟩
    ·simp only [bn] at tl;have aa8:1≤Hx.kj∧Hx.kj≤100:=by omega
     refine bm<|av<|aw<|aa (aj uK Z)<| ?_;have ae:=ae.later nT;refine bk Z ae AU Z<|aa (b5 underlying34 Z)<|aa (aj CF Z)<|aa (aj Kh Z)<|aa (aj s8 Z)<|bk Z ae xq Z<|aa (b5 underlying25 Z)<|cS Z Z<|vm Z<|bh Z (λ hc=>aj E4 Z)<|bh Z (λ hc=>aj xn (gt hc Z))<|bh Z (λ hc=>ax (gt hc Z) (ae.one r4 Z))<|bh Z (λ hc=>aj uK Z)<|bh Z (λ hc=>ax (gt hc Z) (ae.one AU Z))<|bh Z (λ hc=>b5 underlying34 (gt hc Z))<|bh Z (λ hc=>Gm (m:=bW.U.length) (gt hc Z) (gt hc Z) Z (by omega))<|bh Z (λ hc=>bne (gt hc Z) Z)<|aa (eW Z Z Z Z)<|aC<| ?_;refine du Z (λ xz=> ?_) (λ xz=> ?_)
     ·refine aw<|aY Z<|bD<|b_ Z Z<| ?_;exact ⟨4,Z,⟨λ bw=>absurd bw (by decide),λ bw=>absurd bw (λ bw=>by rw [OM,bw.2.2.2.2.1,← bw.2.2.2.2.1,bw.2.2.2.2.2.1] at xz;simp at xz)⟩,oy⟩
     ·obtain ⟨akt,T5⟩:=aBK xz;refine bm<|av<|aw<|aa (aj uK Z)<|bk Z ae AU Z<|aa (b5 underlying34 Z)<|vm Z<|aC<|bJ<| ?_;refine eV (λ cp cn aP=>∃ k:Nat,cn= [(1, .pointer (bA bB)),(48, .slice bW.B bW.U.length bW.d),(49,Φ (bW.U.length:Int)),(50,Φ (k:Int))]∧cp=bW.U.length - k∧Ext w aP∧aM aP bB (cY.cells bW Hx) 40 (0,0)∧(k≤bW.U.length)∧(∀ (i:Nat) (s:cT),i<k→Hx.S[i]? =some s→s.gone= !Hx.hC.testBit i)) _ _ ⟨0,Z,Z,oy,ae,by omega,λ i s hi=>by omega⟩ (eO Z Z Z) ?_;rintro FU arO DL ⟨k,rfl,rfl,nz,ae,ak,aN⟩;have aWe:=ae.lt;refine aw<|dR Z Z<|aC<|av<| ?_;refine en Z (λ aao=> ?_) (λ aao=> ?_)
      ·obtain ⟨gZ,ft,bG,hM,ln,hx⟩:=hT.S.at_ (k:=k) (by omega);refine bm<|av<|bJ<|aB Z<|aa (cl k underlying34 l0 Z Z ((hT.U.keep nz).bT (aV k)) Z (by omega))<|aa (ax Z (J.aK.iu pe ((hT.U.keep nz).cD (aV k)) hM E3 l0))<|cU SP Z λ L4 aPG hq aTR WY=> ?_;have rO:=γ nz hq;refine va Z<|cF Z Z WY Z l0 Z Z λ DM xQ WY=> ?_;have pR:=Ext.mod rO xQ bo;refine aC<|av<| ?_;refine cO [(1,0),(4,0)] [0,1,2,3,4,5,6,7,8,9] ?_;refine aq Z (λ _=>aj NQ Z)<|cf Z Z WY CI Z<|aq Z (λ _=>aj E4 Z)<|aq Z (λ _=>aj xn Z)<| ?_;have ae:=(ae.later hq).mod xQ aO;refine cf Z Z ae r4 Z<|a1 Z Z<|aq Z (λ _=>Gm (m:=k) Z Z Z (by omega))<|aq Z (λ _=>LZ (a:=Hx.hC) Z Z hT.m)<|aq Z (λ _=>beq Z Z)<|aq Z (λ _=>au4 underlying4 Z Z)<|fn λ ue fq=> ?_;have j7:=γ pR fq;refine aX<| ?_;refine du Z (λ aar=> ?_) (λ aar=> ?_)
       ·refine aw<|aY Z<|eb<|bD<|m0<|eb<|bD<|b_ Z Z<| ?_;exact ⟨4,Z,⟨λ bw=>absurd bw (by decide),λ bw=>absurd bw (λ bw=>aBL aar (bw.2.2.2.2.2.2 k bG ln))⟩,j7⟩
       ·have KV:=aBN aar;refine fu<|b1<|eM Z Z Z<| ?_;have ae:=ae.later fq;exact eJ ⟨k+1,Z,Z,j7,ae,by omega,aBM aN ln KV⟩
      ·refine dn<|dk<|dG<|dj<|aX<|aw<|aY Z<|b_ Z Z<| ?_;exact ⟨0,Z,⟨λ _=>⟨q7,q8,gC,aa8,by omega,by rw [← OM];exact T5,λ i s hs=>aN i s (by have:=(aX8.1 hs).1;omega) hs⟩,λ _=>Z⟩,nz⟩
end
end Go.Proofs.YtmeeljmapailnaaGreat
