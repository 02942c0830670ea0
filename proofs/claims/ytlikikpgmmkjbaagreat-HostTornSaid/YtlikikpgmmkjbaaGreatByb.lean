import Derived.Test.YtlikikpgmmkjbaaGreatSeo
set_option linter.unusedVariables false
set_option linter.unusedSimpArgs false
set_option maxRecDepth 100000
set_option maxHeartbeats 4000000
open Go.RowKit
namespace Go.Proofs.YtlikikpgmmkjbaaGreat
open Tryz
abbrev aTV:=@Nat.div_div_eq_div_mul
abbrev aU1:=@BitVec.zero_xor
abbrev aVn:=@BitVec.getLsbD_shiftLeft
abbrev aVG:=@BitVec.getLsbD_ofNat
section
theorem anC:fh prog aN.rep 44 51 48:=fh.lF (z:=aN.zero) (k:=6) underlying44 aN.info rfl rfl (by decide) aN.iC
open Go.Proofs.YtlikikpgmmkjbaaGreat.eV
structure qT (w:World) (aC:Nat) (A:Option Addr) (c:Nat) (l:List aN):Prop where
 has:aN.rep.aI 48 w A c l
 lt:∀ q∈τ.ae A,aC≤q∧q<w.heap.size
theorem aze {A:Option Addr} {c:Nat} {l:List aN} {S:List Nat} {w w':World} (h:aN.rep.aI 48 w A c l) (m:Mod S w w') (bA:∀ q∈τ.ae A,q<w.heap.size) (hd:∀ x∈τ.ae A,x∉S):aN.rep.aI 48 w' A c l:=by
 obtain ⟨γ,ab,aw,aX,ess,bF,cb,d'⟩:=h;refine ⟨γ,ab,aw,aX,ess,bF,cb,λ aF=> ?_⟩
 ·obtain ⟨b,o,rfl,hc⟩:=d' aF;refine ⟨b,o,Z,λ j u hu=> ?_⟩;rw [← hc j u hu];have:=m.block b (bA b (aQJ.2 rfl)) (hd b (aQJ.2 rfl));simp only [World.cell?,this]
section
variable {w w':World} {aC r5:Nat} {A:Option Addr} {c:Nat} {l:List aN} {T:List bx} {S:List cq} {k i:Nat}
theorem qT.mod {B:List Nat} (h:qT w aC A c l) (m:Mod B w w') (hd:∀ x∈τ.ae A,x∉B):qT w' aC A c l :=
 ⟨aze h.has m (λ q I=>(h.lt q I).2) hd,λ q I=>⟨(h.lt q I).1,aSt (h.lt q I).2 m.size⟩⟩
theorem qT.later (h:qT w aC A c l) (x:Ext w w'):qT w' aC A c l:=h.mod (B:= []) (Mod.bD x) λ _ _ h=>by simp at h
theorem qT.of (h:aN.rep.aG 51 48 w aC (τ.ae A) A c l):qT w aC A c l:=⟨h.has,λ q I=>h.lt q I⟩
theorem ajM {lo s q:Nat} (h:q∈τ.ae (e1 A c lo s)):q∈τ.ae A:=by
 unfold e1 at h;split at h
 ·exact h
 ·cases A with
  | none=>exact h
  | some a =>
   have e:(a.add (lo * s)).block=a.block:=by unfold Addr.add;split<;>rfl
   have h:q∈ [(a.add (lo * s)).block]:=h;rw [e] at h;exact h
theorem qT.cut (h:qT w aC A c l) (aF:0<l.length):qT w aC (e1 A c 1 6) (c - 1) (l.drop 1):=by
 have hc:=h.has.1;have hs:=h.has.sub 1 l.length (by omega) (by omega);rw [aRb (by rw [aQ6];exact aQW _)] at hs;exact ⟨hs,λ q I=>h.lt q (ajM I)⟩
def hB (w:World) (aC:Nat) (T:List bx) (S:List cq):Prop:=T.map (λ v=>(v.late,v.gone))=S.map (λ s=>(s.late,s.gone))∧∀ (i:Nat) (v:bx),T[i]? =some v→∃ s:cq,S[i]? =some s∧v.n=s.waits.length∧qT w aC v.a v.c s.waits
theorem hB.len (h:hB w aC T S):T.length=S.length:=by have:=aRS List.length h.1;simpa using this
theorem hB.mod {B:List Nat} (h:hB w aC T S) (m:Mod B w w') (hd:∀ q∈eQ T,q∉B):hB w' aC T S:=⟨h.1,λ i v ar=>by
 obtain ⟨s,γ,ab,aw⟩:=h.2 i v ar;exact ⟨s,γ,ab,aw.mod m λ q I=>hd q (sC ar I)⟩⟩
theorem hB.later (h:hB w aC T S) (x:Ext w w'):hB w' aC T S:=⟨h.1,λ i v ar=>by
 obtain ⟨s,γ,ab,aw⟩:=h.2 i v ar;exact ⟨s,γ,ab,aw.later x⟩⟩
theorem hB.down (h:hB w aC T S) (bB:r5≤aC):hB w r5 T S:=⟨h.1,λ i v ar=>by
 obtain ⟨s,γ,ab,aw⟩:=h.2 i v ar;exact ⟨s,γ,ab,aw.has,λ q I=>⟨aRj bB (aw.lt q I).1,(aw.lt q I).2⟩⟩⟩
theorem hB.lt (h:hB w aC T S):∀ q∈eQ T,aC≤q∧q<w.heap.size:=λ q I=>by
 obtain ⟨i,v,ar,I⟩:=L8 I;obtain ⟨s,γ,ab,aw⟩:=h.2 i v ar;exact aw.lt q I
theorem hB.nil (w:World) (aC:Nat):hB w aC [] []:=⟨rfl,λ i v h=>by simp at h⟩
theorem eW.H2 (h:eW w aC T S):hB w aC T S:=⟨h.2.1,λ i v ar=>by
 obtain ⟨A,c,s,γ,ab,aw⟩:=h.get (k:=i) (aQM.1 ar).1;rw [ar] at γ;obtain rfl:=aQL γ;exact ⟨s,ab,Z,qT.of aw⟩⟩
theorem hB.xp (h:hB w aC T S):o' w T S:=by
 refine ⟨⟨by simp [h.len],λ i v ar=> ?_⟩,h.1⟩;rw [aQ4] at ar;cases b4:T[i]? with
 | none=>rw [b4] at ar;cases ar
 | some u =>
  rw [b4] at ar;obtain rfl:=aQL ar;obtain ⟨s,γ,ab,aw⟩:=h.2 i u b4;exact ⟨s.waits,by rw [aQ4,γ];rfl,ab,aw.has⟩
theorem hB.get (h:hB w aC T S) (av:k<T.length):∃ (A:Option Addr) (c:Nat) (s:cq),T[k]? =some ⟨A,s.waits.length,c,s.late,s.gone⟩∧S[k]? =some s∧qT w aC A c s.waits:=by
 obtain ⟨A,c,s,γ,ab,aw⟩:=h.xp.at_ av;obtain ⟨s',aX,bF,cb⟩:=h.2 k _ γ;rw [ab] at aX;obtain rfl:=aQL aX;exact ⟨A,c,s,γ,ab,cb⟩
theorem hB.set (h:hB w aC T S) {c:Nat} {s:cq} (av:k<T.length) (o:qT w aC A c s.waits):hB w aC (T.set k ⟨A,s.waits.length,c,s.late,s.gone⟩) (S.set k s):=by
 have fZ:k<S.length:=by rw [← h.len];exact av
 refine ⟨by rw [aRY,aRY,h.1],λ i v ar=> ?_⟩;by_cases lz:k=i
 ·subst lz;rw [aQ9 av] at ar;obtain rfl:=aQL ar;exact ⟨s,aQ9 fZ,Z,o⟩
 ·rw [aRf lz] at ar;obtain ⟨s',γ,ab,aw⟩:=h.2 i v ar;exact ⟨s',by rw [aRf lz];exact γ,ab,aw⟩
end
def vo (s:cq):cq:=if 0<s.waits.length then ⟨s.waits,0,s.gone⟩ else if s.gone=false then ⟨s.waits,min (s.late+1) 1000000,s.gone⟩ else s
def Aq (S:List cq) (k:Nat):List cq:=(S.take k).map vo++S.drop k
theorem axJ (S:List cq):Aq S S.length=S.map vo:=by unfold Aq;rw [aRC,List.drop_length,aRn]
theorem Qd {S:List cq} {k:Nat}:(Aq S k)[k]? =S[k]? :=by
 unfold Aq;rcases aRG k S.length with h | h
 ·rw [aQ8 (by rw [aRz,aQP];omega),aRz,aQP,aSd (by omega),aRR];simp
 ·rw [aRP (by simp;omega),aRP h]
theorem WE {S:List cq} {k:Nat} {s:cq} (h:S[k]? =some s):Aq S (k+1)=(Aq S k).set k (vo s):=by
 obtain ⟨av,rfl⟩:=aQM.1 h;unfold Aq;have e:((S.take k).map vo).length=k:=by rw [aRz,aQP];omega
 rw [aRh av,aRc,aRp,aT9 _ _ (by omega),e,aUH,aSA av];rfl
theorem aBq {S:List cq} {k:Nat} {s:cq} (h:wo S) (hs:S[k]? =some s):0≤s.late∧s.late≤1000000:=by
 have γ:=(h.2.2 k s hs).2;unfold cq.xn at γ;simp only [aQT,aR4,aRy,aRu] at γ;omega
def AL (m:Nat) (x:List cq×List aN) (i:Nat):List cq×List aN:=match x.1[i]? with
 | some s=>if 0<s.waits.length∧x.2.length<m then (x.1.set i ⟨s.waits.drop 1,s.late,s.gone⟩,x.2++ [s.waits.getD 0 default]) else x
 | none=>x
def E6 (m:Nat) (x:List cq×List aN):List cq×List aN:=(List.range x.1.length).foldl (AL m) x
def BE (m:Nat):Nat→List cq×List aN→List cq×List aN
 | 0,x=>x
 | f+1,x=>if (E6 m x).2.length=x.2.length then E6 m x else BE m f (E6 m x)
def uX (m:Nat) (S:List cq):List cq×List aN:=BE m (m+1) (S.map vo, [])
theorem aB0 {m i:Nat} {S:List cq} {out:List aN} {s:cq} (hs:S[i]? =some s) (h:¬(0<s.waits.length∧out.length<m)):AL m (S,out) i=(S,out):=by
 unfold AL;rw [show (S,out).1[i]? =some s from hs];exact aQV h
theorem aB1 {m i:Nat} {S:List cq} {out:List aN} {s:cq} (hs:S[i]? =some s) (h:0<s.waits.length∧out.length<m):AL m (S,out) i=(S.set i ⟨s.waits.drop 1,s.late,s.gone⟩,out++ [s.waits.getD 0 default]):=by
 unfold AL;rw [show (S,out).1[i]? =some s from hs];exact aQZ h
theorem ad1 (m i:Nat) (x:List cq×List aN):(List.range (i+1)).foldl (AL m) x=AL m ((List.range i).foldl (AL m) x) i:=by rw [aSo,aSD];rfl
theorem apD {m f:Nat} {x y:List cq×List aN} (aK:E6 m x=y) (h:y.2.length=x.2.length) (hf:0<f):BE m f x=y:=by
 obtain ⟨f,rfl⟩:∃ k,f=k+1:=⟨f - 1,by omega⟩;rw [BE,aK,aQZ h]
theorem apE {m f:Nat} {x y:List cq×List aN} (aK:E6 m x=y) (h:¬ y.2.length=x.2.length) (hf:0<f):BE m f x=BE m (f - 1) y:=by
 obtain ⟨f,rfl⟩:∃ k,f=k+1:=⟨f - 1,by omega⟩;rw [BE,aK,aQV h];rfl
def aca (S:List cq) (m:Int):Prop:=wo S∧1≤m∧m≤100
def amp (S:List cq) (m:Int) (e:Int) (og:List cq) (out:List aN):Prop:=(e=0∧aca S m∧(og,out)=uX m.toNat S)∨(e≠0∧¬ aca S m∧og= []∧out= [])
def IG (m:Nat) (C x:List cq×List aN) (Bv:Bool):Prop:=(Bv=true∧∃ f,m<f+x.2.length∧BE m f x=C)∨(Bv=false∧x=C)
theorem IG.next {m:Nat} {C x y:List cq×List aN} (h:IG m C x true) (aK:E6 m x=y) (hm:x.2.length≤m) (az:x.2.length≤y.2.length):IG m C y (decide (y.2.length≠x.2.length)):=by
 rcases h with ⟨_,f,γ,ab⟩ | ⟨h,_⟩
 ·by_cases he:y.2.length=x.2.length
  ·refine .inr ⟨by simp [he], ?_⟩;rw [← ab,apD aK he (by omega)]
  ·refine .inl ⟨by simp [he],f - 1,by omega, ?_⟩;rw [← ab,apE aK he (by omega)]
 ·cases h
theorem aBo {α:Type} {l:List α} {k:Nat} {a:α} (h:l[k]? =some a):l.set k a=l:=by
 obtain ⟨av,rfl⟩:=aQM.1 h;exact aSy av
theorem ajP {T:List bx} {k q:Nat} {A:Option Addr} {n c h4 bV:Nat} {l:Int} {g:Bool} (b4:T[k]? =some ⟨A,n,c,l,g⟩) (h:q∈eQ (T.set k ⟨e1 A c 1 6,h4,bV,l,g⟩)):q∈eQ T:=(L9 h).elim QX λ h=>sC b4 (ajM h)
theorem apB {m a b:Nat} {g:Bool} (h:g=decide (b≠a)) (γ:a≤b) (ab:b≤m):m+1 - b+g.toNat<m+1 - a+true.toNat:=by
 subst h;by_cases e:b=a
 ·subst e;simp
 ·simp [e];omega
theorem aBn (A:Option Addr) (c:Nat) (T:List bx) (S:List cq) (m:Int) (w:World) (b4:bx.rep.aI 40 w A c T) (hS:o' w T S):
  Calls prog 106 #[.slice A T.length c, .int .i64 m] w (λ e w'=>∃ (e':Int) (bH:Option Addr) (bV:Nat) (jH:List bx) (og:List cq) (jF:Option Addr) (co:Nat) (out:List aN),e= .returned (.tuple #[.slice bH jH.length bV, .slice jF out.length co, .int .i64 e'])∧amp S m e' og out∧bx.rep.aG 90 40 w' w.heap.size (τ.ae bH) bH bV jH∧hB w' w.heap.size jH og∧aN.rep.aG 51 48 w' w.heap.size (τ.ae jF) jF co out∧(∀ q∈τ.ae bH,q∉eQ jH)∧(∀ q∈τ.ae jF,q∉τ.ae bH∧q∉eQ jH)∧Ext w w'):=by
 have B9:=b4.d_;have PE:=b4.2.2.1;refine cd (n:=102) func106 Z Z Z ?_;refine aj<|va Z<|va Z<|va Z<|ai<|aB<|aj<|vm Z<|ca OL Z Z ((QW _ _ T S _ (b4.keep (Ext.bI w)) (hS.keep (Ext.bI w))).mono ?_);rintro e ke ⟨Dq,rfl,sf,ba⟩;refine ⟨_,Z, ?_⟩;have:=ba.size;have cS:=κ (Ext.bI w) ba;refine va Z<|ai<|aj<|vm Z<|J (bne Z Z)<|ai<| ?_;refine eH Z (λ lx=> ?_) (λ lx=> ?_)
 ·refine aj<|vm Z<|va Z<|va Z<|va Z<|ai<|rt<|bN<|bb (.tmp Z (.tmp Z (.tmp Z .nil)))<| ?_;exact ⟨Dq,none,0, [], [],none,0, [],Z, .inr ⟨(by simpa using lx),(λ bf=>(show ¬ Dq=0 by simpa using lx) (sf.2 bf.1)),Z,Z⟩,τ.aG.nil _,hB.nil _ _,τ.aG.nil _,λ q I=>by simp [τ.ae] at I,λ q I=>by simp [τ.ae] at I,cS⟩
 ·have Eg:=sf.1 (by simpa using lx);refine bs<|aB<|aj<|vm Z<|J (blt Z Z)<|vm Z<|aO Z Z Z Z (λ hc=>aH Z) Z<|aO Z Z Z Z (λ hc=>iu (gt hc Z) Z) Z<|J (ez Z Z Z Z)<|ai<| ?_;refine dT Z (λ mj=> ?_) (λ mj=> ?_)
  ·simp only [cv] at mj;refine aj<|va Z<|va Z<|va Z<|ai<|rt<|bN<|bb (.tmp Z (.tmp Z (.tmp Z .nil)))<| ?_;exact ⟨1,none,0, [], [],none,0, [],Z, .inr ⟨(by decide),(λ bf=>by have:=bf.2;omega),Z,Z⟩,τ.aG.nil _,hB.nil _ _,τ.aG.nil _,λ q I=>by simp [τ.ae] at I,λ q I=>by simp [τ.ae] at I,cS⟩
  ·simp only [cv] at mj;have G_:1≤m∧m≤100:=by omega
   refine bs<|aj<|vm Z<|ca T2 Z Z ((X4 _ _ T S _ (b4.keep cS) (hS.keep cS)).mono ?_);rintro e Yt ⟨p4,dS,zK,rfl,SF,Nx,auK,alA⟩;refine ⟨_,Z, ?_⟩;have:=alA.size;have xG:=κ cS alA;have aCZ:=λ q I=>(SF.lt q I).2;have aL9:=λ q I=>(SF.lt q I).1;have aOS:=λ q I=>(Nx.lt q I).2;have aKR:=λ q I=>(Nx.lt q I).1;refine va Z<|ai<|aB<|aj<|vm Z<|J (cu underlying80 Z)<|vm Z<|ai<|bR<| ?_;have afF:zK.length=S.length:=Nx.xp.len;have KB:=hS.len;have am2:hB Yt ke.heap.size zK (Aq S 0):=Nx.H2;refine fg (λ cm cl a6=>∃ k:Nat,∃ k3:List bx,cl= [(0, .slice p4 zK.length dS),(1, .int .i64 m),(4, .slice none 0 0),(5, .slice none 0 0),(6, .int .i64 0),(28, .int .i64 (zK.length:Int)),(29, .int .i64 (k:Int))]∧cm=S.length - k∧Ext w a6∧bx.rep.aG 90 40 a6 ke.heap.size (τ.ae p4) p4 dS k3∧hB a6 ke.heap.size k3 (Aq S k)∧(k≤S.length)∧(k3.length=S.length)∧(∀ q∈eQ k3,q∈τ.ae p4→False)) _ _ ⟨0,zK,Z,Z,xG,SF,am2,by omega,afF,λ q γ ab=>auK q ab γ⟩ (.cons Z (.cons Z (.cons Z (.cons Z (.cons Z (.cons Z (.cons (b2 Z (by first | omega | rfl | (simp<;>omega))) .nil))))))) ?_;rintro WW aFT y8 ⟨k,k3,rfl,rfl,iB,wj,r0,av,tI,B0⟩;have:=iB.size;have akI:=λ q I=>(wj.lt q I).2;have aOT:∀ q∈eQ k3,q<y8.heap.size:=λ q I=>(r0.lt q I).2;have aKT:∀ q∈eQ k3,ke.heap.size≤q:=λ q I=>(r0.lt q I).1;refine aj<|J (blt Z Z)<|ai<|aB<| ?_;refine ef Z (λ lv=> ?_) (λ lv=> ?_)
   ·obtain ⟨e3,dH,bl,gB,jP,aGu⟩:=r0.get (k:=k) (by omega);rw [Qd] at jP;have rp:=aBq Eg jP;refine bs<|aB<|bR<|aj<|vm Z<|va Z<|ai<|aj<|vm Z<|vm Z<|J (b5 k underlying80 kq Z Z (wj.has.bL (a7 k)) Z (by omega))<|va Z<|ai<|bR<|aj<|vm Z<|J (bY Z)<|J (au q2 Z)<| ?_;refine J (v:= .slice e3 bl.waits.length dH) (ao Z (τ.aI.jN nM (wj.has.cA (a7 k)) 0 gB Z pj))<|J (cu underlying44 Z)<|J (iu Z Z)<|va Z<|ai<| ?_;refine ef Z (λ nJ=> ?_) (λ nJ=> ?_)
    ·refine rg<|vm Z<|J (bY Z)<|J (au Gu Z)<|so (q':=(⟨(⟨e3,bl.waits.length,dH,bl.late,bl.gone⟩:bx).a,(⟨e3,bl.waits.length,dH,bl.late,bl.gone⟩:bx).n,(⟨e3,bl.waits.length,dH,bl.late,bl.gone⟩:bx).c,0,(⟨e3,bl.waits.length,dH,bl.late,bl.gone⟩:bx).gone⟩:bx)) (j:=1) (i:=k) wj τ.dC gB Z Z Z Z (λ _ cs h=>by have oL:=(show _∧_ from h).2;obtain rfl:=nM h;exact ⟨rfl,bM.2 (by (try dsimp only);omega)⟩) Z Z dr λ y9 Cw anh=> ?_;have:=Cw.size;have mI:=Ext.mod iB Cw (λ q I=>aRj (by omega) (wj.lt q I).1);refine nl<|bX<|bX<|aV<|rg<|J (bad Z Z (bG (by omega)))<|vm Z<|nl<| ?_;have r0:=r0.mod Cw (λ q I h=>by exfalso;(exact B0 q I h));obtain ⟨_,J_,_,SG⟩:=r0.2 k _ gB;obtain rfl:=aQL ((Qd.trans jP).symm.trans J_);have U0:vo bl=⟨bl.waits,0,bl.gone⟩:=by unfold vo;rw [aQZ (by omega)]
     exact c' _ _ ⟨k+1,(k3).set k ((⟨(⟨e3,bl.waits.length,dH,bl.late,bl.gone⟩:bx).a,(⟨e3,bl.waits.length,dH,bl.late,bl.gone⟩:bx).n,(⟨e3,bl.waits.length,dH,bl.late,bl.gone⟩:bx).c,0,(⟨e3,bl.waits.length,dH,bl.late,bl.gone⟩:bx).gone⟩:bx)),Z,Z,mI,anh,(by rw [WE jP,U0];exact hB.set (s:=⟨bl.waits,0,bl.gone⟩) r0 (by omega) SG),by omega,by rw [aQS];exact tI,λ q γ ab=>(L9 γ).elim (λ γ=>B0 q (QX γ) ab) (λ γ=>B0 q (sC gB γ) ab)⟩ (by omega) (.cons Z (.cons Z (.cons Z (.cons Z (.cons Z (.cons Z (.cons (b2 Z (by first | omega | rfl | (simp<;>omega))) .nil)))))))
    ·refine aj<|vm Z<|J (bY Z)<|J (au JK Z)<|J (v:= .bool bl.gone) (ao Z (τ.aI.jN nM (wj.has.cA (a7 k)) 2 gB Z Gy))<|J (eg Z)<|va Z<|ai<| ?_;refine dT Z (λ se=> ?_) (λ se=> ?_)
     ·simp only [aR4,aSv] at se;refine rg<|vm Z<|vm Z<|J (bY Z)<|J (au Gu Z)<|J (v:= .int .i64 bl.late) (ao Z (τ.aI.jN nM (wj.has.cA (a7 k)) 1 gB Z bd))<|J (bad Z Z (bG (by omega)))<|J (nR Z Z)<|J (bY Z)<|J (au Gu Z)<|so (q':=(⟨(⟨e3,bl.waits.length,dH,bl.late,bl.gone⟩:bx).a,(⟨e3,bl.waits.length,dH,bl.late,bl.gone⟩:bx).n,(⟨e3,bl.waits.length,dH,bl.late,bl.gone⟩:bx).c,min (bl.late+1) 1000000,(⟨e3,bl.waits.length,dH,bl.late,bl.gone⟩:bx).gone⟩:bx)) (j:=1) (i:=k) wj τ.dC gB Z Z Z Z (λ _ cs h=>by have oL:=(show _∧_ from h).2;obtain rfl:=nM h;exact ⟨rfl,bM.2 (by (try dsimp only);omega)⟩) Z Z dr λ C0 hU uM=> ?_;have:=hU.size;have rP:=Ext.mod iB hU (λ q I=>aRj (by omega) (wj.lt q I).1);refine nl<|bX<|bX<|aV<|rg<|J (bad Z Z (bG (by omega)))<|vm Z<|nl<| ?_;have r0:=r0.mod hU (λ q I h=>by exfalso;(exact B0 q I h));obtain ⟨_,J_,_,SG⟩:=r0.2 k _ gB;obtain rfl:=aQL ((Qd.trans jP).symm.trans J_);have U0:vo bl=⟨bl.waits,min (bl.late+1) 1000000,bl.gone⟩:=by unfold vo;rw [aQV (by omega),aQZ se]
      exact c' _ _ ⟨k+1,(k3).set k ((⟨(⟨e3,bl.waits.length,dH,bl.late,bl.gone⟩:bx).a,(⟨e3,bl.waits.length,dH,bl.late,bl.gone⟩:bx).n,(⟨e3,bl.waits.length,dH,bl.late,bl.gone⟩:bx).c,min (bl.late+1) 1000000,(⟨e3,bl.waits.length,dH,bl.late,bl.gone⟩:bx).gone⟩:bx)),Z,Z,rP,uM,(by rw [WE jP,U0];exact hB.set (s:=⟨bl.waits,min (bl.late+1) 1000000,bl.gone⟩) r0 (by omega) SG),by omega,by rw [aQS];exact tI,λ q γ ab=>(L9 γ).elim (λ γ=>B0 q (QX γ) ab) (λ γ=>B0 q (sC gB γ) ab)⟩ (by omega) (.cons Z (.cons Z (.cons Z (.cons Z (.cons Z (.cons Z (.cons (b2 Z (by first | omega | rfl | (simp<;>omega))) .nil)))))))
     ·simp only [aR4,aSv] at se;refine e6<|bX<|bX<|aV<|rg<|J (bad Z Z (bG (by omega)))<|vm Z<|nl<| ?_;exact c' _ _ ⟨k+1,k3,Z,Z,iB,wj,(by rw [WE jP,show vo bl=bl from by unfold vo;rw [aQV (by omega),aQV (by rw [se];decide)],aBo (by rw [Qd];exact jP)];exact r0),by omega,tI,B0⟩ (by omega) (.cons Z (.cons Z (.cons Z (.cons Z (.cons Z (.cons Z (.cons (b2 Z (by first | omega | rfl | (simp<;>omega))) .nil)))))))
   ·have lu:k=S.length:=by omega
    subst lu;rw [axJ] at r0;refine dN<|dL<|ed<|dK<|aV<|aj<|va Z<|ai<|aB<|aj<|va Z<|ai<|bR<| ?_;refine fg (λ cm cl a6=>∃ x_:List bx,∃ Bt:List cq,∃ cQ:Option Addr,∃ hD:Nat,∃ out:List aN,∃ Bv:Bool,cl= [(0, .slice p4 zK.length dS),(1, .int .i64 m),(4, .slice none 0 0),(5, .slice none 0 0),(6, .int .i64 0),(10, .slice cQ out.length hD),(11, .bool Bv)]∧cm=m.toNat+1 - out.length+Bv.toNat∧Ext w a6∧bx.rep.aG 90 40 a6 ke.heap.size (τ.ae p4) p4 dS x_∧aN.rep.aG 51 48 a6 w.heap.size (τ.ae cQ) cQ hD out∧hB a6 ke.heap.size x_ Bt∧(IG m.toNat (uX m.toNat S) (Bt,out) Bv)∧(x_.length=S.length)∧(out.length≤m.toNat)∧(∀ q∈eQ x_,q∈τ.ae p4→False)∧(∀ q∈eQ x_,q∈τ.ae cQ→False)∧(Bt.length=S.length)∧(∀ q∈τ.ae cQ,q∈τ.ae p4→False)) _ _ ⟨k3,(S.map vo),none,0, [],true,Z,Z,iB,wj,(τ.aG.nil _),r0, .inl ⟨Z,_,by simp,rfl⟩,tI,by simp,B0,λ q γ ab=>by simp [τ.ae] at ab,by simp,(λ q I Φ=>by (simp [τ.ae] at I))⟩ (vE Z) ?_;rintro rA aF3 xy ⟨x_,Bt,cQ,hD,out,Bv,rfl,rfl,ln,SE,SD,Ny,dI,afB,afX,hdr,PS,afA,acM⟩;have:=ln.size;have y6:=λ q I=>(SE.lt q I).2;have CS:=λ q I=>(SD.lt q I).2;have aOU:∀ q∈eQ x_,q<xy.heap.size:=λ q I=>(Ny.lt q I).2;have aKU:∀ q∈eQ x_,ke.heap.size≤q:=λ q I=>(Ny.lt q I).1;refine aB<|aj<|vm Z<|ai<| ?_;refine dT Z (λ q9=> ?_) (λ q9=> ?_)
    ·rw [q9] at dI;refine bs<|bR<|aj<|va Z<|ai<|aj<|vm Z<|J (cu underlying80 Z)<|vm Z<|ai<|bR<| ?_;refine fg (λ cm cl a6=>∃ i:Nat,∃ wu:List bx,∃ DO:List cq,∃ xP:Option Addr,∃ ci:Nat,∃ dv:List aN,∃ yp:Bool,cl= [(0, .slice p4 zK.length dS),(1, .int .i64 m),(4, .slice none 0 0),(5, .slice none 0 0),(6, .int .i64 0),(10, .slice xP dv.length ci),(11, .bool yp),(61, .bool Bv),(62, .slice p4 zK.length dS),(63, .int .i64 (zK.length:Int)),(64, .int .i64 (i:Int))]∧cm=S.length - i∧Ext w a6∧bx.rep.aG 90 40 a6 ke.heap.size (τ.ae p4) p4 dS wu∧aN.rep.aG 51 48 a6 w.heap.size (τ.ae xP) xP ci dv∧hB a6 ke.heap.size wu DO∧(i≤S.length)∧(wu.length=S.length)∧(dv.length≤m.toNat)∧(∀ q∈eQ wu,q∈τ.ae p4→False)∧(∀ q∈eQ wu,q∈τ.ae xP→False)∧(DO.length=S.length)∧((DO,dv)=(List.range i).foldl (AL m.toNat) (Bt,out))∧(yp=decide (dv.length≠out.length))∧(out.length≤dv.length)∧(∀ q∈τ.ae xP,q∈τ.ae p4→False)) _ _ ⟨0,x_,Bt,cQ,hD,out,false,Z,Z,ln,SE,SD,Ny,by omega,afB,afX,hdr,PS,afA,rfl,(by simp),aQW _,(λ q I Φ=>by (exact acM q I Φ))⟩ (.cons Z (.cons Z (.cons Z (.cons Z (.cons Z (.cons Z (.cons Z (.cons Z (.cons Z (.cons Z (.cons (b2 Z (by first | omega | rfl | (simp<;>omega))) .nil))))))))))) ?_;rintro AA amv Mq ⟨i,wu,DO,xP,ci,dv,yp,rfl,rfl,qD,s5,DI,o2,ar,VV,V2,Kt,KM,VU,hF,Uh,V3,D3⟩;have:=qD.size;have akM:=λ q I=>(s5.lt q I).2;have aCX:=λ q I=>(DI.lt q I).2;have aCK:∀ q∈eQ wu,q<Mq.heap.size:=λ q I=>(o2.lt q I).2;have aKS:∀ q∈eQ wu,ke.heap.size≤q:=λ q I=>(o2.lt q I).1;refine aj<|J (blt Z Z)<|ai<|aB<| ?_;refine ef Z (λ Ke=> ?_) (λ Ke=> ?_)
     ·obtain ⟨e3,dH,bl,gB,jP,pa⟩:=o2.get (k:=i) (by omega);refine bs<|aB<|bR<|aj<|vm Z<|va Z<|ai<|aj<|vm Z<|vm Z<|J (b5 i underlying80 kq Z Z (s5.has.bL (a7 i)) Z (by omega))<|va Z<|ai<|aj<|vm Z<|J (bY Z)<|J (au q2 Z)<|J (v:= .slice e3 bl.waits.length dH) (ao Z (τ.aI.jN nM (s5.has.cA (a7 i)) 0 gB Z pj))<| ?_;refine J (cu underlying44 Z)<|J (iu Z Z)<|vm Z<|aO Z Z Z Z (λ hc=>aH Z) Z<|aO Z Z Z Z (λ hc=>cu underlying44 (gt hc Z)) Z<|aO Z Z Z Z (λ hc=>aH Z) Z<|aO Z Z Z Z (λ hc=>blt (gt hc Z) (gt hc Z)) Z<|J (di Z Z Z Z)<|ai<| ?_;refine dT Z (λ yy=> ?_) (λ yy=> ?_)
      ·simp only [cv] at yy;have u9:0<bl.waits.length∧dv.length<m.toNat:=by omega
       obtain ⟨_,J_,_,pa⟩:=o2.2 i _ gB;obtain rfl:=aQL (jP.symm.trans J_);have akE:=λ q I=>(pa.lt q I).2;have axu:=λ q I=>(pa.lt q I).1;have Ox:∀ q∈τ.ae e3,q∈τ.ae p4→False:=λ q γ ab=>Kt q (sC gB γ) ab;have acV:∀ q∈τ.ae e3,q∈τ.ae xP→False:=λ q γ ab=>KM q (sC gB γ) ab;have avU:(bl.waits.getD 0 default).ok:=aN.oh pa.has _ (jj u9.1);refine QQ (τ.ae xP) [(5,0),(7,0),(8,2),(9,2),(13,0),(18,3)] [0,1,2,3,4,5,6,7,10,11,12,13,14,8,9,15,16,17,18,19] (by kernel_rfl) (by kernel_rfl) ?_;refine jd Z Z (λ _=>aH Z) Z<|jd Z Z (λ _=>aH Z) Z<|jd Z Z (λ _=>aH Z) Z<|jd Z Z (λ _=>bY Z) Z<|jd Z Z (λ _=>au q2 Z) Z<|yo (v:= .slice e3 bl.waits.length dH) Z Z (λ _ x=>ao Z (τ.aI.jN nM ((s5.mod x (λ q I h=>by exfalso;(exact D3 q h I))).has.cA (a7 i)) 0 gB Z pj)) Z<|jd Z Z (λ _=>b5 0 underlying44 fF Z Z (pa.has.bL (a7 0)) Z (by omega)) Z<|yo Z Z (λ _ x=>ao Z (τ.aI.hE Kp ((pa.mod x (λ q I h=>by exfalso;(exact acV q I h))).has.cA (a7 0)) (df (l:=bl.waits) (u:=default) (by omega)) jc fF)) Z<|jd Z Z (λ _=>aH Z) Z<|jd Z Z (λ _=>bY Z) Z<|jd Z Z (λ _=>au q2 Z) Z<|yo (v:= .slice e3 bl.waits.length dH) Z Z (λ _ x=>ao Z (τ.aI.jN nM ((s5.mod x (λ q I h=>by exfalso;(exact D3 q h I))).has.cA (a7 i)) 0 gB Z pj)) Z<|jd Z Z (λ _=>ajN 1 underlying44 fF Z Z Z (by omega)) Z<|Ec Z Z Z λ Mt iR Q hK=>cX (e:= 51) (cs:= [.int .i64 ((bl.waits.getD 0 default).by_), .int .i64 ((bl.waits.getD 0 default).kind), .int .i64 ((bl.waits.getD 0 default).aS), .int .i64 ((bl.waits.getD 0 default).spot.x), .int .i64 ((bl.waits.getD 0 default).spot.y), .int .i64 ((bl.waits.getD 0 default).what)]) Z (λ _=>by kernel_rfl) Z λ y_ uR ih WD vZ=>hK _ _ ⟨Mod.bD (κ iR ih), ?_⟩;have:=iR.size;have p1:=κ qD iR;have:=ih.size;have kG:=κ p1 ih;have Xy:=vZ.lt;have DI:=DI.later (κ iR ih);refine Ec Z Z Z λ Yx kX Q hK=>ap anC τ.dC (DI.later kX) ((aQ.gJ (R:=aN.rep) (by_:=48) (q:=bl.waits.getD 0 default) vZ ⟨Z,avU⟩ (by decide)).keep kX) Z Z (by simp only [aQQ,aQX];omega) (by simp only [aQQ,aQX];omega) (by have:=kX.size;omega) Z λ Mv FX p' kx x8 Ed ayU=>hK _ _ ⟨(Mod.bD kX).trans kx, ?_⟩;have:=kX.size;have FG:=κ kG kX;have:=kx.size;have xK:=Ext.mod FG kx (λ q I=>aRj (by omega) ((DI.later kX).lt q I).1);have vF:=λ q I=>(x8.lt q I).2;have:=kx.size;refine jd Z Z (λ _=>eY Z) Z<|jd Z Z (λ _=>bY Z) Z<|jd Z Z (λ _=>au q2 Z) Z<| ?_;have s5:=s5.later (κ iR (κ ih kX));have s5:=s5.mod kx (λ q I h=>by exfalso;(exact D3 q h I));refine Uq Z Z Z λ Yz ij Q hK=>so (q':=(⟨e1 e3 dH 1 6,bl.waits.length - 1,dH - 1,(⟨e3,bl.waits.length,dH,bl.late,bl.gone⟩:bx).late,(⟨e3,bl.waits.length,dH,bl.late,bl.gone⟩:bx).gone⟩:bx)) (j:=0) (i:=i) (s5.later ij) τ.dC gB Z Z Z Z (λ _ cs h=>by have oL:=(show _∧_ from h).2;obtain rfl:=nM h;exact ⟨rfl,oL⟩) Z Z BN λ RD oG SM=>hK _ _ ?_;have:=ij.size;have A7:=κ xK ij;have:=oG.size;have xM:=Ext.mod A7 oG (λ q I=>aRj (by omega) ((s5.later ij).lt q I).1);refine jd Z Z (λ _=>eY Z) Z<|O1 λ YD vP=> ?_;have:=vP.size;have uF:=κ xM vP;refine bX<|aV<|rg<|J (bad Z Z (bG (by omega)))<|vm Z<|nl<| ?_;have SM:=SM.later vP;have x8:=x8.later ij;have x8:=x8.mod oG (λ q I h=>by exfalso;(exact aQ2 (Ed q I) (λ Lo=>by (exact D3 q Lo h)) (λ Lo=>by (have:=akM q h;omega))));have x8:=x8.later vP;have o2:=o2.later (κ iR (κ ih kX));have o2:=o2.mod kx (λ q I h=>by exfalso;(exact KM q I h));have o2:=o2.later ij;have o2:=o2.mod oG (λ q I h=>by exfalso;(exact Kt q I h));have o2:=o2.later vP;have pa:=pa.later (κ iR (κ ih kX));have pa:=pa.mod kx (λ q I h=>by exfalso;(exact acV q I h));have pa:=pa.later ij;have pa:=pa.mod oG (λ q I h=>by exfalso;(exact Ox q I h));have pa:=pa.later vP;have atP:=pa.cut u9.1;have qk:(bl.waits.drop 1).length=bl.waits.length - 1:=aQ6;exact c' _ _ ⟨i+1,(wu).set i ((⟨e1 e3 dH 1 6,bl.waits.length - 1,dH - 1,(⟨e3,bl.waits.length,dH,bl.late,bl.gone⟩:bx).late,(⟨e3,bl.waits.length,dH,bl.late,bl.gone⟩:bx).gone⟩:bx)),DO.set i ⟨bl.waits.drop 1,bl.late,bl.gone⟩,FX,p',dv++ [bl.waits.getD 0 default],true,Z,Z,uF,SM,x8,(by have bf:=hB.set (s:=⟨bl.waits.drop 1,bl.late,bl.gone⟩) (k:=i) o2 (by omega) atP;rw [qk] at bf;exact bf),by omega,by rw [aQS];exact VV,by rw [aQU,aR9];omega,λ q γ ab=>Kt q (ajP gB γ) ab,λ q γ ab=>(λ γ=>by (exact aQ2 (Ed q ab) (λ Cp=>by (exact KM q γ Cp)) (λ Cp=>by (have:=aCK q γ;omega)))) (ajP gB γ),by rw [aQS];exact VU,by rw [ad1,← hF,aB1 jP u9],by rw [aQU,aR9];exact (aRi (by omega)).symm,by rw [aQU,aR9];omega,(λ q I Φ=>by (exact aQ2 (Ed q I) (λ ahE=>by (exact D3 q ahE Φ)) (λ ahE=>by (have:=akM q Φ;omega))))⟩ (by omega) (.cons Z (.cons Z (.cons Z (.cons Z (.cons Z (.cons Z (.cons Z (.cons Z (.cons Z (.cons Z (.cons (b2 Z (by first | omega | rfl | (simp<;>omega))) .nil)))))))))))
      ·simp only [cv] at yy;have u9:¬(0<bl.waits.length∧dv.length<m.toNat):=by omega
       refine e6<|bX<|aV<|rg<|J (bad Z Z (bG (by omega)))<|vm Z<|nl<| ?_;exact c' _ _ ⟨i+1,wu,DO,xP,ci,dv,yp,Z,Z,qD,s5,DI,o2,by omega,VV,V2,Kt,KM,VU,by rw [ad1,← hF,aB0 jP u9],Uh,V3,(λ q I Φ=>by (exact D3 q I Φ))⟩ (by omega) (.cons Z (.cons Z (.cons Z (.cons Z (.cons Z (.cons Z (.cons Z (.cons Z (.cons Z (.cons Z (.cons (b2 Z (by first | omega | rfl | (simp<;>omega))) .nil)))))))))))
     ·have asy:i=S.length:=by omega
      refine dN<|dL<|ed<|dK<|bX<| ?_;exact c' _ _ ⟨wu,DO,xP,ci,dv,yp,Z,Z,qD,s5,DI,o2,by rw [Uh];exact IG.next dI (by unfold E6;rw [show (Bt,out).1.length=S.length from afA,← asy];exact hF.symm) afX V3,VV,V2,Kt,KM,VU,(λ q I Φ=>by (exact D3 q I Φ))⟩ (by rw [q9];exact apB Uh V3 V2) (vE Z)
    ·refine dN<|dL<|ed<|dK<|aV<|aj<|vm Z<|vm Z<|va Z<|va Z<|va Z<|ai<|rt<|bb (.tmp Z (.tmp Z (.tmp Z .nil)))<| ?_;exact ⟨0,_,_,x_,Bt,cQ,hD,out,by rw [afB,afF];rfl, .inl ⟨rfl,⟨Eg,G_⟩,(by rcases dI with ⟨bf,_⟩ | ⟨_,bf⟩;exact absurd bf (by simp [q9]);exact bf)⟩,SE.down (by omega),Ny.down (by omega),SD,λ q γ ab=>hdr q ab γ,λ q γ=>⟨λ ab=>by exfalso;(exact acM q γ ab),λ ab=>PS q ab γ⟩,ln⟩
end
end Go.Proofs.YtlikikpgmmkjbaaGreat
namespace Go.Proofs.YtlikikpgmmkjbaaGreat.bQ
open Tryz
def mT:Nat→Nat→Nat
 | 0,_=>0
 | f+1,x=>x % 2+mT f (x / 2)
theorem Tx (f g x:Nat):mT (f+g) x=mT f x+mT g (x / 2 ^ f):=by
 induction f generalizing x with
 | zero=>simp [mT]
 | succ f bt =>
  rw [aVt,mT,mT,bt,aTV,aTU,aR3 2];omega
theorem Ty (f x:Nat):mT f (x % 2 ^ f)=mT f x:=by
 induction f generalizing x with
 | zero=>rfl
 | succ f bt =>
  rw [mT,mT,aTU];have γ:x % (2 ^ f * 2) % 2=x % 2:=Nat.mod_mod_of_dvd _ ⟨2 ^ f,aR3 _ _⟩;have ab:x % (2 ^ f * 2) / 2=x / 2 % 2 ^ f:=by rw [aR3,Nat.mod_mul_right_div_self]
  rw [γ,ab,bt]
theorem Gk (f x:Nat):mT f x≤f:=by
 induction f generalizing x with
 | zero=>exact aQW _
 | succ f bt=>have:=bt (x / 2);rw [mT];omega
def size (x:Nat):Nat:=mT 32 x
theorem size_bytes (x:Nat) (h:x<4294967296):size x=mT 8 (x / 16777216)+mT 8 (x / 65536 % 256)+mT 8 (x / 256 % 256)+mT 8 (x % 256):=by
 unfold size;rw [show (32:Nat)=8+(8+(8+8)) from rfl,Tx,Tx,Tx,aTV,aTV];rw [show (256:Nat)=2 ^ 8 from rfl,Ty,Ty,Ty];simp only [Nat.reducePow,Nat.reduceMul];omega
theorem QH (n:Nat) (h:n<256):Lib.pop8 (n:Int)=(mT 8 n:Int):=by
 have e:=Lib.pop8_eq ⟨n,h⟩;have bh:∀ m:Fin 256,Lib.onesCount m.val=mT 8 m.val:=by decide +kernel
 rw [bh ⟨n,h⟩] at e;exact e
end Go.Proofs.YtlikikpgmmkjbaaGreat.bQ
namespace Go.Proofs.YtlikikpgmmkjbaaGreat
open Tryz
end Go.Proofs.YtlikikpgmmkjbaaGreat
namespace Go.Proofs.YtlikikpgmmkjbaaGreat.bQ
open Tryz
open Go.RowKit Go.Proofs.YtlikikpgmmkjbaaGreat Go.Proofs.YtlikikpgmmkjbaaGreat.eV

theorem aA1 {a b:Int} (h:a=b):Ending.returned (.int .i64 a)= .returned (.int .i64 b):=by rw [h]
theorem S0 (a:Nat) (h:a<4294967296):bits .and .u32 (a:Int) 255=((a % 256:Nat):Int):=by
 have γ:=(aUX .u32 32 (by decide) (fun n aF γ=>by simp [IntKind.wrap,IntKind.signed,IntKind.bits];omega) a 255 (by omega) (by omega)).1;have e:a &&& 255=a % 256:=Nat.and_two_pow_sub_one_eq_mod a 8;rw [e] at γ;exact γ
@[go_sem high] theorem aIE:(⟨((([0,1,1,2,1,2,2,3,1,2,2,3,2,3,3,4,1,2,2,3,2,3,3,4,2,3,3,4,3,4,4,5,1,2,2,3,2,3,3,4,2,3,3,4,3,4,4,5,2,3,3,4,3,4,4,5,3,4,4,5,4,5,5,6]:List UInt8).append [1,2,2,3,2,3,3,4,2,3,3,4,3,4,4,5,2,3,3,4,3,4,4,5,3,4,4,5,4,5,5,6,2,3,3,4,3,4,4,5,3,4,4,5,4,5,5,6,3,4,4,5,4,5,5,6,4,5,5,6,5,6,6,7]).append (([1,2,2,3,2,3,3,4,2,3,3,4,3,4,4,5,2,3,3,4,3,4,4,5,3,4,4,5,4,5,5,6,2,3,3,4,3,4,4,5,3,4,4,5,4,5,5,6,3,4,4,5,4,5,5,6,4,5,5,6,5,6,6,7]:List UInt8).append [2,3,3,4,3,4,4,5,3,4,4,5,4,5,5,6,3,4,4,5,4,5,5,6,4,5,5,6,5,6,6,7,3,4,4,5,4,5,5,6,4,5,5,6,5,6,6,7,4,5,5,6,5,6,6,7,5,6,6,7,6,7,7,8])).toArray⟩:ByteArray)=Lib.pop8tab:=by decide +kernel
theorem apH (n:Nat) (hn:n<4294967296) (w:World):
  Calls prog 204 #[.int .u32 (n:Int)] w fun e w'=>e= .returned (.int .i64 (size n:Int))∧∃ q,w'=w.drewN q:=by
 have d1:(n:Int) / 16777216=((n / 16777216:Nat):Int):=by omega
 have d2:(n:Int) / 65536=((n / 65536:Nat):Int):=by omega
 have d3:(n:Int) / 256=((n / 256:Nat):Int):=by omega
 have a2:=S0 (n / 65536) (by omega);have a3:=S0 (n / 256) (by omega);have a4:=S0 n hn;have eK:=QH (n / 16777216) (by omega);have fr:=QH (n / 65536 % 256) (by omega);have l0:=QH (n / 256 % 256) (by omega);have vB:=QH (n % 256) (by omega);have i1:(0:Int)≤((n / 16777216:Nat):Int)∧((n / 16777216:Nat):Int)≤255:=by omega
 have i2:(0:Int)≤((n / 65536 % 256:Nat):Int)∧((n / 65536 % 256:Nat):Int)≤255:=by omega
 have i3:(0:Int)≤((n / 256 % 256:Nat):Int)∧((n / 256 % 256:Nat):Int)≤255:=by omega
 have i4:(0:Int)≤((n % 256:Nat):Int)∧((n % 256:Nat):Int)≤255:=by omega
 have c1:=Gk 8 (n / 16777216);have c2:=Gk 8 (n / 65536 % 256);have c3:=Gk 8 (n / 256 % 256);have c4:=Gk 8 (n % 256);rw [size_bytes n hn];generalize n / 16777216=ko at *
 generalize n / 65536=mC at *
 generalize n / 256=vC at *
 generalize mC % 256=eZ at *
 generalize vC % 256=gm at *
 generalize dt:n % 256=zM at *
 obtain ⟨i10,i11⟩:=i1;obtain ⟨i20,i21⟩:=i2;obtain ⟨i30,i31⟩:=i3;obtain ⟨i40,i41⟩:=i4;go_enter func204,ntmps204;go_wp2_with fail
 go_quiet (fail)
 go_wp2_with fail
 go_ret;exact ⟨aA1 (by push_cast;rfl),nq,Z⟩

theorem apI (n:Nat) (hn:n<4294967296) (w:World):
  Calls prog 174 #[.int .u32 (n:Int)] w fun e w'=>e= .returned (.int .i64 (size n:Int))∧∃ q,w'=w.drewN q:=by
 go_enter func174,ntmps174;go_wp2_with fail
 refine (apH n hn _).mono ?_;rintro e w' ⟨rfl,q,rfl⟩;go_wp2_with fail
 go_ret;exact ⟨Z,q,Z⟩
def yU (t:Int):List Nat→Nat→Int
 | [],_=> -1
 | x::xs,i=>if t≤(size x:Int) then (i:Int) else yU t xs (i+1)
def Sets (w:World) (b o:Nat) (l:List Nat):Prop:=∀ k,(h:k<l.length)→w.cell? ⟨b,o+k,none⟩=some (.int .u32 ((l[k]:Nat):Int))∧l[k]<4294967296
end Go.Proofs.YtlikikpgmmkjbaaGreat.bQ
namespace Go.Proofs.YtlikikpgmmkjbaaGreat
open Tryz
end Go.Proofs.YtlikikpgmmkjbaaGreat
namespace Go.Proofs.YtlikikpgmmkjbaaGreat.bQ
open Tryz
open Go.RowKit Go.Proofs.YtlikikpgmmkjbaaGreat.eV
def diff (a b:Nat):Nat:=(BitVec.ofNat 32 a &&& ~~~BitVec.ofNat 32 b).toNat
theorem JB (a b:Nat):diff a b<4294967296:=(BitVec.ofNat 32 a &&& ~~~BitVec.ofNat 32 b).isLt
theorem aqk (a b i:Nat) (ha:a<4294967296) (ar:i<32):(diff a b).testBit i=(a.testBit i && !b.testBit i):=by
 unfold diff;rw [BitVec.testBit_toNat,aVS,BitVec.getLsbD_not,aVG,aVG];simp [ar]
theorem aiJ (a:Nat):BitVec.ofInt 32 (a:Int)=BitVec.ofNat 32 a:=azl a
theorem aql (a b:Nat):bits .andNot .u32 (a:Int) (b:Int)=(diff a b:Int):=by
 have h:=OU (x:=bits .andNot .u32 (a:Int) (b:Int)) (b:=BitVec.ofNat 32 a &&& ~~~BitVec.ofNat 32 b) (N4 _ _ _) (N3 _ _ _) (by rw [azi,aiJ,aiJ]);exact h
theorem RM (n:Int) (agp:0≤n) (h₁:n<2 ^ 32):IntKind.u32.wrap n=n:=by simp [IntKind.wrap,IntKind.signed,IntKind.bits];omega
theorem azv (a b:Nat) (ha:a<4294967296) (Φ:b<4294967296):bits .or .u32 (a:Int) (b:Int)=((a ||| b:Nat):Int):=(aUX .u32 32 (by decide) RM a b ha Φ).2
theorem an7 (a b:Nat) (ha:a<4294967296) (Φ:b<4294967296):bits .and .u32 (a:Int) (b:Int)=((a &&& b:Nat):Int):=(aUX .u32 32 (by decide) RM a b ha Φ).1
theorem aot (a k:Nat) (ha:a<4294967296):bits .and .u32 ((a / 2 ^ k:Nat):Int) 1=if a.testBit k then 1 else 0:=by
 have γ:a / 2 ^ k<4294967296:=aVP (aUZ _ _) ha;have h:=an7 (a / 2 ^ k) 1 γ (by decide);rw [aUw] at h;rw [show (1:Int)=((1:Nat):Int) from rfl,h,Nat.testBit_eq_decide_div_mod_eq];rcases aU5 (a / 2 ^ k) with e | e<;>simp [e]
theorem ayk {a b:Nat} (ha:a<4294967296) (Φ:b<4294967296):a ||| b<4294967296:=Nat.or_lt_two_pow (n:=32) ha Φ
theorem LU {k:Nat} (av:k<32):2 ^ k<4294967296:=Nat.pow_lt_pow_right (a:=2) (by decide) av
end Go.Proofs.YtlikikpgmmkjbaaGreat.bQ
namespace Go.Proofs.YtlikikpgmmkjbaaGreat
open Tryz
end Go.Proofs.YtlikikpgmmkjbaaGreat
namespace Go.Proofs.YtlikikpgmmkjbaaGreat.bQ
open Tryz
open Go.RowKit Go.Proofs.YtlikikpgmmkjbaaGreat Go.Proofs.YtlikikpgmmkjbaaGreat.eV
def E0 (m x k:Nat):Bool:=diff x m == 0 && !x.testBit k && (x == 0 || m.testBit k)
def LS (m:Nat):List Nat→Nat→Bool
 | [],_=>true
 | x::xs,k=>E0 m x k && LS m xs (k+1)
def check (m:Nat) (l:List Nat):Int :=
 if m=0∨65536≤m then 1 else if LS m l 0=false then 4 else if 0≤yU ((size m:Int) / 2+1) l 0 then 4 else 0
end Go.Proofs.YtlikikpgmmkjbaaGreat.bQ
namespace Go.Proofs.YtlikikpgmmkjbaaGreat
open Tryz
end Go.Proofs.YtlikikpgmmkjbaaGreat
namespace Go.Proofs.YtlikikpgmmkjbaaGreat.bQ
open Tryz
open Go.RowKit Go.Proofs.YtlikikpgmmkjbaaGreat Go.Proofs.YtlikikpgmmkjbaaGreat.eV

def EU (m:Nat) (k:Int):Bool:=decide (0≤k) && (decide (k<16) && m.testBit k.toNat)
def CD (k x:Nat):Nat:=diff x (2 ^ k)
def aH1 (l:List Nat):List Value:=l.map fun x:Nat=>Value.int .u32 (x:Int)
def part (k:Nat) (l:List Nat) (i:Nat):List Nat:=(l.take i).map (CD k)++l.drop i
theorem Xo (k:Nat) (l:List Nat) (i:Nat):(part k l i).length=l.length:=by unfold part;simp;omega
theorem azK (k:Nat) (l:List Nat) (i:Nat) (h:i<l.length):(part k l i)[i]? =some l[i]:=by
 unfold part;have e:((l.take i).map (CD k)).length=i:=by rw [aRz,aQP];omega
 rw [aQ8 (by rw [e];exact aQW _),e,aUH,aRR,Nat.add_zero,aQN h]
theorem Xp (k:Nat) (l:List Nat) (i:Nat) (h:i<l.length):(part k l i).set i (CD k l[i])=part k l (i+1):=by
 unfold part;have e:((l.take i).map (CD k)).length=i:=by rw [aRz,aQP];omega
 rw [aT9 _ _ (by rw [e];exact aQW _),e,aUH,aRh h,aRc,aSA h,aSL,aRp];rfl
def tO (l:List Nat) (k:Nat):List Nat:=part k (l.set k 0) 16

end Go.Proofs.YtlikikpgmmkjbaaGreat.bQ
namespace Go.Proofs.YtlikikpgmmkjbaaGreat
open Tryz
end Go.Proofs.YtlikikpgmmkjbaaGreat
namespace Go.Proofs.YtlikikpgmmkjbaaGreat.bQ
open Tryz
open Go.RowKit Go.Proofs.YtlikikpgmmkjbaaGreat Go.Proofs.YtlikikpgmmkjbaaGreat.eV

def jk (m:Nat) (l:List Nat):Int:=yU ((size m:Int) / 2+1) l 0
def xk:Nat→Nat→List Nat→Nat×List Nat
 | 0,m,l=>(m,l)
 | f+1,m,l=>if 0≤jk m l then xk f (diff m (2 ^ (jk m l).toNat)) (tO l (jk m l).toNat) else (m,l)
def qs (l:List Nat):Nat:=(l.filter (· != 0)).length
theorem ay8 (l:List Nat):qs l≤l.length:=aTo _ _
theorem aiY (t:Int):∀ (l:List Nat) (i:Nat),0≤yU t l i→∃ j,∃ h:j<l.length,yU t l i=((i+j:Nat):Int)∧t≤(size l[j]:Int)
 | [],i,h=>by simp [yU] at h
 | x::xs,i,h=>by
  unfold yU at h ⊢;by_cases hx:t≤(size x:Int)
  ·rw [aQZ hx];exact ⟨0,by simp,by simp,hx⟩
  ·rw [aQV hx] at h ⊢;obtain ⟨j,ay,γ,ab⟩:=aiY t xs (i+1) h;exact ⟨j+1,by simp;exact ay,by rw [γ];congr 1;omega,ab⟩
theorem als {m:Nat} {l:List Nat} (h:0≤jk m l):∃ k:Nat,jk m l=(k:Int)∧∃ av:k<l.length,(size m:Int) / 2+1≤(size l[k]:Int):=by
 obtain ⟨j,ay,γ,ab⟩:=aiY _ l 0 h;exact ⟨j,by unfold jk;rw [γ];simp,ay,ab⟩
theorem aBF:size 0=0:=by decide
theorem WG (l:List Nat) (k:Nat) (h:l.length=16):(tO l k).length=16:=by unfold tO;rw [Xo,aQS];exact h
theorem axP (l:List Nat) (k:Nat) (h:l.length=16):tO l k=(l.set k 0).map (CD k):=by
 unfold tO part;have ab:(l.set k 0).length=16:=by rw [aQS];exact h
 rw [aRb (by omega),aVx (by omega),aRn]
theorem azA (k:Nat):CD k 0=0:=by
 unfold CD diff;simp
theorem aiH (f:Nat→Nat) (aF:f 0=0):∀ l:List Nat,qs (l.map f)≤qs l
 | []=>aQW _
 | x::xs=>by
  have bt:=aiH f aF xs;unfold qs at *
  rw [aRw,aSf,aSf];by_cases hx:x=0
  ·subst hx;rw [aF];simpa using bt
  ·rw [aQZ (show (x != 0)=true by simp [hx])];split
   ·rw [aQQ,aQQ];exact Nat.succ_le_succ bt
   ·rw [aQQ];exact aVV bt
theorem aiI:∀ (l:List Nat) (k:Nat) (av:k<l.length),l[k]≠0→qs (l.set k 0)+1=qs l
 | x::xs,0,_,h=>by
  unfold qs;simp at h;simp [h]
 | x::xs,k+1,av,h=>by
  have bt:=aiI xs k (by simpa using av) (by simpa using h);unfold qs at *
  simp only [aSM,aSf];split
  ·simp;omega
  ·exact bt
theorem axR {m:Nat} {l:List Nat} (az:l.length=16) {k:Nat} (av:k<l.length) (h:(size m:Int) / 2+1≤(size l[k]:Int)):qs (tO l k)<qs l:=by
 have aF:l[k]≠0:=by
  intro aF;rw [aF,aBF] at h;omega
 have γ:=aiI l k av aF;rw [axP l k az];have ab:=aiH (CD k) (azA k) (l.set k 0);omega
end Go.Proofs.YtlikikpgmmkjbaaGreat.bQ
namespace Go.Proofs.YtlikikpgmmkjbaaGreat
open Tryz
end Go.Proofs.YtlikikpgmmkjbaaGreat
namespace Go.Proofs.YtlikikpgmmkjbaaGreat.bQ
open Tryz
open Go.RowKit Go.Proofs.YtlikikpgmmkjbaaGreat Go.Proofs.YtlikikpgmmkjbaaGreat.eV
def Part (a b:Nat):Prop:=∀ i,a.testBit i=true→b.testBit i=true
structure amE (m:Nat) (l:List Nat):Prop where
 m16:m<65536
 len:l.length=16
 lt:∀ k,l.getD k 0<4294967296
 sub:∀ k,Part (l.getD k 0) m
 self:∀ k,(l.getD k 0).testBit k=false
 mem:∀ k,l.getD k 0≠0→m.testBit k=true
theorem aiR (m:Nat):∀ (l:List Nat) (k:Nat),LS m l k=true↔∀ j,j<l.length→E0 m (l.getD j 0) (k+j)=true
 | [],k=>by simp [LS]
 | x::xs,k=>by
  rw [LS,aQT,aiR m xs (k+1)];constructor
  ·rintro ⟨γ,ab⟩ j ay
   match j with
   | 0=>exact γ
   | j+1 =>
    have:=ab j (by simpa using ay);rw [show k+(j+1)=k+1+j from by omega];exact this
  ·intro h;refine ⟨h 0 (by simp),fun j ay=> ?_⟩;have:=h (j+1) (by simpa using ay);rw [show k+(j+1)=k+1+j from by omega] at this;exact this
structure aGA (m:Nat) (l:List Nat) (r:Nat×List Nat):Prop where
 j5:amE r.1 r.2
 some_:r.1≠0
 jk:jk r.1 r.2<0
 sub:Part r.1 m
 aOB:∀ j,Part (r.2.getD j 0) (l.getD j 0)
 gone:∀ j,m.testBit j=true→r.1.testBit j=false→size r.1<2 * size (l.getD j 0)
end Go.Proofs.YtlikikpgmmkjbaaGreat.bQ
namespace Go.Proofs.YtlikikpgmmkjbaaGreat
open Tryz
end Go.Proofs.YtlikikpgmmkjbaaGreat
namespace Go.Proofs.YtlikikpgmmkjbaaGreat.eu
open Tryz
open Go.Proofs.YtlikikpgmmkjbaaGreat.eV
theorem asX (a b:BitVec 32) (l:List UInt8):fold (a ^^^ b) l=fold a l ^^^ steps (8 * l.length) b:=by
 induction l generalizing a b with
 | nil=>rfl
 | cons x l bt =>
  show fold (take (a ^^^ b) x) l=fold (take a x) l ^^^ _;rw [take_zero,bt,← HX];congr 2;simp only [aQQ];omega
def qW (j:Nat):UInt8:=1 <<<UInt8.ofNat j
theorem aos:∀ j:Fin 8,steps 8 ((qW j.val).toBitVec.setWidth 32)=steps (8 - j.val) 1#32:=by decide +kernel
theorem aCj (r:BitVec 32) (x:UInt8) (j:Nat) (ay:j<8):take r (x ^^^ qW j)=take r x ^^^ steps (8 - j) 1#32:=by
 have h:=aCp r 0#32 x (qW j);rw [aTb] at h;rw [h];unfold take;rw [aU1,aos ⟨j,ay⟩]
theorem asV (r:BitVec 32) (t:List UInt8) (i j:Nat) (ay:j<8) (ar:i<t.length):
  fold r (t.set i (t[i] ^^^ qW j))=fold r t ^^^ steps (8 * t.length - (8 * i+j)) 1#32:=by
 induction t generalizing r i with
 | nil=>simp at ar
 | cons x t bt =>
  cases i with
  | zero =>
   show fold (take r (x ^^^ qW j)) t=fold (take r x) t ^^^ _;rw [aCj r x j ay,asX,← HX];congr 2;simp only [aQQ];omega
  | succ i =>
   have Ai:i<t.length:=by simpa using ar
   show fold (take r x) (t.set i (t[i] ^^^ qW j))=fold (take r x) t ^^^ _;rw [bt (take r x) i Ai];congr 2;simp only [aQQ];omega
def yG (b:BitVec 32):Nat→BitVec 32
 | 0=>0#32
 | k+1=>yG b k ^^^ (if b.getLsbD k then 1#32 <<<k else 0#32)
theorem ayh (b:BitVec 32) (k i:Nat) (ar:i<32):(yG b k).getLsbD i=(decide (i<k) && b.getLsbD i):=by
 induction k with
 | zero=>simp [yG]
 | succ k bt =>
  rw [yG,aTC,bt];by_cases Φ:b.getLsbD k
  ·rw [aQZ Φ,aVn];by_cases h:i=k
   ·subst h;simp [Φ,ar]
   ·by_cases ab:i<k
    ·simp [ab,show i<k+1 by omega]
    ·have aw:¬ i<k+1:=by omega
     have aX:¬ (i - k=0):=by omega
     simp [ab,aw,aX]
  ·rw [aQV Φ];by_cases h:i=k
   ·subst h;simp [Φ]
   ·by_cases ab:i<k
    ·simp [ab,show i<k+1 by omega]
    ·have aw:¬ i<k+1:=by omega
     simp [ab,aw]
theorem ayg (b:BitVec 32):yG b 32=b:=by
 apply aTg;intro i ar;rw [ayh b 32 i ar];simp [ar]
theorem aBD:∀ j:Fin 32,steps j.val (1#32 <<<j.val)=1#32:=by decide +kernel
theorem az1 (m j:Nat) (ay:j<32) (hm:j≤m):steps m (1#32 <<<j)=steps (m - j) 1#32:=by
 have h:m=j+(m - j):=by omega
 rw [h,HX,aBD ⟨j,ay⟩];congr 1;omega

theorem Th:∀ b:BitVec 8,steps 8 (b.setWidth 32 <<<8)=b.setWidth 32∧steps 8 (b.setWidth 32 <<<16)=b.setWidth 32 <<<8∧steps 8 (b.setWidth 32 <<<24)=b.setWidth 32 <<<16:=by decide +kernel
theorem asS (r:BitVec 32) (a b c d:UInt8):fold r [a,b,c,d]=steps 32 (r ^^^ (a.toBitVec.setWidth 32 ^^^ b.toBitVec.setWidth 32 <<<8 ^^^ c.toBitVec.setWidth 32 <<<16 ^^^ d.toBitVec.setWidth 32 <<<24)):=by
 show take (take (take (take r a) b) c) d=_;unfold take;generalize a.toBitVec=a;generalize b.toBitVec=b;generalize c.toBitVec=c;generalize d.toBitVec=d;obtain ⟨ko,_,_⟩:=Th b;obtain ⟨c1,c2,_⟩:=Th c;obtain ⟨d1,d2,d3⟩:=Th d;have e:∀ x,steps 32 x=steps 8 (steps 8 (steps 8 (steps 8 x))):=fun x=>by
  rw [← HX,← HX,← HX]
 rw [e];simp only [Q6,ko,c1,c2,d1,d2,d3]
 ac_rfl
theorem axM (x:BitVec 32):(lA x)[0]!.toBitVec.setWidth 32 ^^^ (lA x)[1]!.toBitVec.setWidth 32 <<<8 ^^^ (lA x)[2]!.toBitVec.setWidth 32 <<<16 ^^^ (lA x)[3]!.toBitVec.setWidth 32 <<<24=x:=by
 have h:∀ k,(UInt8.ofNat (x.toNat / 2 ^ k)).toBitVec=(x >>> k).setWidth 8:=by
  intro k;apply aUe;rw [aVB,aVm,aTF];exact aRJ
 have aF:(lA x)[0]!.toBitVec=(x >>> 0).setWidth 8:=by rw [← h 0];simp [lA]
 have γ:(lA x)[1]!.toBitVec=(x >>> 8).setWidth 8:=h 8;have ab:(lA x)[2]!.toBitVec=(x >>> 16).setWidth 8:=h 16;have aw:(lA x)[3]!.toBitVec=(x >>> 24).setWidth 8:=h 24;rw [aF,γ,ab,aw];apply aTg;intro i ar;simp only [aTC,aVn,BitVec.getLsbD_setWidth,aTD];by_cases i0:i<8
 ·simp [i0,ar,show i<16 by omega,show i<24 by omega]
 ·by_cases i1:i<16
  ·simp [i0,i1,ar,show i<24 by omega,show i - 8<8 by omega,show i - 8<32 by omega,show 8+(i - 8)=i by omega]
  ·by_cases i2:i<24
   ·simp [i0,i1,i2,ar,show ¬ i - 8<8 by omega,show i - 16<8 by omega,show i - 16<32 by omega,show 16+(i - 16)=i by omega]
   ·simp [i0,i1,i2,ar,show ¬ i - 8<8 by omega,show ¬ i - 16<8 by omega,show i - 24<8 by omega,show i - 24<32 by omega,show 24+(i - 24)=i by omega]
theorem asW (r x:BitVec 32):fold r (lA x)=steps 32 (r ^^^ x):=by
 have h:=asS r (lA x)[0]! (lA x)[1]! (lA x)[2]! (lA x)[3]!;rw [axM] at h;exact h
theorem ad3 (s:ByteArray):fold (~~~0#32) (sD s).data.toList=steps 32 (BitVec.allOnes 32):=by
 rw [XV,ad2,asW];unfold of more;generalize fold (~~~0#32) s.data.toList=r;have e:r ^^^ ~~~r=BitVec.allOnes 32:=by rw [not_xor,← aSg,aT6,aU1]
 rw [e]
theorem azs (s t:ByteArray) (d:BitVec 32) (hd:d≠0#32) (az:4≤t.size) (h:fold (~~~0#32) t.data.toList=fold (~~~0#32) (sD s).data.toList ^^^ d):kz t=(⟨#[]⟩,5):=by
 unfold kz;rw [aQV (by omega)];apply aQV;intro hs;have γ:=ad3 (t.extract 0 (t.size - 4));rw [hs,h,ad3] at γ;apply hd;have ab:steps 32 (BitVec.allOnes 32) ^^^ (steps 32 (BitVec.allOnes 32) ^^^ d)=0#32:=by rw [γ,aT6]
 rwa [← aSg,aT6,aU1] at ab

end Go.Proofs.YtlikikpgmmkjbaaGreat.eu
namespace Go.Proofs.YtlikikpgmmkjbaaGreat
open Tryz
end Go.Proofs.YtlikikpgmmkjbaaGreat
namespace Go.Proofs.YtlikikpgmmkjbaaGreat.eu
open Tryz
open Go.RowKit Go.Proofs.YtlikikpgmmkjbaaGreat.eV

def cells (l:List UInt8):List Value:=l.map fun b=>Value.int .u8 (b.toNat:Int)
theorem Tu (l rest:List UInt8) (i:Nat) (h:i<l.length):(cells (l++rest))[i]? =some (.int .u8 (l[i].toNat:Int)):=by
 unfold cells;simp [aVF,h]
theorem apl (l rest:List UInt8) (i:Nat) (b:UInt8) (h:i<l.length):(cells (l++rest)).set i (.int .u8 (b.toNat:Int))=cells (l.set i b++rest):=by
 have e:Value.int .u8 (b.toNat:Int)=(fun b:UInt8=>Value.int .u8 (b.toNat:Int)) b:=rfl;unfold cells;rw [e,← aRY,aVC _ _ h]
theorem aoC (s:ByteArray) (c:Nat):bytesRow s c=(cells (s.data.toList++List.replicate (c - s.size) 0)).toArray:=by
 unfold bytesRow cells;apply Array.toList_inj.1;simp
theorem aoD (aP:World) (T:ByteArray):∃ C cr L,(convert 9 76 (.string T)).run prog aP= .ok (.slice (some ⟨aP.heap.size,0,none⟩) T.size C) cr∧Below aP.heap.size aP cr∧
  aQ cr aP.heap.size (cells (T.data.toList++List.replicate (C - T.size) 0)) 5 (L,L+1)∧T.size≤L:=by
 refine ⟨grownCap aP T.size 0 5,_,(bytesRow T (grownCap aP T.size 0 5)).size,run_bytes_of_string (P:=prog) aP 9 76 5 T underlying9 underlying76 underlying5,(aRe _ _).drew.alloc (aQW _) _, ?_, ?_⟩
 ·rw [aoC];exact aQ.new aP.drew _ _ _
 ·unfold bytesRow;rw [aTN,Array.size_map];exact Nat.le_add_right _ _

theorem aby (b:BitVec 32) (k:Nat):(bits BinOp.and IntKind.u32 (U b / 2 ^ k) 1 == 1)=b.getLsbD k:=by
 have h:=b.isLt;have e:U b / 2 ^ k=((b.toNat / 2 ^ k:Nat):Int):=by unfold U;rw [Int.natCast_ediv];simp
 have hm:=bits_mask .u32 32 (by decide) aD9 1 (by decide) (U b / 2 ^ k) (by rw [e];exact aSu _) (by
  rw [e];have ab:b.toNat / 2 ^ k≤b.toNat:=aUZ _ _
  omega)
 have VY:bits BinOp.and IntKind.u32 (U b / 2 ^ k) 1=(U b / 2 ^ k) % 2:=hm;rw [VY,e];rw [BitVec.getLsbD,Nat.testBit,aTF];have aw:b.toNat / 2 ^ k % 2=0∨b.toNat / 2 ^ k % 2=1:=by omega
 rw [Nat.and_comm,aUw];rcases aw with aw | aw
 ·rw [aw];have:((b.toNat / 2 ^ k:Nat):Int) % 2=0:=by omega
  rw [this];rfl
 ·rw [aw];have:((b.toNat / 2 ^ k:Nat):Int) % 2=1:=by omega
  rw [this];rfl

theorem aBC:∀ j:Fin 8,IntKind.u8.wrap ((2:Int) ^ j.val)=((qW j.val).toNat:Int):=by decide +kernel
theorem aCs (x:UInt8) (j:Nat) (ay:j<8):bits BinOp.xor IntKind.u8 (x.toNat:Int) (IntKind.u8.wrap ((2:Int) ^ j))=((x ^^^ qW j).toNat:Int):=by
 have γ:=x.toNat_lt;have ab:=(qW j).toNat_lt;rw [aBC ⟨j,ay⟩,u8_xor_nat _ _ (by omega) (by omega),← UInt8.toNat_xor]

theorem azt {x:Int} (h:(Lit.int .u32 x).wf=true):∃ s:BitVec 32,x=U s:=by
 simp [Lit.wf,IntKind.min,IntKind.max,IntKind.signed,IntKind.bits] at h;exact ⟨BitVec.ofInt 32 x,(aa6 x (by omega) (by omega)).symm⟩
structure Inv (T:ByteArray) (b:BitVec 32) (p N k:Nat) (t:List UInt8):Prop where
 len:t.length=N
 low:∀ j,j<k→b.getLsbD j=true→p+j<8 * N
 sum:fold (~~~0#32) t=fold (~~~0#32) T.data.toList ^^^ steps (8 * N - p) (yG b k)
theorem Inv.skip {T:ByteArray} {b:BitVec 32} {p N k:Nat} {t:List UInt8} (h:Inv T b p N k t) (Φ:b.getLsbD k=false):Inv T b p N (k+1) t :=
 ⟨h.len,fun j ay Ko=>by
  by_cases e:j=k
  ·subst e;rw [Φ] at Ko;cases Ko
  ·exact h.low j (by omega) Ko,by rw [h.sum,yG,Φ];simp⟩
theorem Inv.aCz {T:ByteArray} {b:BitVec 32} {p N k:Nat} {t:List UInt8} (h:Inv T b p N k t) (av:k<32) (Φ:b.getLsbD k=true) (hp:p+k<8 * N) (ar:(p+k) / 8<t.length):
  Inv T b p N (k+1) (t.set ((p+k) / 8) (t[(p+k) / 8] ^^^ qW ((p+k) % 8))):=
 ⟨by rw [aQS];exact h.len,fun j ay Ko=>by
  by_cases e:j=k
  ·subst e;exact hp
  ·exact h.low j (by omega) Ko,by
  rw [asV _ _ _ _ (aSK _ (by decide)) ar,h.sum,yG,aQZ Φ,Q6,az1 _ k av (by omega),aSg];congr 2;rw [h.len];congr 1
  omega⟩

end Go.Proofs.YtlikikpgmmkjbaaGreat.eu
namespace Go.Proofs.YtlikikpgmmkjbaaGreat
open Tryz
section
def v8 (aC:Nat) (w:World) (A:Option Addr) (c:Nat) (t:List UInt8):Prop :=
 ∃ (g:Nat) (R:List UInt8) (L:Nat),A=some ⟨g,0,none⟩∧aC≤g∧aQ w g (eu.cells (t++R)) 5 (L,L+1)∧t.length≤L∧t.length≤c∧c≤9223372036854775807∧t.length≤140737488355328
section
variable {aC:Nat} {w w':World} {A:Option Addr} {c:Nat} {t:List UInt8} {S:List Nat}
theorem v8.lt (h:v8 aC w A c t):∀ q∈τ.ae A,aC≤q∧q<w.heap.size:=by
 obtain ⟨g,R,L,rfl,bB,bc,_⟩:=h;intro q I;rw [aQJ.1 I];exact ⟨bB,bc.lt⟩
theorem v8.later (h:v8 aC w A c t) (x:Ext w w'):v8 aC w' A c t:=by
 obtain ⟨g,R,L,rfl,bB,bc,hr⟩:=h;exact ⟨g,R,L,Z,bB,bc.later x,hr⟩
theorem abd {w:World}:∀ l:List UInt8,c0 (λ es a=>HT.has w es a) (l.map λ b=> [Value.int .u8 (b.toNat:Int)]) l
 | []=>trivial
 | b::l=>⟨⟨rfl,trivial⟩,abd l⟩
theorem abK:∀ l:List UInt8,(l.map λ b=> [Value.int .u8 (b.toNat:Int)]).flatten=eu.cells l
 | []=>rfl
 | b::l=>by rw [aRw,aRB,abK l];rfl
theorem v8.has (h:v8 aC w A c t):HT.aI 1 w A c t:=by
 obtain ⟨g,R,L,rfl,bB,bc,γ,ab,aw,aX⟩:=h;refine ⟨ab,aw,by omega,(λ e=>nomatch e),_,abd t, ?_⟩;rw [abK];refine ⟨by unfold eu.cells;rw [aRz];exact (aTs _).symm,λ _=>⟨g,0,rfl,λ j u hu=> ?_⟩⟩;rw [aRQ,bc.cell j];unfold eu.cells at hu ⊢;rw [aRc,aQ5 (by have:=(aQM.1 hu).1;exact this)];exact hu
end
section
variable {P:Program} {n:Nat} {E cR:List (Nat×Value)} {a:Act} {w w' w0 aP:World} {Q:Exit→Act→World→Prop} {ops:Array Oper} {v:Value}
variable {d:Option Nat} {ty:TypeId} {pos:String} {af:Array Edge} {g:Option (Nat×Bool)} {x y z:Operand} {t u:TypeId} {rest:List Oper} {i j:Int} {k k':IntKind}
theorem abH {m:Nat} (hx:ev E x=some (.int k i)) (aK:ev E y=some (.int k' (m:Int))) (hm:m≤k.bits) (aF:0≤i):cN P E ⟨d, .binOp .shr t x y u,ty,pos,af,g⟩ w (.int k (i / 2 ^ m)) w:=nW hx aK (by rfl:binOp .shr t (.int k i) (.int k' (m:Int))=Op.shift .shr k i k' (m:Int)) (by
 unfold Op.shift;rw [aQV (by omega)];show (pure (Value.int k (i.fdiv (2 ^ min (m:Int).toNat k.bits))):Sem Value).run _ _=_;rw [aRI,aSd hm,Int.fdiv_eq_ediv_of_nonneg _ (by exact Int.le_of_lt (Int.pow_pos (by decide)))];rfl)
theorem abG {m:Nat} (hx:ev E x=some (.int k 1)) (aK:ev E y=some (.int k' j)) (ay:j=(m:Int)) (hm:m≤k.bits):cN P E ⟨d, .binOp .shl t x y u,ty,pos,af,g⟩ w (.int k (k.wrap (2 ^ m))) w:=nW hx aK (by rfl:binOp .shl t (.int k 1) (.int k' j)=Op.shift .shl k 1 k' j) (by
 subst ay;unfold Op.shift;rw [aQV (by omega)];show (pure (Value.int k (k.wrap (1 * 2 ^ min (m:Int).toNat k.bits))):Sem Value).run _ _=_;rw [aRI,aSd hm,Int.one_mul];rfl)
theorem abr (hx:ev E x=some (.int k i)) (aK:ev E y=some (.int k j)):cN P E ⟨d, .binOp .and t x y u,ty,pos,af,g⟩ w (.int k (bits .and k i j)) w:=nW hx aK (binOp_and t k i j) rfl
theorem aoB {b:UInt8} {m:Nat} (hx:ev E x=some (.int .u8 (b.toNat:Int))) (aK:ev E y=some (.int .u8 (IntKind.u8.wrap (2 ^ m)))) (hm:m<8):cN P E ⟨d, .binOp .xor t x y u,ty,pos,af,g⟩ w (.int .u8 ((b ^^^ eu.qW m).toNat:Int)) w:=nW hx aK (binOp_xor t .u8 _ _) (by rw [← eu.aCs b m hm];rfl)
theorem apL {T:ByteArray} {dd:Nat} (hs:ev E x=some (.string T)) (b4:T.size≤140737488351232) (hd:Nat.blt dd n=true)
  (h:∀ aP A C,Ext w aP→v8 w.heap.size aP A C T.data.toList→cE prog n ops Q rest ((dd, .slice A T.size C)::E) aP):
  cE prog n ops Q (⟨some dd, .convert 9 76 x,ty,pos,af,none⟩::rest) E w:=by
 obtain ⟨C,cr,L,jR,bc,Φ,j6⟩:=eu.aoD w T;have dI:T.size≤C∧C≤9223372036854775807:=by
  have γ:=run_bytes_of_string (P:=prog) w 9 76 5 T underlying9 underlying76 underlying5;rw [γ] at jR;injection jR with a_ bh
  injection a_ with _ _ cD
  rw [← cD];exact ⟨grownCap_ge w T.size 0 _,grownCap_le_maxLen w T.size 0 _ (by simp only [maxLen];omega)⟩
 refine h6 (v:= .slice (some ⟨w.heap.size,0,none⟩) T.size C) (w':=cr) (λ m a ha=> ?_) hd (h cr _ _ bc ⟨w.heap.size,List.replicate (C - T.size) 0,L,Z,aQW _,Φ,j6,dI.1,dI.2,by show T.size≤_;omega⟩);simp only [execOp,ha.ev hs,aQY,jR,aQR,aQ3]
theorem aBl {aC c i:Nat} {A:Option Addr} {t1:List UInt8} {b:UInt8} (h:v8 aC w A c t1) (ar:i<t1.length) (hx:ev E x=some (.pointer (some ⟨eM A,kb A+i * 1,none⟩))) (aK:ev E y=some (.int .u8 (b.toNat:Int))) (hs:eF P t 1)
  (av:∀ aP,Mod (τ.ae A) w aP→v8 aC aP A c (t1.set i b)→cE P n ops Q rest E aP):cE P n ops Q (⟨none, .store t x y,ty,pos,af,none⟩::rest) E w:=by
 obtain ⟨g,R,L,rfl,bB,bc,γ,ab,aw,aX⟩:=h;have Wl:ev E x=some (.pointer (some ⟨g,i,none⟩)):=by rw [hx];simp [eM,kb]
 have rr:=bc.set i (.int .u8 (b.toNat:Int));rw [eu.apl t1 R i b ar] at rr;have hf:=bc.free i (.inl (by omega));have hm:w.cell? ⟨g,i,none⟩=some (.int .u8 ((t1[i]).toNat:Int)):=by rw [bc.cell i];exact eu.Tu t1 R i ar
 refine us (w':=w.setCell ⟨g,i,none⟩ (.int .u8 (b.toNat:Int))) (λ n a ha=> ?_) (av _ (show Mod [g] w _ from Mod.setCell w ⟨g,i,none⟩ _) ⟨g,R,L,Z,bB,rr,by rw [aQS];exact γ,by rw [aQS];exact ab,aw,by rw [aQS];exact aX⟩);have hQ:(storeVar t ⟨g,i,none⟩ (.int .u8 (b.toNat:Int))).run P w= .ok () (w.setCell ⟨g,i,none⟩ (.int .u8 (b.toNat:Int))):=by
  have vk:(Value.int .u8 (b.toNat:Int)).cells=#[.int .u8 (b.toNat:Int)]:=rfl;unfold storeVar;simp only [vk,aQY,hs w,aQR,aSc,aQQ,aQX,ne_eq,aRQ,aUF,aRZ,storeCells];have:(⟨g,i,none⟩:Addr).add 0=⟨g,i,none⟩:=rfl;rw [this,run_store P w _ (.int .u8 (b.toNat:Int)) _ rfl,hm];simp only [hf,aRr,aRZ,aQR,aQ3]
 simp only [execOp,ha.ev Wl,ha.ev aK,Instr.storeAt,Instr.sureAddr,aQY,aQ3,aQR,hQ]
end
end
end Go.Proofs.YtlikikpgmmkjbaaGreat
