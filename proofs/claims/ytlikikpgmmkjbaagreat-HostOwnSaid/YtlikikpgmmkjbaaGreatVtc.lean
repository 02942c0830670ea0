import Derived.Test.YtlikikpgmmkjbaaGreatSeo
set_option linter.unusedVariables false
set_option linter.unusedSimpArgs false
set_option maxRecDepth 100000
set_option maxHeartbeats 4000000
open Go.RowKit
namespace Go.Proofs.YtlikikpgmmkjbaaGreat
open Tryz
abbrev aXp:=@Nat.div_div_eq_div_mul
abbrev aY0:=@BitVec.getLsbD_ofNat
section
theorem apv:fa prog aO.rep 44 51 48:=fa.lK (z:=aO.zero) (k:=6) underlying44 aO.info rfl rfl (by decide) aO.iY
open Go.Proofs.YtlikikpgmmkjbaaGreat.fj
theorem ac1 {α:Type} {R:κ α} {w:World} {ax e by_ c:Nat} {A:Option Addr} {l:List α} (h:R.aD e by_ w ax (κ.ae A) A c l):∀ q∈κ.ae A,∃ cur:List Value,aN w q cur e (0,0):=λ q I=>by
 obtain ⟨_,ps,_,_,⟨_,b5⟩,_⟩:=h;rcases b5 with ⟨a8,_⟩ | ⟨g,cap,cur,a8,_,Φ,_⟩
 ·injection a8 with a8;subst a8;simp [κ.ae] at I
 ·injection a8 with a8;subst a8
  obtain rfl:=aUg.1 I;exact ⟨cur.toList,by simpa [aN] using Φ⟩
structure pH (w:World) (ax:Nat) (A:Option Addr) (c:Nat) (l:List aO):Prop where
 has:aO.rep.aK 48 w A c l
 lt:∀ q∈κ.ae A,ax≤q∧q<w.heap.size
 row:∀ q∈κ.ae A,∃ cur:List Value,aN w q cur 51 (0,0)
theorem aBR {A:Option Addr} {c:Nat} {l:List aO} {S:List Nat} {w w':World} (h:aO.rep.aK 48 w A c l) (m:Mod S w w') (bE:∀ q∈κ.ae A,q<w.heap.size) (hd:∀ x∈κ.ae A,x∉S):aO.rep.aK 48 w' A c l:=by
 obtain ⟨γ,aa,av,aV,ess,bJ,cg,ef⟩:=h;refine ⟨γ,aa,av,aV,ess,bJ,cg,λ aI=> ?_⟩
 ·obtain ⟨b,o,rfl,hc⟩:=ef aI;refine ⟨b,o,Z,λ j u hu=> ?_⟩;rw [← hc j u hu];have:=m.block b (bE b (aUg.2 rfl)) (hd b (aUg.2 rfl));simp only [World.cell?,this]
section
variable {w w':World} {ax sR:Nat} {A:Option Addr} {c:Nat} {l:List aO} {T:List bn} {S:List ch} {k i:Nat}
theorem pH.mod {B:List Nat} (h:pH w ax A c l) (m:Mod B w w') (hd:∀ x∈κ.ae A,x∉B):pH w' ax A c l :=
 ⟨aBR h.has m (λ q I=>(h.lt q I).2) hd,λ q I=>⟨(h.lt q I).1,aVN (h.lt q I).2 m.size⟩,λ q I=>by
  obtain ⟨cur,Φ⟩:=h.row q I;exact ⟨cur,by unfold aN;rw [m.block q Φ.lt (hd q I)];exact Φ⟩⟩
theorem pH.later (h:pH w ax A c l) (x:Ext w w'):pH w' ax A c l:=h.mod (B:= []) (Mod.bF x) λ _ _ h=>by simp at h
theorem pH.of (h:aO.rep.aD 51 48 w ax (κ.ae A) A c l):pH w ax A c l:=⟨h.has,λ q I=>h.lt q I,ac1 h⟩
theorem ZH {lo s q:Nat} (h:q∈κ.ae (e_ A c lo s)):q∈κ.ae A:=by
 unfold e_ at h;split at h
 ·exact h
 ·cases A with
  | none=>exact h
  | some a =>
   have e:(a.add (lo * s)).block=a.block:=by unfold Addr.add;split<;>rfl
   have h:q∈ [(a.add (lo * s)).block]:=h;rw [e] at h;exact h
theorem pH.cut (h:pH w ax A c l) (aI:0<l.length):pH w ax (e_ A c 1 6) (c - 1) (l.drop 1):=by
 have hc:=h.has.1;have hs:=h.has.sub 1 l.length (by omega) (by omega);rw [aUI (by rw [aUE];exact aUu _)] at hs;exact ⟨hs,λ q I=>h.lt q (ZH I),λ q I=>h.row q (ZH I)⟩
def hW (w:World) (ax:Nat) (T:List bn) (S:List ch):Prop:=T.map (λ v=>(v.late,v.gone))=S.map (λ s=>(s.late,s.gone))∧∀ (i:Nat) (v:bn),T[i]? =some v→∃ s:ch,S[i]? =some s∧v.n=s.waits.length∧pH w ax v.a v.c s.waits
theorem hW.len (h:hW w ax T S):T.length=S.length:=by have:=aVA List.length h.1;simpa using this
theorem hW.mod {B:List Nat} (h:hW w ax T S) (m:Mod B w w') (hd:∀ q∈eY T,q∉B):hW w' ax T S:=⟨h.1,λ i v aq=>by
 obtain ⟨s,γ,aa,av⟩:=h.2 i v aq;exact ⟨s,γ,aa,av.mod m λ q I=>hd q (tA aq I)⟩⟩
theorem hW.later (h:hW w ax T S) (x:Ext w w'):hW w' ax T S:=⟨h.1,λ i v aq=>by
 obtain ⟨s,γ,aa,av⟩:=h.2 i v aq;exact ⟨s,γ,aa,av.later x⟩⟩
theorem hW.down (h:hW w ax T S) (bB:sR≤ax):hW w sR T S:=⟨h.1,λ i v aq=>by
 obtain ⟨s,γ,aa,av⟩:=h.2 i v aq;exact ⟨s,γ,aa,av.has,λ q I=>⟨aUP bB (av.lt q I).1,(av.lt q I).2⟩,av.row⟩⟩
theorem hW.lt (h:hW w ax T S):∀ q∈eY T,ax≤q∧q<w.heap.size:=λ q I=>by
 obtain ⟨i,v,aq,I⟩:=NO I;obtain ⟨s,γ,aa,av⟩:=h.2 i v aq;exact av.lt q I
theorem hW.nil (w:World) (ax:Nat):hW w ax [] []:=⟨rfl,λ i v h=>by simp at h⟩
theorem e7.Jw (h:e7 w ax T S):hW w ax T S:=⟨h.2.1,λ i v aq=>by
 obtain ⟨A,c,s,γ,aa,av⟩:=h.get (k:=i) (aUj.1 aq).1;rw [aq] at γ;obtain rfl:=aUh γ;exact ⟨s,aa,Z,pH.of av⟩⟩
theorem hW.yi (h:hW w ax T S):oS w T S:=by
 refine ⟨⟨by simp [h.len],λ i v aq=> ?_⟩,h.1⟩;rw [aUx] at aq;cases b7:T[i]? with
 | none=>rw [b7] at aq;cases aq
 | some u =>
  rw [b7] at aq;obtain rfl:=aUh aq;obtain ⟨s,γ,aa,av⟩:=h.2 i u b7;exact ⟨s.waits,by rw [aUx,γ];rfl,aa,av.has⟩
theorem hW.get (h:hW w ax T S) (aw:k<T.length):∃ (A:Option Addr) (c:Nat) (s:ch),T[k]? =some ⟨A,s.waits.length,c,s.late,s.gone⟩∧S[k]? =some s∧pH w ax A c s.waits:=by
 obtain ⟨A,c,s,γ,aa,av⟩:=h.yi.at_ aw;obtain ⟨s',aV,bJ,cg⟩:=h.2 k _ γ;rw [aa] at aV;obtain rfl:=aUh aV;exact ⟨A,c,s,γ,aa,cg⟩
theorem hW.set (h:hW w ax T S) {c:Nat} {s:ch} (aw:k<T.length) (o:pH w ax A c s.waits):hW w ax (T.set k ⟨A,s.waits.length,c,s.late,s.gone⟩) (S.set k s):=by
 have gv:k<S.length:=by rw [← h.len];exact aw
 refine ⟨by rw [aVD,aVD,h.1],λ i v aq=> ?_⟩;by_cases l1:k=i
 ·subst l1;rw [aUG aw] at aq;obtain rfl:=aUh aq;exact ⟨s,aUG gv,Z,o⟩
 ·rw [aUJ l1] at aq;obtain ⟨s',γ,aa,av⟩:=h.2 i v aq;exact ⟨s',by rw [aUJ l1];exact γ,aa,av⟩
end
def wj (s:ch):ch:=if 0<s.waits.length then ⟨s.waits,0,s.gone⟩ else if s.gone=false then ⟨s.waits,min (s.late+1) 1000000,s.gone⟩ else s
def Bm (S:List ch) (k:Nat):List ch:=(S.take k).map wj++S.drop k
theorem aAo (S:List ch):Bm S S.length=S.map wj:=by unfold Bm;rw [aVd,List.drop_length,aUV]
theorem RV {S:List ch} {k:Nat}:(Bm S k)[k]? =S[k]? :=by
 unfold Bm;rcases aVf k S.length with h | h
 ·rw [aUF (by rw [aUZ,aUm];omega),aUZ,aUm,aV6 (by omega),aVo];simp
 ·rw [aVp (by simp;omega),aVp h]
theorem Yq {S:List ch} {k:Nat} {s:ch} (h:S[k]? =some s):Bm S (k+1)=(Bm S k).set k (wj s):=by
 obtain ⟨aw,rfl⟩:=aUj.1 h;unfold Bm;have e:((S.take k).map wj).length=k:=by rw [aUZ,aUm];omega
 rw [aUM aw,aUK,aUX,aXC _ _ (by omega),e,aX4,aV3 aw];rfl
theorem aDY {S:List ch} {k:Nat} {s:ch} (h:xk S) (hs:S[k]? =some s):0≤s.late∧s.late≤1000000:=by
 have γ:=(h.2.2 k s hs).2;unfold ch.yg at γ;simp only [aUp,aVn,aU8,aU1] at γ;omega
def BJ (m:Nat) (x:List ch×List aO) (i:Nat):List ch×List aO:=match x.1[i]? with
 | some s=>if 0<s.waits.length∧x.2.length<m then (x.1.set i ⟨s.waits.drop 1,s.late,s.gone⟩,x.2++ [s.waits.getD 0 default]) else x
 | none=>x
def Gw (m:Nat) (x:List ch×List aO):List ch×List aO:=(List.range x.1.length).foldl (BJ m) x
def CX (m:Nat):Nat→List ch×List aO→List ch×List aO
 | 0,x=>x
 | f+1,x=>if (Gw m x).2.length=x.2.length then Gw m x else CX m f (Gw m x)
def vL (m:Nat) (S:List ch):List ch×List aO:=CX m (m+1) (S.map wj, [])
theorem aEA {m i:Nat} {S:List ch} {out:List aO} {s:ch} (hs:S[i]? =some s) (h:¬(0<s.waits.length∧out.length<m)):BJ m (S,out) i=(S,out):=by
 unfold BJ;rw [show (S,out).1[i]? =some s from hs];exact aUr h
theorem aEB {m i:Nat} {S:List ch} {out:List aO} {s:ch} (hs:S[i]? =some s) (h:0<s.waits.length∧out.length<m):BJ m (S,out) i=(S.set i ⟨s.waits.drop 1,s.late,s.gone⟩,out++ [s.waits.getD 0 default]):=by
 unfold BJ;rw [show (S,out).1[i]? =some s from hs];exact aUz h
theorem afU (m i:Nat) (x:List ch×List aO):(List.range (i+1)).foldl (BJ m) x=BJ m ((List.range i).foldl (BJ m) x) i:=by rw [aVT,aV9];rfl
theorem ary {m f:Nat} {x y:List ch×List aO} (aH:Gw m x=y) (h:y.2.length=x.2.length) (hf:0<f):CX m f x=y:=by
 obtain ⟨f,rfl⟩:∃ k,f=k+1:=⟨f - 1,by omega⟩;rw [CX,aH,aUz h]
theorem arz {m f:Nat} {x y:List ch×List aO} (aH:Gw m x=y) (h:¬ y.2.length=x.2.length) (hf:0<f):CX m f x=CX m (f - 1) y:=by
 obtain ⟨f,rfl⟩:∃ k,f=k+1:=⟨f - 1,by omega⟩;rw [CX,aH,aUr h];rfl
def ad0 (S:List ch) (m:Int):Prop:=xk S∧1≤m∧m≤100
def an9 (S:List ch) (m:Int) (e:Int) (S':List ch) (out:List aO):Prop:=(e=0∧ad0 S m∧(S',out)=vL m.toNat S)∨(e≠0∧¬ ad0 S m∧S'= []∧out= [])
def Kk (m:Nat) (C x:List ch×List aO) (CM:Bool):Prop:=(CM=true∧∃ f,m<f+x.2.length∧CX m f x=C)∨(CM=false∧x=C)
theorem Kk.next {m:Nat} {C x y:List ch×List aO} (h:Kk m C x true) (aH:Gw m x=y) (hm:x.2.length≤m) (aB:x.2.length≤y.2.length):Kk m C y (decide (y.2.length≠x.2.length)):=by
 rcases h with ⟨_,f,γ,aa⟩ | ⟨h,_⟩
 ·by_cases he:y.2.length=x.2.length
  ·refine .inr ⟨by simp [he], ?_⟩;rw [← aa,ary aH he (by omega)]
  ·refine .inl ⟨by simp [he],f - 1,by omega, ?_⟩;rw [← aa,arz aH he (by omega)]
 ·cases h
theorem aDW {α:Type} {l:List α} {k:Nat} {a:α} (h:l[k]? =some a):l.set k a=l:=by
 obtain ⟨aw,rfl⟩:=aUj.1 h;exact aV1 aw
theorem alz {T:List bn} {k q:Nat} {A:Option Addr} {n c jU b_:Nat} {l:Int} {g:Bool} (b7:T[k]? =some ⟨A,n,c,l,g⟩) (h:q∈eY (T.set k ⟨e_ A c 1 6,jU,b_,l,g⟩)):q∈eY T:=(NP h).elim SJ λ h=>tA b7 (ZH h)
theorem arx {m a b:Nat} {g:Bool} (h:g=decide (b≠a)) (γ:a≤b) (aa:b≤m):m+1 - b+g.toNat<m+1 - a+true.toNat:=by
 subst h;by_cases e:b=a
 ·subst e;simp
 ·simp [e];omega
theorem aDV (A:Option Addr) (c:Nat) (T:List bn) (S:List ch) (m:Int) (w:World) (b7:bn.rep.aK 40 w A c T) (hS:oS w T S):
  Calls prog 106 #[.slice A T.length c, .int .i64 m] w (λ e w'=>∃ (e':Int) (bL:Option Addr) (b_:Nat) (j3:List bn) (S':List ch) (j2:Option Addr) (co:Nat) (out:List aO),e= .returned (.tuple #[.slice bL j3.length b_, .slice j2 out.length co, .int .i64 e'])∧an9 S m e' S' out∧bn.rep.aD 90 40 w' w.heap.size (κ.ae bL) bL b_ j3∧hW w' w.heap.size j3 S'∧aO.rep.aD 51 48 w' w.heap.size (κ.ae j2) j2 co out∧(∀ q∈κ.ae bL,q∉eY j3)∧(∀ q∈κ.ae j2,q∉κ.ae bL∧q∉eY j3)∧Ext w w'):=by
 have zi:=b7.dT;have L_:=b7.2.2.1;refine cl (n:=102) func106 Z Z Z ?_;refine ai<|va Z<|va Z<|va Z<|ag<|az<|ai<|vm Z<|ca Qu Z Z ((SI _ _ T S _ (b7.keep (Ext.bK w)) (hS.keep (Ext.bK w))).mono ?_);rintro e ku ⟨EJ,rfl,s5,a7⟩;refine ⟨_,Z, ?_⟩;have:=a7.size;have di:=τ (Ext.bK w) a7;refine va Z<|ag<|ai<|vm Z<|J (bne Z Z)<|ag<| ?_;refine eU Z (λ lY=> ?_) (λ lY=> ?_)
 ·refine ai<|vm Z<|va Z<|va Z<|va Z<|ag<|rt<|bT<|bb (.tmp Z (.tmp Z (.tmp Z .nil)))<| ?_;exact ⟨EJ,none,0, [], [],none,0, [],Z, .inr ⟨(by simpa using lY),(λ bh=>(show ¬ EJ=0 by simpa using lY) (s5.2 bh.1)),Z,Z⟩,κ.aD.nil _,hW.nil _ _,κ.aD.nil _,λ q I=>by simp [κ.ae] at I,λ q I=>by simp [κ.ae] at I,di⟩
 ·have Fz:=s5.1 (by simpa using lY);refine bt<|az<|ai<|vm Z<|J (blt Z Z)<|vm Z<|br Z Z Z Z (λ hc=>aM Z) Z<|br Z Z Z Z (λ hc=>iK (gt hc Z) Z) Z<|J (fM Z Z Z Z)<|ag<| ?_;refine ee Z (λ mT=> ?_) (λ mT=> ?_)
  ·simp only [cH] at mT;refine ai<|va Z<|va Z<|va Z<|ag<|rt<|bT<|bb (.tmp Z (.tmp Z (.tmp Z .nil)))<| ?_;exact ⟨1,none,0, [], [],none,0, [],Z, .inr ⟨(by decide),(λ bh=>by have:=bh.2;omega),Z,Z⟩,κ.aD.nil _,hW.nil _ _,κ.aD.nil _,λ q I=>by simp [κ.ae] at I,λ q I=>by simp [κ.ae] at I,di⟩
  ·simp only [cH] at mT;have Dv:1≤m∧m≤100:=by omega
   refine bt<|ai<|vm Z<|ca VP Z Z ((ZQ _ _ T S _ (b7.keep di) (hS.keep di)).mono ?_);rintro e aaf ⟨qu,eb,AL,rfl,UA,Pn,aw9,ank⟩;refine ⟨_,Z, ?_⟩;have:=ank.size;have yv:=τ di ank;have aFv:=λ q I=>(UA.lt q I).2;have aOP:=λ q I=>(UA.lt q I).1;have aRQ:=λ q I=>(Pn.lt q I).2;have aNr:=λ q I=>(Pn.lt q I).1;refine va Z<|ag<|az<|ai<|vm Z<|J (cj underlying80 Z)<|vm Z<|ag<|bA<| ?_;have ahA:AL.length=S.length:=Pn.yi.len;have L':=hS.len;have aoO:hW aaf ku.heap.size AL (Bm S 0):=Pn.Jw;refine dX (λ b4 b2 aG=>∃ k:Nat,∃ ly:List bn,b2= [(0, .slice qu AL.length eb),(1, .int .i64 m),(4, .slice none 0 0),(5, .slice none 0 0),(6, .int .i64 0),(28, .int .i64 (AL.length:Int)),(29, .int .i64 (k:Int))]∧b4=S.length - k∧Ext w aG∧bn.rep.aD 90 40 aG ku.heap.size (κ.ae qu) qu eb ly∧hW aG ku.heap.size ly (Bm S k)∧(k≤S.length)∧(ly.length=S.length)∧(∀ q∈eY ly,q∈κ.ae qu→False)) _ _ ⟨0,AL,Z,Z,yv,UA,aoO,by omega,ahA,λ q γ aa=>aw9 q aa γ⟩ (.cons Z (.cons Z (.cons Z (.cons Z (.cons Z (.cons Z (.cons (bO Z) .nil))))))) ?_;rintro YJ aIG zZ ⟨k,ly,rfl,rfl,iX,xg,sN,aw,uK,Di⟩;have:=iX.size;have amr:=λ q I=>(xg.lt q I).2;have aRR:∀ q∈eY ly,q<zZ.heap.size:=λ q I=>(sN.lt q I).2;have aNt:∀ q∈eY ly,ku.heap.size≤q:=λ q I=>(sN.lt q I).1;refine ai<|J (blt Z Z)<|ag<|az<| ?_;refine dw Z (λ ld=> ?_) (λ ld=> ?_)
   ·obtain ⟨df,cJ,bc,eV,iP,aJk⟩:=sN.get (k:=k) (by omega);rw [RV] at iP;have r8:=aDY Fz iP;refine bt<|az<|bA<|ai<|vm Z<|va Z<|ag<|ai<|vm Z<|vm Z<|J (bY k underlying80 h9 Z Z (xg.has.bu (aX k)) Z (by omega))<|va Z<|ag<|bA<|ai<|vm Z<|J (b6 Z)<|J (au oe Z)<| ?_;refine J (v:= .slice df bc.waits.length cJ) (ak Z (κ.aK.j9 l0 (xg.has.cr (aX k)) 0 eV Z kL))<|J (cj underlying44 Z)<|J (iK Z Z)<|va Z<|ag<| ?_;refine dw Z (λ oi=> ?_) (λ oi=> ?_)
    ·refine rg<|vm Z<|J (b6 Z)<|J (au HT Z)<|so (q':=(⟨(⟨df,bc.waits.length,cJ,bc.late,bc.gone⟩:bn).a,(⟨df,bc.waits.length,cJ,bc.late,bc.gone⟩:bn).n,(⟨df,bc.waits.length,cJ,bc.late,bc.gone⟩:bn).c,0,(⟨df,bc.waits.length,cJ,bc.late,bc.gone⟩:bn).gone⟩:bn)) (j:=1) (i:=k) xg κ.dE eV Z Z Z Z (λ _ cs h=>by have qd:=(show _∧_ from h).2;obtain rfl:=l0 h;exact ⟨rfl,bN.2 (by (try dsimp only);omega)⟩) Z Z cU λ z1 DQ ao3=> ?_;have:=DQ.size;have nk:=Ext.mod iX DQ (λ q I=>aUP (by omega) (xg.lt q I).1);refine nl<|bX<|bX<|aT<|rg<|J (bad Z Z (bH (by omega)))<|vm Z<|nl<| ?_;have sN:=sN.mod DQ (λ q I h=>Di q I h);obtain ⟨_,LM,_,UB⟩:=sN.2 k _ eV;obtain rfl:=aUh ((RV.trans iP).symm.trans LM);have WN:wj bc=⟨bc.waits,0,bc.gone⟩:=by unfold wj;rw [aUz (by omega)]
     exact cO _ _ ⟨k+1,(ly).set k ((⟨(⟨df,bc.waits.length,cJ,bc.late,bc.gone⟩:bn).a,(⟨df,bc.waits.length,cJ,bc.late,bc.gone⟩:bn).n,(⟨df,bc.waits.length,cJ,bc.late,bc.gone⟩:bn).c,0,(⟨df,bc.waits.length,cJ,bc.late,bc.gone⟩:bn).gone⟩:bn)),Z,Z,nk,ao3,(by rw [Yq iP,WN];exact hW.set (s:=⟨bc.waits,0,bc.gone⟩) sN (by omega) UB),by omega,by rw [aUs];exact uK,λ q γ aa=>(NP γ).elim (λ γ=>Di q (SJ γ) aa) (λ γ=>Di q (tA eV γ) aa)⟩ (by omega) (.cons Z (.cons Z (.cons Z (.cons Z (.cons Z (.cons Z (.cons (bO Z) .nil)))))))
    ·refine ai<|vm Z<|J (b6 Z)<|J (au Ll Z)<|J (v:= .bool bc.gone) (ak Z (κ.aK.j9 l0 (xg.has.cr (aX k)) 2 eV Z HX))<|J (eF Z)<|va Z<|ag<| ?_;refine ee Z (λ s4=> ?_) (λ s4=> ?_)
     ·simp only [aVn,aVX] at s4;refine rg<|vm Z<|vm Z<|J (b6 Z)<|J (au HT Z)<|J (v:= .int .i64 bc.late) (ak Z (κ.aK.j9 l0 (xg.has.cr (aX k)) 1 eV Z bf))<|J (bad Z Z (bH (by omega)))<|J (ou Z Z)<|J (b6 Z)<|J (au HT Z)<|so (q':=(⟨(⟨df,bc.waits.length,cJ,bc.late,bc.gone⟩:bn).a,(⟨df,bc.waits.length,cJ,bc.late,bc.gone⟩:bn).n,(⟨df,bc.waits.length,cJ,bc.late,bc.gone⟩:bn).c,min (bc.late+1) 1000000,(⟨df,bc.waits.length,cJ,bc.late,bc.gone⟩:bn).gone⟩:bn)) (j:=1) (i:=k) xg κ.dE eV Z Z Z Z (λ _ cs h=>by have qd:=(show _∧_ from h).2;obtain rfl:=l0 h;exact ⟨rfl,bN.2 (by (try dsimp only);omega)⟩) Z Z cU λ BS h_ vA=> ?_;have:=h_.size;have qp:=Ext.mod iX h_ (λ q I=>aUP (by omega) (xg.lt q I).1);refine nl<|bX<|bX<|aT<|rg<|J (bad Z Z (bH (by omega)))<|vm Z<|nl<| ?_;have sN:=sN.mod h_ (λ q I h=>Di q I h);obtain ⟨_,LM,_,UB⟩:=sN.2 k _ eV;obtain rfl:=aUh ((RV.trans iP).symm.trans LM);have WN:wj bc=⟨bc.waits,min (bc.late+1) 1000000,bc.gone⟩:=by unfold wj;rw [aUr (by omega),aUz s4]
      exact cO _ _ ⟨k+1,(ly).set k ((⟨(⟨df,bc.waits.length,cJ,bc.late,bc.gone⟩:bn).a,(⟨df,bc.waits.length,cJ,bc.late,bc.gone⟩:bn).n,(⟨df,bc.waits.length,cJ,bc.late,bc.gone⟩:bn).c,min (bc.late+1) 1000000,(⟨df,bc.waits.length,cJ,bc.late,bc.gone⟩:bn).gone⟩:bn)),Z,Z,qp,vA,(by rw [Yq iP,WN];exact hW.set (s:=⟨bc.waits,min (bc.late+1) 1000000,bc.gone⟩) sN (by omega) UB),by omega,by rw [aUs];exact uK,λ q γ aa=>(NP γ).elim (λ γ=>Di q (SJ γ) aa) (λ γ=>Di q (tA eV γ) aa)⟩ (by omega) (.cons Z (.cons Z (.cons Z (.cons Z (.cons Z (.cons Z (.cons (bO Z) .nil)))))))
     ·simp only [aVn,aVX] at s4;refine fv<|bX<|bX<|aT<|rg<|J (bad Z Z (bH (by omega)))<|vm Z<|nl<| ?_;exact cO _ _ ⟨k+1,ly,Z,Z,iX,xg,(by rw [Yq iP,show wj bc=bc from by unfold wj;rw [aUr (by omega),aUr (by rw [s4];decide)],aDW (by rw [RV];exact iP)];exact sN),by omega,uK,Di⟩ (by omega) (.cons Z (.cons Z (.cons Z (.cons Z (.cons Z (.cons Z (.cons (bO Z) .nil)))))))
   ·have mS:k=S.length:=by omega
    subst mS;rw [aAo] at sN;refine c_<|c9<|dn<|c8<|aT<|ai<|va Z<|ag<|az<|ai<|va Z<|ag<|bA<| ?_;refine dX (λ b4 b2 aG=>∃ yV:List bn,∃ CK:List ch,∃ cw:Option Addr,∃ gu:Nat,∃ out:List aO,∃ CM:Bool,b2= [(0, .slice qu AL.length eb),(1, .int .i64 m),(4, .slice none 0 0),(5, .slice none 0 0),(6, .int .i64 0),(10, .slice cw out.length gu),(11, .bool CM)]∧b4=m.toNat+1 - out.length+CM.toNat∧Ext w aG∧bn.rep.aD 90 40 aG ku.heap.size (κ.ae qu) qu eb yV∧aO.rep.aD 51 48 aG w.heap.size (κ.ae cw) cw gu out∧hW aG ku.heap.size yV CK∧(Kk m.toNat (vL m.toNat S) (CK,out) CM)∧(yV.length=S.length)∧(out.length≤m.toNat)∧(∀ q∈eY yV,q∈κ.ae qu→False)∧(∀ q∈eY yV,q∈κ.ae cw→False)∧(CK.length=S.length)∧(∀ q∈κ.ae cw,q∈κ.ae qu→False)) _ _ ⟨ly,(S.map wj),none,0, [],true,Z,Z,iX,xg,(κ.aD.nil _),sN, .inl ⟨Z,_,by simp,rfl⟩,uK,by simp,Di,λ q γ aa=>by simp [κ.ae] at aa,by simp,(λ q I Φ=>by (simp [κ.ae] at I))⟩ (q4 Z) ?_;rintro si aIW z8 ⟨yV,CK,cw,gu,out,CM,rfl,rfl,mD,Uz,Uy,Po,eg,ahw,ahR,hdr,Ry,ahv,aeL⟩;have:=mD.size;have zV:=λ q I=>(Uz.lt q I).2;have Ec:=λ q I=>(Uy.lt q I).2;have aRS:∀ q∈eY yV,q<z8.heap.size:=λ q I=>(Po.lt q I).2;have aNu:∀ q∈eY yV,ku.heap.size≤q:=λ q I=>(Po.lt q I).1;refine az<|ai<|vm Z<|ag<| ?_;refine ee Z (λ rW=> ?_) (λ rW=> ?_)
    ·rw [rW] at eg;refine bt<|bA<|ai<|va Z<|ag<|ai<|vm Z<|J (cj underlying80 Z)<|vm Z<|ag<|bA<| ?_;refine dX (λ b4 b2 aG=>∃ i:Nat,∃ xm:List bn,∃ E8:List ch,∃ yB:Option Addr,∃ ci:Nat,∃ dL:List aO,∃ y_:Bool,b2= [(0, .slice qu AL.length eb),(1, .int .i64 m),(4, .slice none 0 0),(5, .slice none 0 0),(6, .int .i64 0),(10, .slice yB dL.length ci),(11, .bool y_),(61, .bool CM),(62, .slice qu AL.length eb),(63, .int .i64 (AL.length:Int)),(64, .int .i64 (i:Int))]∧b4=S.length - i∧Ext w aG∧bn.rep.aD 90 40 aG ku.heap.size (κ.ae qu) qu eb xm∧aO.rep.aD 51 48 aG w.heap.size (κ.ae yB) yB ci dL∧hW aG ku.heap.size xm E8∧(i≤S.length)∧(xm.length=S.length)∧(dL.length≤m.toNat)∧(∀ q∈eY xm,q∈κ.ae qu→False)∧(∀ q∈eY xm,q∈κ.ae yB→False)∧(E8.length=S.length)∧((E8,dL)=(List.range i).foldl (BJ m.toNat) (CK,out))∧(y_=decide (dL.length≠out.length))∧(out.length≤dL.length)∧(∀ q∈κ.ae yB,q∈κ.ae qu→False)) _ _ ⟨0,yV,CK,cw,gu,out,false,Z,Z,mD,Uz,Uy,Po,by omega,ahw,ahR,hdr,Ry,ahv,rfl,(by simp),aUu _,(λ q I Φ=>by (exact aeL q I Φ))⟩ (.cons Z (.cons Z (.cons Z (.cons Z (.cons Z (.cons Z (.cons Z (.cons Z (.cons Z (.cons Z (.cons (bO Z) .nil))))))))))) ?_;rintro Bx aoh Of ⟨i,xm,E8,yB,ci,dL,y_,rfl,rfl,rh,ue,E2,py,aq,XJ,XQ,L5,Mj,XI,hF,V7,XR,Fj⟩;have:=rh.size;have amy:=λ q I=>(ue.lt q I).2;have aFr:=λ q I=>(E2.lt q I).2;have aFc:∀ q∈eY xm,q<Of.heap.size:=λ q I=>(py.lt q I).2;have aNs:∀ q∈eY xm,ku.heap.size≤q:=λ q I=>(py.lt q I).1;refine ai<|J (blt Z Z)<|ag<|az<| ?_;refine dw Z (λ LR=> ?_) (λ LR=> ?_)
     ·obtain ⟨df,cJ,bc,eV,iP,pI⟩:=py.get (k:=i) (by omega);refine bt<|az<|bA<|ai<|vm Z<|va Z<|ag<|ai<|vm Z<|vm Z<|J (bY i underlying80 h9 Z Z (ue.has.bu (aX i)) Z (by omega))<|va Z<|ag<|ai<|vm Z<|J (b6 Z)<|J (au oe Z)<|J (v:= .slice df bc.waits.length cJ) (ak Z (κ.aK.j9 l0 (ue.has.cr (aX i)) 0 eV Z kL))<| ?_;refine J (cj underlying44 Z)<|J (iK Z Z)<|vm Z<|br Z Z Z Z (λ hc=>aM Z) Z<|br Z Z Z Z (λ hc=>cj underlying44 (gt hc Z)) Z<|br Z Z Z Z (λ hc=>aM Z) Z<|br Z Z Z Z (λ hc=>blt (gt hc Z) (gt hc Z)) Z<|J (e9 Z Z Z Z)<|ag<| ?_;refine ee Z (λ Dd=> ?_) (λ Dd=> ?_)
      ·simp only [cH] at Dd;have vW:0<bc.waits.length∧dL.length<m.toNat:=by omega
       obtain ⟨_,LM,_,pI⟩:=py.2 i _ eV;obtain rfl:=aUh (iP.symm.trans LM);have amn:=λ q I=>(pI.lt q I).2;have az8:=λ q I=>(pI.lt q I).1;have Qi:∀ q∈κ.ae df,q∈κ.ae qu→False:=λ q γ aa=>L5 q (tA eV γ) aa;have aeV:∀ q∈κ.ae df,q∈κ.ae yB→False:=λ q γ aa=>Mj q (tA eV γ) aa;have ayn:(bc.waits.getD 0 default).ok:=aO.oT pI.has _ (jT vW.1);refine SC (κ.ae yB) [(5,0),(7,0),(8,2),(9,2),(13,0),(18,3)] [0,1,2,3,4,5,6,7,10,11,12,13,14,8,9,15,16,17,18,19] (by kernel_rfl) (by kernel_rfl) ?_;refine jF Z Z (λ _=>aM Z) Z<|jF Z Z (λ _=>aM Z) Z<|jF Z Z (λ _=>aM Z) Z<|jF Z Z (λ _=>b6 Z) Z<|jF Z Z (λ _=>au oe Z) Z<|y9 (v:= .slice df bc.waits.length cJ) Z Z (λ _ x=>ak Z (κ.aK.j9 l0 ((ue.mod x (λ q I h=>Fj q h I)).has.cr (aX i)) 0 eV Z kL)) Z<|jF Z Z (λ _=>bY 0 underlying44 eI Z Z (pI.has.bu (aX 0)) Z (by omega)) Z<|y9 Z Z (λ _ x=>ak Z (κ.aK.hb Dg ((pI.mod x (λ q I h=>aeV q I h)).has.cr (aX 0)) (dH (l:=bc.waits) (u:=default) (j:=0) (by omega)) iM eI)) Z<|jF Z Z (λ _=>aM Z) Z<|jF Z Z (λ _=>b6 Z) Z<|jF Z Z (λ _=>au oe Z) Z<|y9 (v:= .slice df bc.waits.length cJ) Z Z (λ _ x=>ak Z (κ.aK.j9 l0 ((ue.mod x (λ q I h=>Fj q h I)).has.cr (aX i)) 0 eV Z kL)) Z<|jF Z Z (λ _=>aly 1 underlying44 eI Z Z Z (by omega)) Z<|Fu Z Z Z λ Og jq Q hK=>c6 (e:= 51) (cs:= [.int .i64 ((bc.waits.getD 0 default).by_), .int .i64 ((bc.waits.getD 0 default).kind), .int .i64 ((bc.waits.getD 0 default).aU), .int .i64 ((bc.waits.getD 0 default).spot.x), .int .i64 ((bc.waits.getD 0 default).spot.y), .int .i64 ((bc.waits.getD 0 default).what)]) Z (λ _=>by kernel_rfl) Z λ BV vF iD Yp w9=>hK _ _ ⟨Mod.bF (τ jq iD), ?_⟩;have:=jq.size;have qs:=τ rh jq;have:=iD.size;have lT:=τ qs iD;have Zm:=w9.lt;have E2:=E2.later (τ jq iD);refine Fu Z Z Z λ aam lq Q hK=>ap apv κ.dE (E2.later lq) ((aN.gM (R:=aO.rep) (by_:=48) (q:=bc.waits.getD 0 default) w9 ⟨Z,ayn⟩ (by decide)).keep lq) Z Z (by simp only [aUn,aUt];omega) (by simp only [aUn,aUt];omega) (by have:=lq.size;omega) Z λ Oi He qD kT yU Fw aBy=>hK _ _ ⟨(Mod.bF lq).trans kT, ?_⟩;have:=lq.size;have G5:=τ lT lq;have:=kT.size;have yx:=Ext.mod G5 kT (λ q I=>aUP (by omega) ((E2.later lq).lt q I).1);have wG:=λ q I=>(yU.lt q I).2;have:=kT.size;refine jF Z Z (λ _=>fA Z) Z<|jF Z Z (λ _=>b6 Z) Z<|jF Z Z (λ _=>au oe Z) Z<| ?_;have ue:=ue.later (τ jq (τ iD lq));have ue:=ue.mod kT (λ q I h=>Fj q h I);refine We Z Z Z λ Tq gJ Q hK=>so (q':=(⟨e_ df cJ 1 6,bc.waits.length - 1,cJ - 1,(⟨df,bc.waits.length,cJ,bc.late,bc.gone⟩:bn).late,(⟨df,bc.waits.length,cJ,bc.late,bc.gone⟩:bn).gone⟩:bn)) (j:=0) (i:=i) (ue.later gJ) κ.dE eV Z Z Z Z (λ _ cs h=>by have qd:=(show _∧_ from h).2;obtain rfl:=l0 h;exact ⟨rfl,qd⟩) Z Z uy λ Ol kU UH=>hK _ _ ?_;have:=gJ.size;have yz:=τ yx gJ;have:=kU.size;have vt:=Ext.mod yz kU (λ q I=>aUP (by omega) ((ue.later gJ).lt q I).1);refine jF Z Z (λ _=>fA Z) Z<|QK λ aaq J4=> ?_;have:=J4.size;have vu:=τ vt J4;refine bX<|aT<|rg<|J (bad Z Z (bH (by omega)))<|vm Z<|nl<| ?_;have UH:=UH.later J4;have yU:=yU.later gJ;have yU:=yU.mod kU (λ q I h=>by exfalso;(exact aUw (Fw q I) (λ M9=>by (exact Fj q M9 h)) (λ M9=>by (have:=amy q h;omega))));have yU:=yU.later J4;have py:=py.later (τ jq (τ iD lq));have py:=py.mod kT (λ q I h=>Mj q I h);have py:=py.later gJ;have py:=py.mod kU (λ q I h=>L5 q I h);have py:=py.later J4;have pI:=pI.later (τ jq (τ iD lq));have pI:=pI.mod kT (λ q I h=>aeV q I h);have pI:=pI.later gJ;have pI:=pI.mod kU (λ q I h=>Qi q I h);have pI:=pI.later J4;have av6:=pI.cut vW.1;have qQ:(bc.waits.drop 1).length=bc.waits.length - 1:=aUE;exact cO _ _ ⟨i+1,(xm).set i ((⟨e_ df cJ 1 6,bc.waits.length - 1,cJ - 1,(⟨df,bc.waits.length,cJ,bc.late,bc.gone⟩:bn).late,(⟨df,bc.waits.length,cJ,bc.late,bc.gone⟩:bn).gone⟩:bn)),E8.set i ⟨bc.waits.drop 1,bc.late,bc.gone⟩,He,qD,dL++ [bc.waits.getD 0 default],true,Z,Z,vu,UH,yU,(by have bh:=hW.set (s:=⟨bc.waits.drop 1,bc.late,bc.gone⟩) (k:=i) py (by omega) av6;rw [qQ] at bh;exact bh),by omega,by rw [aUs];exact XJ,by rw [aUq,aVG];omega,λ q γ aa=>L5 q (alz eV γ) aa,λ q γ aa=>(λ γ=>by (exact aUw (Fw q aa) (λ DJ=>by (exact Mj q γ DJ)) (λ DJ=>by (have:=aFc q γ;omega)))) (alz eV γ),by rw [aUs];exact XI,by rw [afU,← hF,aEB iP vW],by rw [aUq,aVG];exact (aUL (by omega)).symm,by rw [aUq,aVG];omega,(λ q I Φ=>by (exact aUw (Fw q I) (λ ajp=>by (exact Fj q ajp Φ)) (λ ajp=>by (have:=amy q Φ;omega))))⟩ (by omega) (.cons Z (.cons Z (.cons Z (.cons Z (.cons Z (.cons Z (.cons Z (.cons Z (.cons Z (.cons Z (.cons (bO Z) .nil)))))))))))
      ·simp only [cH] at Dd;have vW:¬(0<bc.waits.length∧dL.length<m.toNat):=by omega
       refine fv<|bX<|aT<|rg<|J (bad Z Z (bH (by omega)))<|vm Z<|nl<| ?_;exact cO _ _ ⟨i+1,xm,E8,yB,ci,dL,y_,Z,Z,rh,ue,E2,py,by omega,XJ,XQ,L5,Mj,XI,by rw [afU,← hF,aEA iP vW],V7,XR,(λ q I Φ=>by (exact Fj q I Φ))⟩ (by omega) (.cons Z (.cons Z (.cons Z (.cons Z (.cons Z (.cons Z (.cons Z (.cons Z (.cons Z (.cons Z (.cons (bO Z) .nil)))))))))))
     ·have auQ:i=S.length:=by omega
      refine c_<|c9<|dn<|c8<|bX<| ?_;exact cO _ _ ⟨xm,E8,yB,ci,dL,y_,Z,Z,rh,ue,E2,py,by rw [V7];exact Kk.next eg (by unfold Gw;rw [show (CK,out).1.length=S.length from ahv,← auQ];exact hF.symm) ahR XR,XJ,XQ,L5,Mj,XI,(λ q I Φ=>by (exact Fj q I Φ))⟩ (by rw [rW];exact arx V7 XR XQ) (q4 Z)
    ·refine c_<|c9<|dn<|c8<|aT<|ai<|vm Z<|vm Z<|va Z<|va Z<|va Z<|ag<|rt<|bb (.tmp Z (.tmp Z (.tmp Z .nil)))<| ?_;exact ⟨0,_,_,yV,CK,cw,gu,out,by rw [ahw,ahA];rfl, .inl ⟨rfl,⟨Fz,Dv⟩,(by rcases eg with ⟨bh,_⟩ | ⟨_,bh⟩;exact absurd bh (by simp [rW]);exact bh)⟩,Uz.down (by omega),Po.down (by omega),Uy,λ q γ aa=>hdr q aa γ,λ q γ=>⟨λ aa=>by exfalso;(exact aeL q γ aa),λ aa=>Ry q aa γ⟩,mD⟩
end
end Go.Proofs.YtlikikpgmmkjbaaGreat
namespace Go.Proofs.YtlikikpgmmkjbaaGreat.bU
open Tryz

theorem apW (a b:Nat):(a &&& b) % 2=a % 2 &&& b % 2:=by
 have:=@Nat.and_mod_two_pow a b 1;simpa using this
theorem ass {a b c:Nat} (h:a &&& b=c):a / 2 &&& b / 2=c / 2:=by rw [← h,Nat.and_div_two]
def lC:Nat→Nat→Nat
 | 0,_=>0
 | f+1,x=>x % 2+lC f (x / 2)
theorem Vq (f g x:Nat):lC (f+g) x=lC f x+lC g (x / 2 ^ f):=by
 induction f generalizing x with
 | zero=>simp [lC]
 | succ f bI =>
  rw [aYN,lC,lC,bI,aXp,aXo,aVB 2];omega
theorem Vr (f x:Nat):lC f (x % 2 ^ f)=lC f x:=by
 induction f generalizing x with
 | zero=>rfl
 | succ f bI =>
  rw [lC,lC,aXo];have γ:x % (2 ^ f * 2) % 2=x % 2:=Nat.mod_mod_of_dvd _ ⟨2 ^ f,aVB _ _⟩;have aa:x % (2 ^ f * 2) / 2=x / 2 % 2 ^ f:=by rw [aVB,Nat.mod_mul_right_div_self]
  rw [γ,aa,bI]
theorem HJ (f x:Nat):lC f x≤f:=by
 induction f generalizing x with
 | zero=>exact aUu _
 | succ f bI=>have:=bI (x / 2);rw [lC];omega
def size (x:Nat):Nat:=lC 32 x
theorem size_bytes (x:Nat) (h:x<4294967296):size x=lC 8 (x / 16777216)+lC 8 (x / 65536 % 256)+lC 8 (x / 256 % 256)+lC 8 (x % 256):=by
 unfold size;rw [show (32:Nat)=8+(8+(8+8)) from rfl,Vq,Vq,Vq,aXp,aXp];rw [show (256:Nat)=2 ^ 8 from rfl,Vr,Vr,Vr];simp only [Nat.reducePow,Nat.reduceMul];omega
theorem arA (f a m:Nat) (h:a &&& m=a):lC f a≤lC f m:=by
 induction f generalizing a m with
 | zero=>exact aUu _
 | succ f bI =>
  have aa:a / 2 &&& m / 2=a / 2:=ass h;have γ:a % 2 &&& m % 2=a % 2:=by rw [← apW,h]
  have:=bI _ _ aa;rw [lC,lC];rcases aWs a with ha | ha<;>rcases aWs m with hm | hm
  all_goals rw [ha,hm] at γ ⊢
  all_goals first | omega | (simp at γ)
theorem Sr (n:Nat) (h:n<256):Lib.pop8 (n:Int)=(lC 8 n:Int):=by
 have e:=Lib.pop8_eq ⟨n,h⟩;have bl:∀ m:Fin 256,Lib.onesCount m.val=lC 8 m.val:=by decide +kernel
 rw [bl ⟨n,h⟩] at e;exact e
end Go.Proofs.YtlikikpgmmkjbaaGreat.bU
namespace Go.Proofs.YtlikikpgmmkjbaaGreat
open Tryz
end Go.Proofs.YtlikikpgmmkjbaaGreat
namespace Go.Proofs.YtlikikpgmmkjbaaGreat.bU
open Tryz
open Go.RowKit Go.Proofs.YtlikikpgmmkjbaaGreat Go.Proofs.YtlikikpgmmkjbaaGreat.fj

theorem aDD {a b:Int} (h:a=b):Ending.returned (.int .i64 a)= .returned (.int .i64 b):=by rw [h]
theorem UT (a:Nat) (h:a<4294967296):bits .and .u32 (a:Int) 255=((a % 256:Nat):Int):=by
 have γ:=(aYk .u32 32 (by decide) (fun n aI γ=>by simp [IntKind.wrap,IntKind.signed,IntKind.bits];omega) a 255 (by omega) (by omega)).1;have e:a &&& 255=a % 256:=Nat.and_two_pow_sub_one_eq_mod a 8;rw [e] at γ;exact γ
@[go_sem high] theorem aLa:(⟨((([0,1,1,2,1,2,2,3,1,2,2,3,2,3,3,4,1,2,2,3,2,3,3,4,2,3,3,4,3,4,4,5,1,2,2,3,2,3,3,4,2,3,3,4,3,4,4,5,2,3,3,4,3,4,4,5,3,4,4,5,4,5,5,6]:List UInt8).append [1,2,2,3,2,3,3,4,2,3,3,4,3,4,4,5,2,3,3,4,3,4,4,5,3,4,4,5,4,5,5,6,2,3,3,4,3,4,4,5,3,4,4,5,4,5,5,6,3,4,4,5,4,5,5,6,4,5,5,6,5,6,6,7]).append (([1,2,2,3,2,3,3,4,2,3,3,4,3,4,4,5,2,3,3,4,3,4,4,5,3,4,4,5,4,5,5,6,2,3,3,4,3,4,4,5,3,4,4,5,4,5,5,6,3,4,4,5,4,5,5,6,4,5,5,6,5,6,6,7]:List UInt8).append [2,3,3,4,3,4,4,5,3,4,4,5,4,5,5,6,3,4,4,5,4,5,5,6,4,5,5,6,5,6,6,7,3,4,4,5,4,5,5,6,4,5,5,6,5,6,6,7,4,5,5,6,5,6,6,7,5,6,6,7,6,7,7,8])).toArray⟩:ByteArray)=Lib.pop8tab:=by decide +kernel
theorem arD (n:Nat) (hn:n<4294967296) (w:World):
  Calls prog 204 #[.int .u32 (n:Int)] w fun e w'=>e= .returned (.int .i64 (size n:Int))∧∃ q,w'=w.drewN q:=by
 have d1:(n:Int) / 16777216=((n / 16777216:Nat):Int):=by omega
 have d2:(n:Int) / 65536=((n / 65536:Nat):Int):=by omega
 have d3:(n:Int) / 256=((n / 256:Nat):Int):=by omega
 have a2:=UT (n / 65536) (by omega);have a3:=UT (n / 256) (by omega);have a4:=UT n hn;have eX:=Sr (n / 16777216) (by omega);have fL:=Sr (n / 65536 % 256) (by omega);have m_:=Sr (n / 256 % 256) (by omega);have x':=Sr (n % 256) (by omega);have i1:(0:Int)≤((n / 16777216:Nat):Int)∧((n / 16777216:Nat):Int)≤255:=by omega
 have i2:(0:Int)≤((n / 65536 % 256:Nat):Int)∧((n / 65536 % 256:Nat):Int)≤255:=by omega
 have i3:(0:Int)≤((n / 256 % 256:Nat):Int)∧((n / 256 % 256:Nat):Int)≤255:=by omega
 have i4:(0:Int)≤((n % 256:Nat):Int)∧((n % 256:Nat):Int)≤255:=by omega
 have c1:=HJ 8 (n / 16777216);have c2:=HJ 8 (n / 65536 % 256);have c3:=HJ 8 (n / 256 % 256);have c4:=HJ 8 (n % 256);rw [size_bytes n hn];generalize n / 16777216=hX at *
 generalize n / 65536=nQ at *
 generalize n / 256=yc at *
 generalize nQ % 256=dW at *
 generalize yc % 256=gd at *
 generalize dI:n % 256=pJ at *
 obtain ⟨i10,i11⟩:=i1;obtain ⟨i20,i21⟩:=i2;obtain ⟨i30,i31⟩:=i3;obtain ⟨i40,i41⟩:=i4;go_enter func204,ntmps204;go_wp2_with fail
 go_quiet (fail)
 go_wp2_with fail
 go_ret;exact ⟨aDD (by push_cast;rfl),nq,Z⟩

theorem arE (n:Nat) (hn:n<4294967296) (w:World):
  Calls prog 174 #[.int .u32 (n:Int)] w fun e w'=>e= .returned (.int .i64 (size n:Int))∧∃ q,w'=w.drewN q:=by
 go_enter func174,ntmps174;go_wp2_with fail
 refine (arD n hn _).mono ?_;rintro e w' ⟨rfl,q,rfl⟩;go_wp2_with fail
 go_ret;exact ⟨Z,q,Z⟩
def zF (t:Int):List Nat→Nat→Int
 | [],_=> -1
 | x::xs,i=>if t≤(size x:Int) then (i:Int) else zF t xs (i+1)
def Sets (w:World) (b o:Nat) (l:List Nat):Prop:=∀ k,(h:k<l.length)→w.cell? ⟨b,o+k,none⟩=some (.int .u32 ((l[k]:Nat):Int))∧l[k]<4294967296
end Go.Proofs.YtlikikpgmmkjbaaGreat.bU
namespace Go.Proofs.YtlikikpgmmkjbaaGreat
open Tryz
end Go.Proofs.YtlikikpgmmkjbaaGreat
namespace Go.Proofs.YtlikikpgmmkjbaaGreat.bU
open Tryz
open Go.RowKit Go.Proofs.YtlikikpgmmkjbaaGreat.fj
def diff (a b:Nat):Nat:=(BitVec.ofNat 32 a &&& ~~~BitVec.ofNat 32 b).toNat
theorem Lb (a b:Nat):diff a b<4294967296:=(BitVec.ofNat 32 a &&& ~~~BitVec.ofNat 32 b).isLt
theorem asq (a b i:Nat) (ha:a<4294967296) (aq:i<32):(diff a b).testBit i=(a.testBit i && !b.testBit i):=by
 unfold diff;rw [BitVec.testBit_toNat,BitVec.getLsbD_and,BitVec.getLsbD_not,aY0,aY0];simp [aq]
theorem aks (a:Nat):BitVec.ofInt 32 (a:Int)=BitVec.ofNat 32 a:=aBZ a
theorem asr (a b:Nat):bits .andNot .u32 (a:Int) (b:Int)=(diff a b:Int):=by
 have h:=QD (x:=bits .andNot .u32 (a:Int) (b:Int)) (b:=BitVec.ofNat 32 a &&& ~~~BitVec.ofNat 32 b) (PU _ _ _) (PT _ _ _) (by rw [aBW,aks,aks]);exact h
theorem TE (n:Int) (azo:0≤n) (h₁:n<2 ^ 32):IntKind.u32.wrap n=n:=by simp [IntKind.wrap,IntKind.signed,IntKind.bits];omega
theorem aB7 (a b:Nat) (ha:a<4294967296) (Φ:b<4294967296):bits .or .u32 (a:Int) (b:Int)=((a ||| b:Nat):Int):=(aYk .u32 32 (by decide) TE a b ha Φ).2
theorem apX (a b:Nat) (ha:a<4294967296) (Φ:b<4294967296):bits .and .u32 (a:Int) (b:Int)=((a &&& b:Nat):Int):=(aYk .u32 32 (by decide) TE a b ha Φ).1
theorem aql (a k:Nat) (ha:a<4294967296):bits .and .u32 ((a / 2 ^ k:Nat):Int) 1=if a.testBit k then 1 else 0:=by
 have γ:a / 2 ^ k<4294967296:=aZb (Nat.div_le_self _ _) ha;have h:=apX (a / 2 ^ k) 1 γ (by decide);rw [aZc] at h;rw [show (1:Int)=((1:Nat):Int) from rfl,h,Nat.testBit_eq_decide_div_mod_eq];rcases aWs (a / 2 ^ k) with e | e<;>simp [e]
theorem aAU {a b:Nat} (ha:a<4294967296) (Φ:b<4294967296):a ||| b<4294967296:=Nat.or_lt_two_pow (n:=32) ha Φ
theorem ND {k:Nat} (aw:k<32):2 ^ k<4294967296:=Nat.pow_lt_pow_right (a:=2) (by decide) aw
theorem auT {a b:Nat} (h:∀ i,a.testBit i=b.testBit i):a=b:=Nat.eq_of_testBit_eq h
end Go.Proofs.YtlikikpgmmkjbaaGreat.bU
namespace Go.Proofs.YtlikikpgmmkjbaaGreat
open Tryz
end Go.Proofs.YtlikikpgmmkjbaaGreat
namespace Go.Proofs.YtlikikpgmmkjbaaGreat.bU
open Tryz
open Go.RowKit Go.Proofs.YtlikikpgmmkjbaaGreat Go.Proofs.YtlikikpgmmkjbaaGreat.fj
def Gq (m x k:Nat):Bool:=diff x m == 0 && !x.testBit k && (x == 0 || m.testBit k)
def NC (m:Nat):List Nat→Nat→Bool
 | [],_=>true
 | x::xs,k=>Gq m x k && NC m xs (k+1)
def check (m:Nat) (l:List Nat):Int :=
 if m=0∨65536≤m then 1 else if NC m l 0=false then 4 else if 0≤zF ((size m:Int) / 2+1) l 0 then 4 else 0
end Go.Proofs.YtlikikpgmmkjbaaGreat.bU
namespace Go.Proofs.YtlikikpgmmkjbaaGreat
open Tryz
end Go.Proofs.YtlikikpgmmkjbaaGreat
namespace Go.Proofs.YtlikikpgmmkjbaaGreat.bU
open Tryz
open Go.RowKit Go.Proofs.YtlikikpgmmkjbaaGreat Go.Proofs.YtlikikpgmmkjbaaGreat.fj

def Gk (m:Nat) (k:Int):Bool:=decide (0≤k) && (decide (k<16) && m.testBit k.toNat)
def D1 (k x:Nat):Nat:=diff x (2 ^ k)
def aKK (l:List Nat):List Value:=l.map fun x:Nat=>Value.int .u32 (x:Int)
def part (k:Nat) (l:List Nat) (i:Nat):List Nat:=(l.take i).map (D1 k)++l.drop i
theorem Zd (k:Nat) (l:List Nat) (i:Nat):(part k l i).length=l.length:=by unfold part;simp;omega
theorem aCo (k:Nat) (l:List Nat) (i:Nat) (h:i<l.length):(part k l i)[i]? =some l[i]:=by
 unfold part;have e:((l.take i).map (D1 k)).length=i:=by rw [aUZ,aUm];omega
 rw [aUF (by rw [e];exact aUu _),e,aX4,aVo,Nat.add_zero,aUk h]
theorem Ze (k:Nat) (l:List Nat) (i:Nat) (h:i<l.length):(part k l i).set i (D1 k l[i])=part k l (i+1):=by
 unfold part;have e:((l.take i).map (D1 k)).length=i:=by rw [aUZ,aUm];omega
 rw [aXC _ _ (by rw [e];exact aUu _),e,aX4,aUM h,aUK,aV3 h,aWe,aUX];rfl
def uP (l:List Nat) (k:Nat):List Nat:=part k (l.set k 0) 16

end Go.Proofs.YtlikikpgmmkjbaaGreat.bU
namespace Go.Proofs.YtlikikpgmmkjbaaGreat
open Tryz
end Go.Proofs.YtlikikpgmmkjbaaGreat
namespace Go.Proofs.YtlikikpgmmkjbaaGreat.bU
open Tryz
open Go.RowKit Go.Proofs.YtlikikpgmmkjbaaGreat Go.Proofs.YtlikikpgmmkjbaaGreat.fj

def jL (m:Nat) (l:List Nat):Int:=zF ((size m:Int) / 2+1) l 0
def yb:Nat→Nat→List Nat→Nat×List Nat
 | 0,m,l=>(m,l)
 | f+1,m,l=>if 0≤jL m l then yb f (diff m (2 ^ (jL m l).toNat)) (uP l (jL m l).toNat) else (m,l)
def q2 (l:List Nat):Nat:=(l.filter (· != 0)).length
theorem aBL (l:List Nat):q2 l≤l.length:=aWW _ _
theorem akH (t:Int):∀ (l:List Nat) (i:Nat),0≤zF t l i→∃ j,∃ h:j<l.length,zF t l i=((i+j:Nat):Int)∧t≤(size l[j]:Int)
 | [],i,h=>by simp [zF] at h
 | x::xs,i,h=>by
  unfold zF at h ⊢;by_cases hx:t≤(size x:Int)
  ·rw [aUz hx];exact ⟨0,by simp,by simp,hx⟩
  ·rw [aUr hx] at h ⊢;obtain ⟨j,aA,γ,aa⟩:=akH t xs (i+1) h;exact ⟨j+1,by simp;exact aA,by rw [γ];congr 1;omega,aa⟩
theorem anb {m:Nat} {l:List Nat} (h:0≤jL m l):∃ k:Nat,jL m l=(k:Int)∧∃ aw:k<l.length,(size m:Int) / 2+1≤(size l[k]:Int):=by
 obtain ⟨j,aA,γ,aa⟩:=akH _ l 0 h;exact ⟨j,by unfold jL;rw [γ];simp,aA,aa⟩
theorem aEc:size 0=0:=by decide
theorem Yr (l:List Nat) (k:Nat) (h:l.length=16):(uP l k).length=16:=by unfold uP;rw [Zd,aUs];exact h
theorem aAt (l:List Nat) (k:Nat) (h:l.length=16):uP l k=(l.set k 0).map (D1 k):=by
 unfold uP part;have aa:(l.set k 0).length=16:=by rw [aUs];exact h
 rw [aUI (by omega),aYR (by omega),aUV]
theorem aCd (k:Nat):D1 k 0=0:=by
 unfold D1 diff;simp
theorem akq (f:Nat→Nat) (aI:f 0=0):∀ l:List Nat,q2 (l.map f)≤q2 l
 | []=>aUu _
 | x::xs=>by
  have bI:=akq f aI xs;unfold q2 at *
  rw [aU4,aVO,aVO];by_cases hx:x=0
  ·subst hx;rw [aI];simpa using bI
  ·rw [aUz (show (x != 0)=true by simp [hx])];split
   ·rw [aUn,aUn];exact Nat.succ_le_succ bI
   ·rw [aUn];exact aZj bI
theorem akr:∀ (l:List Nat) (k:Nat) (aw:k<l.length),l[k]≠0→q2 (l.set k 0)+1=q2 l
 | x::xs,0,_,h=>by
  unfold q2;simp at h;simp [h]
 | x::xs,k+1,aw,h=>by
  have bI:=akr xs k (by simpa using aw) (by simpa using h);unfold q2 at *
  simp only [aWf,aVO];split
  ·simp;omega
  ·exact bI
theorem aAv {m:Nat} {l:List Nat} (aB:l.length=16) {k:Nat} (aw:k<l.length) (h:(size m:Int) / 2+1≤(size l[k]:Int)):q2 (uP l k)<q2 l:=by
 have aI:l[k]≠0:=by
  intro aI;rw [aI,aEc] at h;omega
 have γ:=akr l k aw aI;rw [aAt l k aB];have aa:=akq (D1 k) (aCd k) (l.set k 0);omega
end Go.Proofs.YtlikikpgmmkjbaaGreat.bU
namespace Go.Proofs.YtlikikpgmmkjbaaGreat
open Tryz
end Go.Proofs.YtlikikpgmmkjbaaGreat
namespace Go.Proofs.YtlikikpgmmkjbaaGreat.bU
open Tryz
open Go.RowKit Go.Proofs.YtlikikpgmmkjbaaGreat Go.Proofs.YtlikikpgmmkjbaaGreat.fj
def Part (a b:Nat):Prop:=∀ i,a.testBit i=true→b.testBit i=true
theorem Part.and {a b:Nat} (h:Part a b):a &&& b=a:=auT fun i=>by
 rw [Nat.testBit_and];cases ha:a.testBit i with
 | false=>rfl
 | true=>rw [h i ha];rfl
theorem Part.size {a b:Nat} (h:Part a b):size a≤size b:=arA 32 a b h.and
structure aop (m:Nat) (l:List Nat):Prop where
 m16:m<65536
 len:l.length=16
 lt:∀ k,l.getD k 0<4294967296
 sub:∀ k,Part (l.getD k 0) m
 self:∀ k,(l.getD k 0).testBit k=false
 mem:∀ k,l.getD k 0≠0→m.testBit k=true
theorem akA (m:Nat):∀ (l:List Nat) (k:Nat),NC m l k=true↔∀ j,j<l.length→Gq m (l.getD j 0) (k+j)=true
 | [],k=>by simp [NC]
 | x::xs,k=>by
  rw [NC,aUp,akA m xs (k+1)];constructor
  ·rintro ⟨γ,aa⟩ j aA
   match j with
   | 0=>exact γ
   | j+1 =>
    have:=aa j (by simpa using aA);rw [show k+(j+1)=k+1+j from by omega];exact this
  ·intro h;refine ⟨h 0 (by simp),fun j aA=> ?_⟩;have:=h (j+1) (by simpa using aA);rw [show k+(j+1)=k+1+j from by omega] at this;exact this
structure aJm (m:Nat) (l:List Nat) (r:Nat×List Nat):Prop where
 km:aop r.1 r.2
 some_:r.1≠0
 jL:jL r.1 r.2<0
 sub:Part r.1 m
 aRz:∀ j,Part (r.2.getD j 0) (l.getD j 0)
 gone:∀ j,m.testBit j=true→r.1.testBit j=false→size r.1<2 * size (l.getD j 0)
end Go.Proofs.YtlikikpgmmkjbaaGreat.bU
namespace Go.Proofs.YtlikikpgmmkjbaaGreat
open Tryz
end Go.Proofs.YtlikikpgmmkjbaaGreat
namespace Go.Proofs.YtlikikpgmmkjbaaGreat.kF
open Tryz
open Go.Proofs.YtlikikpgmmkjbaaGreat.fj

def aKn (j:Nat):UInt8:=1 <<<UInt8.ofNat j
def ajW (b:BitVec 32):Nat→BitVec 32
 | 0=>0#32
 | k+1=>ajW b k ^^^ (if b.getLsbD k then 1#32 <<<k else 0#32)
end Go.Proofs.YtlikikpgmmkjbaaGreat.kF
namespace Go.Proofs.YtlikikpgmmkjbaaGreat
open Tryz
end Go.Proofs.YtlikikpgmmkjbaaGreat
namespace Go.Proofs.YtlikikpgmmkjbaaGreat.kF
open Tryz
open Go.RowKit Go.Proofs.YtlikikpgmmkjbaaGreat.fj

def cells (l:List UInt8):List Value:=l.map fun b=>Value.int .u8 (b.toNat:Int)
structure Inv (T:ByteArray) (b:BitVec 32) (p N k:Nat) (t:List UInt8):Prop where
 len:t.length=N
 low:∀ j,j<k→b.getLsbD j=true→p+j<8 * N
 sum:fold (~~~0#32) t=fold (~~~0#32) T.data.toList ^^^ steps (8 * N - p) (ajW b k)
end Go.Proofs.YtlikikpgmmkjbaaGreat.kF
namespace Go.Proofs.YtlikikpgmmkjbaaGreat
open Tryz
section
def aIm (ax:Nat) (w:World) (A:Option Addr) (c:Nat) (t:List UInt8):Prop :=
 ∃ (g:Nat) (R:List UInt8) (L:Nat),A=some ⟨g,0,none⟩∧ax≤g∧aN w g (kF.cells (t++R)) 5 (L,L+1)∧t.length≤L∧t.length≤c∧c≤9223372036854775807∧t.length≤140737488355328
section
variable {ax:Nat} {w w':World} {A:Option Addr} {c:Nat} {t:List UInt8} {S:List Nat}
end
section
variable {P:Program} {n:Nat} {E c0:List (Nat×Value)} {a:Act} {w w' w0 aP:World} {Q:Exit→Act→World→Prop} {ops:Array Oper} {v:Value}
variable {d:Option Nat} {ty:TypeId} {pos:String} {af:Array Edge} {g:Option (Nat×Bool)} {x y z:Operand} {t u:TypeId} {rest:List Oper} {i j:Int} {k k':IntKind}
theorem aqv {m:Nat} (hx:ev E x=some (.int k i)) (aH:ev E y=some (.int k' (m:Int))) (hm:m≤k.bits) (aI:0≤i):cT P E ⟨d, .binOp .shr t x y u,ty,pos,af,g⟩ w (.int k (i / 2 ^ m)) w:=oB hx aH (by rfl:binOp .shr t (.int k i) (.int k' (m:Int))=Op.shift .shr k i k' (m:Int)) (by
 unfold Op.shift;rw [aUr (by omega)];show (pure (Value.int k (i.fdiv (2 ^ min (m:Int).toNat k.bits))):Sem Value).run _ _=_;rw [aVc,aV6 hm,Int.fdiv_eq_ediv_of_nonneg _ (by exact Int.le_of_lt (Int.pow_pos (by decide)))];rfl)
theorem aqu {m:Nat} (hx:ev E x=some (.int k 1)) (aH:ev E y=some (.int k' j)) (aA:j=(m:Int)) (hm:m≤k.bits):cT P E ⟨d, .binOp .shl t x y u,ty,pos,af,g⟩ w (.int k (k.wrap (2 ^ m))) w:=oB hx aH (by rfl:binOp .shl t (.int k 1) (.int k' j)=Op.shift .shl k 1 k' j) (by
 subst aA;unfold Op.shift;rw [aUr (by omega)];show (pure (Value.int k (k.wrap (1 * 2 ^ min (m:Int).toNat k.bits))):Sem Value).run _ _=_;rw [aVc,aV6 hm,Int.one_mul];rfl)
theorem aqe (hx:ev E x=some (.int k i)) (aH:ev E y=some (.int k j)):cT P E ⟨d, .binOp .and t x y u,ty,pos,af,g⟩ w (.int k (bits .and k i j)) w:=oB hx aH (binOp_and t k i j) rfl
end
end
section
open Go.Proofs.YtlikikpgmmkjbaaGreat.fj
abbrev dj:=Nat
def dj.rep:κ dj:=κ.flat 1 (λ n:Nat=> [.int .u32 (n:Int)]) (λ n=>n<4294967296) (λ _ u=>∃ n:Int,u= .int .u32 n) (λ _=>rfl) (by intro a u hu;simp at hu;subst hu;rfl) (by
 intro a j u hu;cases j with
 | zero=>simp at hu;exact ⟨_,hu.symm⟩
 | succ j=>simp at hu)
theorem zf {w:World} {cs:List Value} {a:dj} (h:dj.rep.has w cs a):cs= [.int .u32 (a:Int)]:=aWw (show cs= [.int .u32 (a:Int)]∧a<4294967296 from h)
theorem dj.iY:∀ (j:Nat) u,(Value.int .u32 0).cells[j]? =some u→dj.rep.raw j u:=by
 intro j u hu;have hu:(#[(.int .u32 0:Value)]:Array Value)[j]? =some u:=hu
 match j,hu with
 | 0,hu=>exact ⟨_,(aUh hu).symm⟩
 | j+1,hu=>simp at hu
abbrev dj.zero:Value:= .int .u32 0
theorem dj.info:(prog.info? 73).map (λ i=>(i.zero,i.size,i.bytes))=some (some (.int .u32 0),1,4):=by kernel_rfl
theorem dj.plain:dj.rep.Plain:=κ.o0
theorem dj.oT {by_:Nat} {w:World} {A:Option Addr} {c:Nat} {l:List dj} (h:dj.rep.aK by_ w A c l):∀ a∈l,a<4294967296:=κ.aK.AM (R:=dj.rep) (Q:=λ a=>a<4294967296) (fun {w cs a} (h:dj.rep.has w cs a)=>(show cs= [.int .u32 (a:Int)]∧a<4294967296 from h).2) h
section
open bU
variable {P:Program} {E:List (Nat×Value)} {w:World} {d:Option Nat} {ty:TypeId} {pos:String} {af:Array Edge} {g:Option (Nat×Bool)} {x y:Operand} {t u:TypeId}
def vE (a k:Nat):Int:=if a.testBit k then 1 else 0
theorem Ef {a m:Nat} {j:Int} {k':IntKind} (hx:ev E x=some (.int .u32 (a:Int))) (aH:ev E y=some (.int k' j)) (aA:j=(m:Int)) (hm:m≤32):cT P E ⟨d, .binOp .shr t x y u,ty,pos,af,g⟩ w (.int .u32 ((a / 2 ^ m:Nat):Int)) w:=by
 subst aA;have h:=aqv (P:=P) (w:=w) (d:=d) (ty:=ty) (pos:=pos) (af:=af) (g:=g) (t:=t) (u:=u) (m:=m) hx aH hm (aWh a)
 rwa [show (a:Int) / 2 ^ m=((a / 2 ^ m:Nat):Int) by simp] at h
theorem JG {a m:Nat} (hx:ev E x=some (.int .u32 ((a / 2 ^ m:Nat):Int))) (aH:ev E y=some (.int .u32 1)) (ha:a<4294967296):cT P E ⟨d, .binOp .and t x y u,ty,pos,af,g⟩ w (.int .u32 (vE a m)) w:=by
 have h:=aqe (P:=P) (w:=w) (d:=d) (ty:=ty) (pos:=pos) (af:=af) (g:=g) (t:=t) (u:=u) hx aH
 rwa [aql a m ha] at h
theorem Tc {a b:Nat} (hx:ev E x=some (.int .u32 (a:Int))) (aH:ev E y=some (.int .u32 (b:Int))):cT P E ⟨d, .binOp .andNot t x y u,ty,pos,af,g⟩ w (.int .u32 ((diff a b:Nat):Int)) w:=oB hx aH (by rfl:binOp .andNot t (.int .u32 (a:Int)) (.int .u32 (b:Int))=pure (.int .u32 (bits .andNot .u32 (a:Int) (b:Int)))) (by rw [asr];rfl)
theorem aFZ {a b:Nat} (hx:ev E x=some (.int .u32 (a:Int))) (aH:ev E y=some (.int .u32 (b:Int))) (ha:a<4294967296) (Φ:b<4294967296):cT P E ⟨d, .binOp .or t x y u,ty,pos,af,g⟩ w (.int .u32 ((a ||| b:Nat):Int)) w:=oB hx aH (by rfl:binOp .or t (.int .u32 (a:Int)) (.int .u32 (b:Int))=pure (.int .u32 (bits .or .u32 (a:Int) (b:Int)))) (by rw [aB7 a b ha Φ];rfl)
theorem Tf {m:Nat} {j:Int} {k':IntKind} (hx:ev E x=some (.int .u32 1)) (aH:ev E y=some (.int k' j)) (aA:j=(m:Int)) (hm:m<32):cT P E ⟨d, .binOp .shl t x y u,ty,pos,af,g⟩ w (.int .u32 ((2 ^ m:Nat):Int)) w:=by
 have h:=aqu (P:=P) (w:=w) (d:=d) (ty:=ty) (pos:=pos) (af:=af) (g:=g) (t:=t) (u:=u) (k:= .u32) hx aH aA (by show m≤32;omega)
 rwa [show (IntKind.u32.wrap ((2:Int) ^ m))=((2 ^ m:Nat):Int) by
  rw [show ((2:Int) ^ m)=((2 ^ m:Nat):Int) by simp,TE _ (aWh _) (Int.ofNat_lt.2 (ND hm))]] at h
end
theorem amG (n:Nat) (hn:n<4294967296) (w:World):Calls prog 174 #[.int .u32 (n:Int)] w λ e w'=>e= .returned (.int .i64 (bU.size n:Int))∧Ext w w' :=
 (bU.arE n hn w).mono λ e w' ⟨h,q,I⟩=>⟨h,by rw [I];exact below_drewN (aUN _ _) q⟩
def D2 (t:Int) (x:dj):Bool:=decide (t≤(bU.size x:Int))
theorem akG (t:Int):∀ (l:List Nat) (i:Nat),(gA (D2 t) l= -1∧bU.zF t l i= -1)∨∃ k:Nat,gA (D2 t) l=(k:Int)∧bU.zF t l i=((i+k:Nat):Int)
 | [],i=> .inl ⟨rfl,rfl⟩
 | x::xs,i=>by
  unfold bU.zF;by_cases hx:t≤(bU.size x:Int)
  ·exact .inr ⟨0,F0 (k:=0) (by simp) (by show D2 t x=true;exact aUL hx) (λ j aA=>by omega),by rw [aUz hx];rfl⟩
  ·rw [aUr hx];rcases akG t xs (i+1) with ⟨γ,aa⟩ | ⟨k,γ,aa⟩
   ·refine .inl ⟨FZ λ j aA=> ?_,aa⟩
    match j with
    | 0=>exact aUU hx
    | j+1 =>
     rcases Ya (D2 t) xs with ⟨_,av⟩ | ⟨k,aw,av,_⟩
     ·exact av _ (aVv _)
     ·omega
   ·refine .inr ⟨k+1, ?_,by rw [aa];congr 1;omega⟩;rcases Ya (D2 t) xs with ⟨av,_⟩ | ⟨k',aw,av,aV,bJ⟩
    ·omega
    ·obtain rfl:k'=k:=by omega
     refine F0 (by simpa using aw) (by simpa using aV) (λ j aA=> ?_)
     match j with
     | 0=>exact aUU hx
     | j+1=>exact bJ j (by omega)
theorem aGG (m:Nat) (l:List Nat):gA (D2 ((bU.size m:Int) / 2+1)) l=bU.jL m l:=by
 unfold bU.jL;rcases akG ((bU.size m:Int) / 2+1) l 0 with ⟨γ,aa⟩ | ⟨k,γ,aa⟩
 ·rw [γ,aa]
 ·rw [γ,aa,aVm]
theorem akC (m x k:Nat):((((bU.diff x m:Nat):Int) != 0) || (vE x k == 1) || (((x:Nat):Int) != 0 && (vE m k == 0)))= !bU.Gq m x k:=by
 unfold bU.Gq vE;generalize bU.diff x m=d;have a8:(((d:Nat):Int) != 0)= !(d == 0):=by
  rw [aXA];simp
 have bl:(((x:Nat):Int) != 0)= !(x == 0):=by
  rw [aXA];simp
 rw [a8,bl];cases (d == 0)<;>cases (x == 0)<;>cases x.testBit k<;>cases m.testBit k<;>rfl
def KU (m:Nat) (l:List Nat):Prop:=l.length=16∧bU.check m l=0
theorem Td {m:Nat} {l:List Nat}:KU m l↔m≠0∧m<65536∧l.length=16∧(∀ j,j<l.length→bU.Gq m (l.getD j 0) j=true)∧bU.jL m l<0:=by
 have γ:=bU.akA m l 0;unfold KU bU.check;constructor
 ·rintro ⟨aB,h⟩;split at h
  ·cases h
  ·split at h
   ·cases h
   ·split at h
    ·cases h
    ·rename_i a b c
     refine ⟨by omega,by omega,aB,λ j aA=> ?_,aZe.1 c⟩;have:=γ.1 (by simpa using b) j aA
     rwa [aVm] at this
 ·rintro ⟨a,b,aB,c,d⟩;refine ⟨aB, ?_⟩;rw [aUr (by omega),aUr (by rw [γ.2 (λ j aA=>by rw [aVm];exact c j aA)];decide)];exact aUr (show ¬ 0≤bU.jL m l by omega)
theorem aFV {m:Nat} (h:m≠0) (aa:m<65536):(((m:Int)== 0) || (((m / 2 ^ 16:Nat):Int) != 0))=false:=by
 have e:m / 2 ^ 16=0:=aYe aa;rw [e];simp [h]
theorem aFU {m:Nat} (h:(((m:Int)== 0) || (((m / 2 ^ 16:Nat):Int) != 0))=false):m≠0∧m<65536:=by
 simp only [aU8,aWz,aXR] at h;omega
theorem Vo (A:Option Addr) (c:Nat) (l:List dj) (w:World) (h:dj.rep.aK 4 w A c l):
  Calls prog 36 #[.slice A l.length c] w λ e w'=>∃ bL b_,e= .returned (.slice bL l.length b_)∧dj.rep.aD 73 4 w' w.heap.size (κ.ae bL) bL b_ l∧(bL=none↔A=none)∧Below w.heap.size w w':=by
 obtain ⟨i0,aq,o5,qU,qV⟩:=aWR dj.info;have Sx:∀ (w:World) (a:Option Addr) (n c jU b_:Nat),(binOp .eql 81 (.slice a n c) (.slice none jU b_)).run prog w= .ok (.bool a.isNone) w:=λ w a n c jU b_=>aWp w _ _ a n c jU b_ underlying81;cases A with
 | none =>
  obtain rfl:c=0:=h.2.2.2.1 rfl;obtain rfl:l= []:=aUQ (by have:=h.1;omega);go_enter func36,ntmps36;go_wp2_with fail
  go_ret;exact ⟨none,0,Z,κ.aD.nil _,by simp,aUN _ _⟩
 | some a =>
  have cK:Below w.heap.size w (w.alloc (.cells #[] 73)):=(aUN _ w).alloc (aUu _) _;obtain ⟨n,fk⟩:∃ n,Hid (l.length=n):=⟨_,aUl rfl⟩;obtain ⟨γ,aa,av,aV,ess,bJ,cg⟩:=h.keep cK;have yJ:=aUl bJ;have o4:∀ u∈ess.flatten,u.oneCell'=true:=by
   intro u hu;obtain ⟨y,aH,hu⟩:=aVu.1 hu;obtain ⟨a,ha⟩:=bJ.left y aH;exact dj.rep.one ha u hu
  have qT:∀ (j:Nat) u,ess.flatten[j]? =some u→dj.rep.raw (j % dj.rep.size) u:=λ j u hu=>H6 bJ (by decide) hu;rw [fk.out] at γ av cg;have cF:=aUl cg;have jv:=aUl (Own.empty (e:= 73) (size:=dj.rep.size) (G:=dj.rep.raw) w (aUu w.heap.size));clear h aV bJ cg;rw [fk.out];go_enter func36,ntmps36;go_wp2_with (at_builtin;refine JY _ rfl _ _ 81 rfl w.heap.size 73 i0 (Value.int .u32 0) dj.rep.size 4 underlying81 aq o5 qU qV rfl (by decide) dj.rep.raw dj.iY _ _ _ rfl jv.out (some a) n c ess.flatten rfl cF.out o4 qT ?qc4 ?qc5 ?qc6 ?_)
  case qc4=>unfold maxLen;omega
  case qc5=>omega
  case qc6=>simp
  intro v' aP fq jJ mV fU;have cV:=cK.grown jJ (by simp) (by intro k aw;simp [Value.ownBlock] at aw;omega);obtain ⟨cp,c1,rfl,hle,_,_,_,lG⟩:=fq.shape;have kn:cp≠none:=by
   intro h;subst h;exact mV (lG Z)
  have aW:Hid (dj.rep.aD 73 4 aP w.heap.size (κ.ae cp) cp c1 l):=aUl (κ.aD.BE dj.plain yJ.out (by rw [fk.out];exact av) (by rw [fk.out];simpa using fq));have tY:=aUl kn;clear jJ mV fU fq kn lG o4 qT;go_wp2_with fail
  go_ret;exact ⟨cp,c1,Z,aW.out,⟨λ h=>absurd h tY.out,λ h=>by cases h⟩,cV⟩
theorem azv (ff:FuncId) (cs:List Value) (p:dj→Bool) (A:Option Addr) (c:Nat) (l:List dj) (w:World) (aB:dj.rep.aK 4 w A c l) (nC:Enters prog ff) (eg:∀ x∈l,∀ w',Ext w w'→Calls prog ff (([.int .u32 (x:Int)]:List Value)++cs).toArray w' λ e lN=>e= .returned (.bool (p x))∧Ext w' lN):
  Calls prog 175 #[.slice A l.length c, .func (.func ff) #[] cs.toArray] w (λ e w'=>e= .returned (.int .i64 (gA p l))∧Ext w w'):=by
 have qR:=aB.dT;refine cl (n:=19) func175 Z Z Z ?_;refine ai<|va Z<|ag<|az<|ai<|vm Z<|J (cj underlying81 Z)<|vm Z<|ag<|bA<| ?_;refine dX (λ b4 b2 aG=>∃ k:Nat,b2= [(0, .slice A l.length c),(1, .func (.func ff) #[] cs.toArray),(7, .int .i64 (l.length:Int)),(8, .int .i64 (k:Int))]∧b4=l.length - k∧Ext w aG∧(k≤l.length)∧(∀ i,i<k→p (l.getD i 0)=false)) _ _ ⟨0,Z,Z,(Ext.bK w),by omega,λ i aq=>by omega⟩ (.cons Z (.cons Z (.cons Z (.cons (bO Z) .nil)))) ?_;rintro Nr Kl cW ⟨k,rfl,rfl,bk,aw,aS⟩;have:=bk.size;refine ai<|J (blt Z Z)<|ag<|az<| ?_;refine dw Z (λ lY=> ?_) (λ lY=> ?_)
 ·refine bt<|az<|bA<|ai<|vm Z<|va Z<|ag<|ai<|vm Z<|vm Z<|vm Z<|J (bY k underlying81 pP Z Z ((aB.keep bk).bu (aX k)) Z (by omega))<|J (ak Z (κ.aK.fu zf ((aB.keep bk).cr (aX k)) (dH (l:=l) (u:=0) (by omega)) Z og))<|HK nC Z Z Z ((eg (l.getD k 0) (jT (by omega)) _ bk).mono ?_);rintro e JN ⟨rfl,yu⟩;refine ⟨_,Z, ?_⟩;have:=yu.size;have mE:=τ bk yu;refine ag<| ?_;refine ee Z (λ lZ=> ?_) (λ lZ=> ?_)
  ·refine ai<|vm Z<|va Z<|ag<|rt<|eK<|bT<|my<|eK<|bT<|bb (.tmp Z .nil)<| ?_;exact ⟨by have e:=RP (p:=p) (l:=l) (d:=0) (k:=k) (by omega) lZ aS;rw [e];rfl,mE⟩
  ·refine fv<|bX<|aT<|rg<|J (bad Z Z (bH (by omega)))<|vm Z<|nl<| ?_;exact cO _ _ ⟨k+1,Z,Z,mE,by omega,th aS lZ⟩ (by omega) (.cons Z (.cons Z (.cons Z (.cons (bO Z) .nil))))
 ·refine c_<|c9<|dn<|c8<|aT<|ai<|va Z<|ag<|rt<|bb (.tmp Z .nil)<| ?_;exact ⟨by have e:=RO (p:=p) (l:=l) (d:=0) (λ i aq=>aS i (by omega));rw [e];rfl,bk⟩
theorem aF0 (q1:Nat) (hx:q1<4294967296) (t:Int) (b:Nat) (w:World) (aJ:aN w b [.int .i64 t] 3 (0,0)):
  Calls prog 176 #[.int .u32 (q1:Int), .pointer (some ⟨b,0,none⟩)] w (λ e w'=>e= .returned (.bool (D2 t q1))∧Ext w w'):=by
 have tz:=aJ.lt;have jh:=bU.HJ 32 q1;refine cl (n:=8) func176 Z Z Z ?_;refine ai<|va Z<|ag<|az<| ?_;refine rd [(1,0),(2,0)] [0,1,2,3,4] (by kernel_rfl) (by kernel_rfl) ?_;refine ar Z (λ _=>aM Z)<|pT Z Z afn Z (λ _ x=>amG q1 hx _) Z<|bG Z (λ _ x=>ak Z ((aJ.later x).one bf Z))<|ar Z (λ _=>j4 Z Z)<|ar Z (λ _=>fA Z)<|fn λ cW et=> ?_;have:=et.size;have bk:=τ (Ext.bK w) et;refine aT<|rt<|bb (.tmp Z .nil)<| ?_;exact ⟨Z,bk⟩
theorem amJ (m:Nat) (hm:m<4294967296) (A:Option Addr) (c:Nat) (l:List Nat) (w:World) (aB:dj.rep.aK 4 w A c l):
  Calls prog 144 #[.agg #[.int .u32 (m:Int), .slice A l.length c]] w (λ e w'=>e= .returned (.int .i64 (bU.jL m l))∧Ext w w'):=by
 have jh:bU.size m≤32:=bU.HJ 32 m;refine cl (n:=13) func144 Z Z Z ?_;refine ai<|cI Z Z Z Z λ cW bw a7 eA ab=> ?_;have:=a7.size;have bk:=τ (Ext.bK w) a7;have eG:=ab.lt;refine va Z<|ag<|ai<|J (au vR Z)<|J (ak Z (ab.one og Z))<|ca afn Z Z ((amG m hm _).mono ?_);rintro e eM ⟨rfl,cL⟩;refine ⟨_,Z, ?_⟩;have:=cL.size;have bR:=τ bk cL;refine J (aqr Z Z (by omega) (by omega) (aDs (by omega) (by omega) (by omega)))<|J (bad Z Z (bH (by omega)))<|al Z QA Z Z λ wI yZ dC Nb gj=> ?_;have:=dC.size;have kB:=τ bR dC;have NJ:=gj.lt;refine st (new:= [.int .i64 (((bU.size m:Int) / 2)+1)]) Z Z gj Z cU Z Z Z λ u6 sg gj=> ?_;have:=sg.size;have jr:=Ext.mod kB sg bx;refine ag<|ai<|J (au qF Z)<| ?_;have ab:=ab.later (τ cL dC);have ab:=ab.mod sg aQ;refine J (ak Z (ab.one rP Z))<|J (I_ Z Z)<|ca atO Z Z ((azv 176 [.pointer (some ⟨yZ,0,none⟩)] (D2 (((bU.size m:Int) / 2)+1)) _ _ l _ (aB.keep jr) atN (λ x hx w' h=>aF0 x (dj.oT aB x hx) (((bU.size m:Int) / 2)+1) yZ w' (gj.later h))).mono ?_);rintro e nd ⟨rfl,eN⟩;refine ⟨_,Z, ?_⟩;have:=eN.size;have eO:=τ jr eN;refine va Z<|ag<|rt<|bb (.tmp Z .nil)<| ?_;exact ⟨by rw [aGG];rfl,eO⟩
theorem amF (m:Nat) (hm:m<4294967296) (A:Option Addr) (c:Nat) (l:List Nat) (w:World) (aB:dj.rep.aK 4 w A c l):
  Calls prog 103 #[.agg #[.int .u32 (m:Int), .slice A l.length c]] w (λ e w'=>∃ e':Int,e= .returned (.int .i64 e')∧(e'=0↔KU m l)∧Ext w w'):=by
 have qR:=aB.dT;refine cl (n:=54) func103 Z Z Z ?_;refine ai<|cI Z Z Z Z λ cW bw a7 eA ab=> ?_;have:=a7.size;have bk:=τ (Ext.bK w) a7;have eG:=ab.lt;refine va Z<|ag<|az<|ai<|J (au vR Z)<|J (ak Z (ab.one og Z))<|J (beq Z Z)<|vm Z<|br Z Z Z Z (λ hc=>au vR Z) Z<|br Z Z Z Z (λ hc=>ak (gt hc Z) (ab.one og Z)) Z<|br Z Z Z Z (λ hc=>Ef (m:=16) (gt hc Z) Z Z (by decide)) Z<|br Z Z Z Z (λ hc=>bne (gt hc Z) Z) Z<|J (fM Z Z Z Z)<|ag<| ?_;refine ee Z (λ qM=> ?_) (λ qM=> ?_)
 ·refine ai<|va Z<|ag<|rt<|bT<|bb (.tmp Z .nil)<| ?_;exact ⟨1,Z,⟨λ bh=>absurd bh (by decide),λ bh=>absurd bh (λ bh=>by obtain ⟨cy,a2,_⟩:=Td.1 bh;rw [aFV cy a2] at qM;cases qM)⟩,bk⟩
 ·obtain ⟨Dv,Dw⟩:=aFU qM;refine bt<|az<|ai<|J (au qF Z)<|J (ak Z (ab.one rP Z))<|J (cj underlying81 Z)<|J (bne Z Z)<|ag<| ?_;refine eU Z (λ lZ=> ?_) (λ lZ=> ?_)
  ·refine ai<|va Z<|ag<|rt<|bT<|bb (.tmp Z .nil)<| ?_;exact ⟨4,Z,⟨λ bh=>absurd bh (by decide),λ bh=>absurd bh (λ bh=>by have:=bh.1;omega)⟩,bk⟩
  ·have ID:l.length=16:=by omega
   refine bt<|az<|ai<|J (au qF Z)<|J (ak Z (ab.one rP Z))<|J (cj underlying81 Z)<|vm Z<|ag<|bA<| ?_;refine dX (λ b4 b2 aG=>∃ k:Nat,b2= [(1, .pointer (some ⟨bw,0,none⟩)),(19, .slice A l.length c),(20, .int .i64 (l.length:Int)),(21, .int .i64 (k:Int))]∧b4=l.length - k∧Ext w aG∧aN aG bw [.int .u32 (m:Int), .slice A l.length c] 83 (0,0)∧(k≤l.length)∧(∀ j,j<k→bU.Gq m (l.getD j 0) j=true)) _ _ ⟨0,Z,Z,bk,ab,by omega,λ i aq=>by omega⟩ (.cons Z (.cons Z (.cons Z (.cons (bO Z) .nil)))) ?_;rintro aOQ aID aaf ⟨k,rfl,rfl,yv,ab,aw,aS⟩;have:=yv.size;have ia:=ab.lt;refine ai<|J (blt Z Z)<|ag<|az<| ?_;refine dw Z (λ iA=> ?_) (λ iA=> ?_)
   ·refine bt<|az<|bA<|ai<|vm Z<|J (bY k underlying81 pP Z Z ((aB.keep yv).bu (aX k)) Z (by omega))<|J (ak Z (κ.aK.fu zf ((aB.keep yv).cr (aX k)) (dH (l:=l) (u:=0) (by omega)) Z og))<|va Z<|va Z<|ag<|ai<|vm Z<|J (au vR Z)<|J (ak Z (ab.one og Z))<|J (Tc Z Z)<|J (bne Z Z)<|vm Z<|br Z Z Z Z (λ hc=>aM Z) Z<|br Z Z Z Z (λ hc=>aM Z) Z<|br Z Z Z Z (λ hc=>Ef (m:=k) (gt hc Z) (gt hc Z) Z (by omega)) Z<| ?_;refine br Z Z Z Z (λ hc=>JG (a:=(l.getD k 0)) (gt hc Z) Z (dj.oT aB _ (jT (by omega)))) Z<|br Z Z Z Z (λ hc=>beq (gt hc Z) Z) Z<|J (fM Z Z Z Z)<|vm Z<|br Z Z Z Z (λ hc=>aM Z) Z<|br Z Z Z Z (λ hc=>bne (gt hc Z) Z) Z<|br Z Z Z Z (λ hc=>aM (gt hc Z)) Z<|su Z Z Z Z (λ hc=>au vR Z) Z<|su Z Z Z Z (λ hc=>ak (gt hc Z) (ab.one og Z)) Z<|su Z Z Z Z (λ hc=>aM Z) Z<|su Z Z Z Z (λ hc=>Ef (m:=k) (gt hc Z) (gt hc Z) Z (by omega)) Z<|su Z Z Z Z (λ hc=>JG (a:=m) (gt hc Z) Z hm) Z<|su Z Z Z Z (λ hc=>beq (gt hc Z) Z) Z<|br Z Z Z Z (λ hc=>akI hc (gt hc Z) Z Z) Z<|J (fM Z Z Z Z)<|ag<| ?_;refine ee Z (λ pU=> ?_) (λ pU=> ?_)
    ·refine ai<|va Z<|ag<|rt<|eK<|bT<|my<|eK<|bT<|bb (.tmp Z .nil)<| ?_;exact ⟨4,Z,⟨λ bh=>absurd bh (by decide),λ bh=>absurd bh (λ bh=>by have vW:=(Td.1 bh).2.2.2.1 k (by omega);rw [akC,vW] at pU;cases pU)⟩,yv⟩
    ·rw [akC] at pU;have ahq:bU.Gq m (l.getD k 0) k=true:=by simpa using pU
     refine fv<|bX<|aT<|rg<|J (bad Z Z (bH (by omega)))<|vm Z<|nl<| ?_;exact cO _ _ ⟨k+1,Z,Z,yv,ab,by omega,th aS ahq⟩ (by omega) (.cons Z (.cons Z (.cons Z (.cons (bO Z) .nil))))
   ·refine c_<|c9<|dn<|c8<|aT<|az<|ai<|J (ak Z (ab.all oW kk))<|ca VQ Z Z ((amJ m hm _ _ l _ (aB.keep yv)).mono ?_);rintro e Od ⟨rfl,l9⟩;refine ⟨_,Z, ?_⟩;have:=l9.size;have tP:=τ yv l9;refine J (j4 Z Z)<|ag<| ?_;refine HG Z (λ Ba=> ?_) (λ Ba=> ?_)
    ·refine ai<|va Z<|ag<|rt<|bT<|bb (.tmp Z .nil)<| ?_;exact ⟨4,Z,⟨λ bh=>absurd bh (by decide),λ bh=>absurd bh (λ bh=>by have:=(Td.1 bh).2.2.2.2;omega)⟩,tP⟩
    ·refine bt<|ai<|va Z<|ag<|rt<|bb (.tmp Z .nil)<| ?_;exact ⟨0,Z,⟨λ _=>Td.2 ⟨Dv,Dw,ID,λ j aA=>aS j (by omega),by omega⟩,λ _=>Z⟩,tP⟩
end
end Go.Proofs.YtlikikpgmmkjbaaGreat
