import Derived.Test.YtmeeljmapailnaaGreatSeo
set_option linter.unusedVariables false
set_option linter.unusedSimpArgs false
set_option maxRecDepth 100000
set_option maxHeartbeats 4000000
open Go.RowKit
namespace Go.Proofs.YtmeeljmapailnaaGreat
open Tryz
abbrev aUX:=@Nat.div_div_eq_div_mul
abbrev aWB:=@BitVec.getLsbD_ofNat
section
theorem apm:eX prog aL.rep 48 69 48:=eX.lV (z:=aL.zero) (k:=6) underlying48 aL.info rfl rfl (by decide) aL.jq
open Go.Proofs.YtmeeljmapailnaaGreat.fu
theorem apk {α:Type} {R:τ α} {w:World} {aD e by_ c:Nat} {A:Option Addr} {l:List α} (h:R.aF e by_ w aD (τ.ah A) A c l):∀ q∈τ.ah A,∃ cur:List Value,aP w q cur e (0,0):=λ q I=>by
 obtain ⟨_,ps,_,_,⟨_,b4⟩,_⟩:=h;rcases b4 with ⟨aZ,_⟩ | ⟨g,cap,cur,aZ,_,Φ,_⟩
 ·injection aZ with aZ;subst aZ;simp [τ.ah] at I
 ·injection aZ with aZ;subst aZ
  obtain rfl:=aRT.1 I;exact ⟨cur.toList,by simpa [aP] using Φ⟩
structure pY (w:World) (aD:Nat) (A:Option Addr) (c:Nat) (l:List aL):Prop where
 has:aL.rep.aJ 48 w A c l
 lt:∀ q∈τ.ah A,aD≤q∧q<w.heap.size
 row:∀ q∈τ.ah A,∃ cur:List Value,aP w q cur 69 (0,0)
theorem aAJ {A:Option Addr} {c:Nat} {l:List aL} {S:List Nat} {w w':World} (h:aL.rep.aJ 48 w A c l) (m:Mod S w w') (bz:∀ q∈τ.ah A,q<w.heap.size) (hd:∀ x∈τ.ah A,x∉S):aL.rep.aJ 48 w' A c l:=by
 obtain ⟨κ,ab,aw,a6,ess,bH,ch,dZ⟩:=h;refine ⟨κ,ab,aw,a6,ess,bH,ch,λ aG=> ?_⟩
 ·obtain ⟨b,o,rfl,hc⟩:=dZ aG;refine ⟨b,o,Z,λ j u hu=> ?_⟩;rw [← hc j u hu];have:=m.block b (bz b (aRT.2 rfl)) (hd b (aRT.2 rfl));simp only [World.cell?,this]
section
variable {w w':World} {aD sY:Nat} {A:Option Addr} {c:Nat} {l:List aL} {T:List bA} {S:List cq} {k i:Nat}
theorem pY.mod {B:List Nat} (h:pY w aD A c l) (m:Mod B w w') (hd:∀ x∈τ.ah A,x∉B):pY w' aD A c l :=
 ⟨aAJ h.has m (λ q I=>(h.lt q I).2) hd,λ q I=>⟨(h.lt q I).1,aTC (h.lt q I).2 m.size⟩,λ q I=>by
  obtain ⟨cur,Φ⟩:=h.row q I;exact ⟨cur,by unfold aP;rw [m.block q Φ.lt (hd q I)];exact Φ⟩⟩
theorem pY.later (h:pY w aD A c l) (x:Ext w w'):pY w' aD A c l:=h.mod (B:= []) (Mod.bE x) λ _ _ h=>by simp at h
theorem pY.of (h:aL.rep.aF 69 48 w aD (τ.ah A) A c l):pY w aD A c l:=⟨h.has,λ q I=>h.lt q I,apk h⟩
theorem Zm {lo s q:Nat} (h:q∈τ.ah (eW A c lo s)):q∈τ.ah A:=by
 unfold eW at h;split at h
 ·exact h
 ·cases A with
  | none=>exact h
  | some a =>
   have e:(a.add (lo * s)).block=a.block:=by unfold Addr.add;split<;>rfl
   have h:q∈ [(a.add (lo * s)).block]:=h;rw [e] at h;exact h
theorem pY.cut (h:pY w aD A c l) (aG:0<l.length):pY w aD (eW A c 1 6) (c - 1) (l.drop 1):=by
 have hc:=h.has.1;have hs:=h.has.sub 1 l.length (by omega) (by omega);rw [aSk (by rw [aSf];exact aR7 _)] at hs;exact ⟨hs,λ q I=>h.lt q (Zm I),λ q I=>h.row q (Zm I)⟩
def hQ (w:World) (aD:Nat) (T:List bA) (S:List cq):Prop:=T.map (λ v=>(v.late,v.gone))=S.map (λ s=>(s.late,s.gone))∧∀ (i:Nat) (v:bA),T[i]? =some v→∃ s:cq,S[i]? =some s∧v.n=s.waits.length∧pY w aD v.a v.c s.waits
theorem hQ.len (h:hQ w aD T S):T.length=S.length:=by have:=aTc List.length h.1;simpa using this
theorem hQ.mod {B:List Nat} (h:hQ w aD T S) (m:Mod B w w') (hd:∀ q∈eO T,q∉B):hQ w' aD T S:=⟨h.1,λ i v aq=>by
 obtain ⟨s,κ,ab,aw⟩:=h.2 i v aq;exact ⟨s,κ,ab,aw.mod m λ q I=>hd q (tJ aq I)⟩⟩
theorem hQ.later (h:hQ w aD T S) (x:Ext w w'):hQ w' aD T S:=⟨h.1,λ i v aq=>by
 obtain ⟨s,κ,ab,aw⟩:=h.2 i v aq;exact ⟨s,κ,ab,aw.later x⟩⟩
theorem hQ.down (h:hQ w aD T S) (bC:sY≤aD):hQ w sY T S:=⟨h.1,λ i v aq=>by
 obtain ⟨s,κ,ab,aw⟩:=h.2 i v aq;exact ⟨s,κ,ab,aw.has,λ q I=>⟨aSs bC (aw.lt q I).1,(aw.lt q I).2⟩,aw.row⟩⟩
theorem hQ.lt (h:hQ w aD T S):∀ q∈eO T,aD≤q∧q<w.heap.size:=λ q I=>by
 obtain ⟨i,v,aq,I⟩:=Nx I;obtain ⟨s,κ,ab,aw⟩:=h.2 i v aq;exact aw.lt q I
theorem hQ.nil (w:World) (aD:Nat):hQ w aD [] []:=⟨rfl,λ i v h=>by simp at h⟩
theorem eS.Jk (h:eS w aD T S):hQ w aD T S:=⟨h.2.1,λ i v aq=>by
 obtain ⟨A,c,s,κ,ab,aw⟩:=h.get (k:=i) (aRW.1 aq).1;rw [aq] at κ;obtain rfl:=aRV κ;exact ⟨s,ab,Z,pY.of aw⟩⟩
theorem hQ.yw (h:hQ w aD T S):pX w T S:=by
 refine ⟨⟨by simp [h.len],λ i v aq=> ?_⟩,h.1⟩;rw [aSd] at aq;cases b6:T[i]? with
 | none=>rw [b6] at aq;cases aq
 | some u =>
  rw [b6] at aq;obtain rfl:=aRV aq;obtain ⟨s,κ,ab,aw⟩:=h.2 i u b6;exact ⟨s.waits,by rw [aSd,κ];rfl,ab,aw.has⟩
theorem hQ.get (h:hQ w aD T S) (ar:k<T.length):∃ (A:Option Addr) (c:Nat) (s:cq),T[k]? =some ⟨A,s.waits.length,c,s.late,s.gone⟩∧S[k]? =some s∧pY w aD A c s.waits:=by
 obtain ⟨A,c,s,κ,ab,aw⟩:=h.yw.at_ ar;obtain ⟨s',a6,bH,ch⟩:=h.2 k _ κ;rw [ab] at a6;obtain rfl:=aRV a6;exact ⟨A,c,s,κ,ab,ch⟩
theorem hQ.set (h:hQ w aD T S) {c:Nat} {s:cq} (ar:k<T.length) (o:pY w aD A c s.waits):hQ w aD (T.set k ⟨A,s.waits.length,c,s.late,s.gone⟩) (S.set k s):=by
 have iA:k<S.length:=by rw [← h.len];exact ar
 refine ⟨by rw [aS6,aS6,h.1],λ i v aq=> ?_⟩;by_cases mi:k=i
 ·subst mi;rw [aSl ar] at aq;obtain rfl:=aRV aq;exact ⟨s,aSl iA,Z,o⟩
 ·rw [aSp mi] at aq;obtain ⟨s',κ,ab,aw⟩:=h.2 i v aq;exact ⟨s',by rw [aSp mi];exact κ,ab,aw⟩
end
def wo (s:cq):cq:=if 0<s.waits.length then ⟨s.waits,0,s.gone⟩ else if s.gone=false then ⟨s.waits,min (s.late+1) 1000000,s.gone⟩ else s
def BO (S:List cq) (k:Nat):List cq:=(S.take k).map wo++S.drop k
theorem azh (S:List cq):BO S S.length=S.map wo:=by unfold BO;rw [aSv,List.drop_length,aSz]
theorem Rw {S:List cq} {k:Nat}:(BO S k)[k]? =S[k]? :=by
 unfold BO;rcases aSZ k S.length with h | h
 ·rw [aSi (by rw [aSK,aRZ];omega),aSK,aRZ,aTM (by omega),aS0];simp
 ·rw [aTl (by simp;omega),aTl h]
theorem X' {S:List cq} {k:Nat} {s:cq} (h:S[k]? =some s):BO S (k+1)=(BO S k).set k (wo s):=by
 obtain ⟨ar,rfl⟩:=aRW.1 h;unfold BO;have e:((S.take k).map wo).length=k:=by rw [aSK,aRZ];omega
 rw [aSn ar,aSm,aSA,aVc _ _ (by omega),e,aVF,aTL ar];rfl
theorem aCP {S:List cq} {k:Nat} {s:cq} (h:xo S) (hs:S[k]? =some s):0≤s.late∧s.late≤1000000:=by
 have κ:=(h.2.2 k s hs).2;unfold cq.yu at κ;simp only [aR2,aTf,aSJ,aSD] at κ;omega
def B' (m:Nat) (x:List cq×List aL) (i:Nat):List cq×List aL:=match x.1[i]? with
 | some s=>if 0<s.waits.length∧x.2.length<m then (x.1.set i ⟨s.waits.drop 1,s.late,s.gone⟩,x.2++ [s.waits.getD 0 default]) else x
 | none=>x
def Gx (m:Nat) (x:List cq×List aL):List cq×List aL:=(List.range x.1.length).foldl (B' m) x
def C' (m:Nat):Nat→List cq×List aL→List cq×List aL
 | 0,x=>x
 | f+1,x=>if (Gx m x).2.length=x.2.length then Gx m x else C' m f (Gx m x)
def vL (m:Nat) (S:List cq):List cq×List aL:=C' m (m+1) (S.map wo, [])
theorem aDn {m i:Nat} {S:List cq} {out:List aL} {s:cq} (hs:S[i]? =some s) (h:¬(0<s.waits.length∧out.length<m)):B' m (S,out) i=(S,out):=by
 unfold B';rw [show (S,out).1[i]? =some s from hs];exact aR5 h
theorem aDo {m i:Nat} {S:List cq} {out:List aL} {s:cq} (hs:S[i]? =some s) (h:0<s.waits.length∧out.length<m):B' m (S,out) i=(S.set i ⟨s.waits.drop 1,s.late,s.gone⟩,out++ [s.waits.getD 0 default]):=by
 unfold B';rw [show (S,out).1[i]? =some s from hs];exact aR8 h
theorem afn (m i:Nat) (x:List cq×List aL):(List.range (i+1)).foldl (B' m) x=B' m ((List.range i).foldl (B' m) x) i:=by rw [aTw,aTt];rfl
theorem aro {m f:Nat} {x y:List cq×List aL} (aI:Gx m x=y) (h:y.2.length=x.2.length) (hf:0<f):C' m f x=y:=by
 obtain ⟨f,rfl⟩:∃ k,f=k+1:=⟨f - 1,by omega⟩;rw [C',aI,aR8 h]
theorem arp {m f:Nat} {x y:List cq×List aL} (aI:Gx m x=y) (h:¬ y.2.length=x.2.length) (hf:0<f):C' m f x=C' m (f - 1) y:=by
 obtain ⟨f,rfl⟩:∃ k,f=k+1:=⟨f - 1,by omega⟩;rw [C',aI,aR5 h];rfl
def adz (S:List cq) (m:Int):Prop:=xo S∧1≤m∧m≤100
def aoc (S:List cq) (m:Int) (e:Int) (o3:List cq) (out:List aL):Prop:=(e=0∧adz S m∧(o3,out)=vL m.toNat S)∨(e≠0∧¬ adz S m∧o3= []∧out= [])
def J5 (m:Nat) (C x:List cq×List aL) (C3:Bool):Prop:=(C3=true∧∃ f,m<f+x.2.length∧C' m f x=C)∨(C3=false∧x=C)
theorem J5.next {m:Nat} {C x y:List cq×List aL} (h:J5 m C x true) (aI:Gx m x=y) (hm:x.2.length≤m) (ay:x.2.length≤y.2.length):J5 m C y (decide (y.2.length≠x.2.length)):=by
 rcases h with ⟨_,f,κ,ab⟩ | ⟨h,_⟩
 ·by_cases he:y.2.length=x.2.length
  ·refine .inr ⟨by simp [he], ?_⟩;rw [← ab,aro aI he (by omega)]
  ·refine .inl ⟨by simp [he],f - 1,by omega, ?_⟩;rw [← ab,arp aI he (by omega)]
 ·cases h
theorem aCN {α:Type} {l:List α} {k:Nat} {a:α} (h:l[k]? =some a):l.set k a=l:=by
 obtain ⟨ar,rfl⟩:=aRW.1 h;exact aTI ar
theorem alw {T:List bA} {k q:Nat} {A:Option Addr} {n c kf b5:Nat} {l:Int} {g:Bool} (b6:T[k]? =some ⟨A,n,c,l,g⟩) (h:q∈eO (T.set k ⟨eW A c 1 6,kf,b5,l,g⟩)):q∈eO T:=(Ny h).elim Sm λ h=>tJ b6 (Zm h)
theorem arn {m a b:Nat} {g:Bool} (h:g=decide (b≠a)) (κ:a≤b) (ab:b≤m):m+1 - b+g.toNat<m+1 - a+true.toNat:=by
 subst h;by_cases e:b=a
 ·subst e;simp
 ·simp [e];omega
theorem aCM (A:Option Addr) (c:Nat) (T:List bA) (S:List cq) (m:Int) (w:World) (b6:bA.rep.aJ 40 w A c T) (hS:pX w T S):
  Calls prog 96 #[.slice A T.length c, .int .i64 m] w (λ e w'=>∃ (e':Int) (bK:Option Addr) (b5:Nat) (kr:List bA) (o3:List cq) (kp:Option Addr) (co:Nat) (out:List aL),e= .returned (.tuple #[.slice bK kr.length b5, .slice kp out.length co, .int .i64 e'])∧aoc S m e' o3 out∧bA.rep.aF 163 40 w' w.heap.size (τ.ah bK) bK b5 kr∧hQ w' w.heap.size kr o3∧aL.rep.aF 69 48 w' w.heap.size (τ.ah kp) kp co out∧(∀ q∈τ.ah bK,q∉eO kr)∧(∀ q∈τ.ah kp,q∉τ.ah bK∧q∉eO kr)∧Ext w w'):=by
 have BD:=b6.eE;have Q0:=b6.2.2.1;refine cl (n:=102) func96 Z Z Z ?_;refine aj<|va Z<|va Z<|va Z<|ai<|aA<|aj<|vm Z<|ca P9 Z Z ((Sl _ _ T S _ (b6.keep (Ext.bN w)) (hS.keep (Ext.bN w))).mono ?_);rintro e l0 ⟨EU,rfl,s_,a8⟩;refine ⟨_,Z, ?_⟩;have:=a8.size;have fJ:=γ (Ext.bN w) a8;refine va Z<|ai<|aj<|vm Z<|J (bne Z Z)<|ai<| ?_;refine eV Z (λ mg=> ?_) (λ mg=> ?_)
 ·refine aj<|vm Z<|va Z<|va Z<|va Z<|ai<|rt<|bT<|bd (.tmp Z (.tmp Z (.tmp Z .nil)))<| ?_;exact ⟨EU,none,0, [], [],none,0, [],Z, .inr ⟨(by simpa using mg),(λ bg=>(show ¬ EU=0 by simpa using mg) (s_.2 bg.1)),Z,Z⟩,τ.aF.nil _,hQ.nil _ _,τ.aF.nil _,λ q I=>by simp [τ.ah] at I,λ q I=>by simp [τ.ah] at I,fJ⟩
 ·have FM:=s_.1 (by simpa using mg);refine bu<|aA<|aj<|vm Z<|J (blt Z Z)<|vm Z<|bs Z Z Z Z (λ hc=>aK Z) Z<|bs Z Z Z Z (λ hc=>iJ (gt hc Z) Z) Z<|J (fB Z Z Z Z)<|ai<| ?_;refine ed Z (λ r0=> ?_) (λ r0=> ?_)
  ·simp only [cE] at r0;refine aj<|va Z<|va Z<|va Z<|ai<|rt<|bT<|bd (.tmp Z (.tmp Z (.tmp Z .nil)))<| ?_;exact ⟨1,none,0, [], [],none,0, [],Z, .inr ⟨(by decide),(λ bg=>by have:=bg.2;omega),Z,Z⟩,τ.aF.nil _,hQ.nil _ _,τ.aF.nil _,λ q I=>by simp [τ.ah] at I,λ q I=>by simp [τ.ah] at I,fJ⟩
  ·simp only [cE] at r0;have Iv:1≤m∧m≤100:=by omega
   refine bu<|aj<|vm Z<|ca Vs Z Z ((Zw _ _ T S _ (b6.keep fJ) (hS.keep fJ)).mono ?_);rintro e Z0 ⟨qI,dT,A2,rfl,T_,OX,awo,ann⟩;refine ⟨_,Z, ?_⟩;have:=ann.size;have yL:=γ fJ ann;have aEk:=λ q I=>(T_.lt q I).2;have aNh:=λ q I=>(T_.lt q I).1;have aP4:=λ q I=>(OX.lt q I).2;have aL1:=λ q I=>(OX.lt q I).1;refine va Z<|ai<|aA<|aj<|vm Z<|J (cG underlying34 Z)<|vm Z<|ai<|bL<| ?_;have ag1:A2.length=S.length:=OX.yw.len;have LY:=hS.len;have aoN:hQ Z0 l0.heap.size A2 (BO S 0):=OX.Jk;refine eL (λ cg cf aQ=>∃ k:Nat,∃ lL:List bA,cf= [(0, .slice qI A2.length dT),(1, .int .i64 m),(4, .slice none 0 0),(5, .slice none 0 0),(6, .int .i64 0),(28, .int .i64 (A2.length:Int)),(29, .int .i64 (k:Int))]∧cg=S.length - k∧Ext w aQ∧bA.rep.aF 163 40 aQ l0.heap.size (τ.ah qI) qI dT lL∧hQ aQ l0.heap.size lL (BO S k)∧(k≤S.length)∧(lL.length=S.length)∧(∀ q∈eO lL,q∈τ.ah qI→False)) _ _ ⟨0,A2,Z,Z,yL,T_,aoN,by omega,ag1,λ q κ ab=>awo q ab κ⟩ (.cons Z (.cons Z (.cons Z (.cons Z (.cons Z (.cons Z (.cons (bW Z) .nil))))))) ?_;rintro Yo aHc Aj ⟨k,lL,rfl,rfl,jn,xl,sV,ar,td,Dw⟩;have:=jn.size;have ams:=λ q I=>(xl.lt q I).2;have aP5:∀ q∈eO lL,q<Aj.heap.size:=λ q I=>(sV.lt q I).2;have aL3:∀ q∈eO lL,l0.heap.size≤q:=λ q I=>(sV.lt q I).1;refine aj<|J (blt Z Z)<|ai<|aA<| ?_;refine dY Z (λ mb=> ?_) (λ mb=> ?_)
   ·obtain ⟨eg,dn,bn,gm,kz,aHN⟩:=sV.get (k:=k) (by omega);rw [Rw] at kz;have sf:=aCP FM kz;refine bu<|aA<|bL<|aj<|vm Z<|va Z<|ai<|aj<|vm Z<|vm Z<|J (b9 k underlying34 k2 Z Z (xl.has.bP (bb k)) Z (by omega))<|va Z<|ai<|bL<|aj<|vm Z<|J (b0 Z)<|J (av rO Z)<| ?_;refine J (v:= .slice eg bn.waits.length dn) (ao Z (τ.aJ.kx oz (xl.has.cw (bb k)) 0 gm Z o6))<|J (cG underlying48 Z)<|J (iJ Z Z)<|va Z<|ai<| ?_;refine dY Z (λ ox=> ?_) (λ ox=> ?_)
    ·refine rg<|vm Z<|J (b0 Z)<|J (av HR Z)<|so (q':=(⟨(⟨eg,bn.waits.length,dn,bn.late,bn.gone⟩:bA).a,(⟨eg,bn.waits.length,dn,bn.late,bn.gone⟩:bA).n,(⟨eg,bn.waits.length,dn,bn.late,bn.gone⟩:bA).c,0,(⟨eg,bn.waits.length,dn,bn.late,bn.gone⟩:bA).gone⟩:bA)) (j:=1) (i:=k) xl τ.dI gm Z Z Z Z (λ _ cs h=>by have qm:=(show _∧_ from h).2;obtain rfl:=oz h;exact ⟨rfl,bM.2 (by (try dsimp only);omega)⟩) Z Z dx λ Ak D1 ao2=> ?_;have:=D1.size;have nu:=Ext.mod jn D1 (λ q I=>aSs (by omega) (xl.lt q I).1);refine nl<|bY<|bY<|aU<|rg<|J (bad Z Z (bD (by omega)))<|vm Z<|nl<| ?_;have sV:=sV.mod D1 (λ q I h=>Dw q I h);obtain ⟨_,Lt,_,T'⟩:=sV.2 k _ gm;obtain rfl:=aRV ((Rw.trans kz).symm.trans Lt);have Wl:wo bn=⟨bn.waits,0,bn.gone⟩:=by unfold wo;rw [aR8 (by omega)]
     exact c9 _ _ ⟨k+1,(lL).set k ((⟨(⟨eg,bn.waits.length,dn,bn.late,bn.gone⟩:bA).a,(⟨eg,bn.waits.length,dn,bn.late,bn.gone⟩:bA).n,(⟨eg,bn.waits.length,dn,bn.late,bn.gone⟩:bA).c,0,(⟨eg,bn.waits.length,dn,bn.late,bn.gone⟩:bA).gone⟩:bA)),Z,Z,nu,ao2,(by rw [X' kz,Wl];exact hQ.set (s:=⟨bn.waits,0,bn.gone⟩) sV (by omega) T'),by omega,by rw [aR4];exact td,λ q κ ab=>(Ny κ).elim (λ κ=>Dw q (Sm κ) ab) (λ κ=>Dw q (tJ gm κ) ab)⟩ (by omega) (.cons Z (.cons Z (.cons Z (.cons Z (.cons Z (.cons Z (.cons (bW Z) .nil)))))))
    ·refine aj<|vm Z<|J (b0 Z)<|J (av K2 Z)<|J (v:= .bool bn.gone) (ao Z (τ.aJ.kx oz (xl.has.cw (bb k)) 2 gm Z HT))<|J (dV Z)<|va Z<|ai<| ?_;refine ed Z (λ s9=> ?_) (λ s9=> ?_)
     ·simp only [aTf,aTE] at s9;refine rg<|vm Z<|vm Z<|J (b0 Z)<|J (av HR Z)<|J (v:= .int .i64 bn.late) (ao Z (τ.aJ.kx oz (xl.has.cw (bb k)) 1 gm Z bc))<|J (bad Z Z (bD (by omega)))<|J (oF Z Z)<|J (b0 Z)<|J (av HR Z)<|so (q':=(⟨(⟨eg,bn.waits.length,dn,bn.late,bn.gone⟩:bA).a,(⟨eg,bn.waits.length,dn,bn.late,bn.gone⟩:bA).n,(⟨eg,bn.waits.length,dn,bn.late,bn.gone⟩:bA).c,min (bn.late+1) 1000000,(⟨eg,bn.waits.length,dn,bn.late,bn.gone⟩:bA).gone⟩:bA)) (j:=1) (i:=k) xl τ.dI gm Z Z Z Z (λ _ cs h=>by have qm:=(show _∧_ from h).2;obtain rfl:=oz h;exact ⟨rfl,bM.2 (by (try dsimp only);omega)⟩) Z Z dx λ Ep im vA=> ?_;have:=im.size;have sK:=Ext.mod jn im (λ q I=>aSs (by omega) (xl.lt q I).1);refine nl<|bY<|bY<|aU<|rg<|J (bad Z Z (bD (by omega)))<|vm Z<|nl<| ?_;have sV:=sV.mod im (λ q I h=>Dw q I h);obtain ⟨_,Lt,_,T'⟩:=sV.2 k _ gm;obtain rfl:=aRV ((Rw.trans kz).symm.trans Lt);have Wl:wo bn=⟨bn.waits,min (bn.late+1) 1000000,bn.gone⟩:=by unfold wo;rw [aR5 (by omega),aR8 s9]
      exact c9 _ _ ⟨k+1,(lL).set k ((⟨(⟨eg,bn.waits.length,dn,bn.late,bn.gone⟩:bA).a,(⟨eg,bn.waits.length,dn,bn.late,bn.gone⟩:bA).n,(⟨eg,bn.waits.length,dn,bn.late,bn.gone⟩:bA).c,min (bn.late+1) 1000000,(⟨eg,bn.waits.length,dn,bn.late,bn.gone⟩:bA).gone⟩:bA)),Z,Z,sK,vA,(by rw [X' kz,Wl];exact hQ.set (s:=⟨bn.waits,min (bn.late+1) 1000000,bn.gone⟩) sV (by omega) T'),by omega,by rw [aR4];exact td,λ q κ ab=>(Ny κ).elim (λ κ=>Dw q (Sm κ) ab) (λ κ=>Dw q (tJ gm κ) ab)⟩ (by omega) (.cons Z (.cons Z (.cons Z (.cons Z (.cons Z (.cons Z (.cons (bW Z) .nil)))))))
     ·simp only [aTf,aTE] at s9;refine fI<|bY<|bY<|aU<|rg<|J (bad Z Z (bD (by omega)))<|vm Z<|nl<| ?_;exact c9 _ _ ⟨k+1,lL,Z,Z,jn,xl,(by rw [X' kz,show wo bn=bn from by unfold wo;rw [aR5 (by omega),aR5 (by rw [s9];decide)],aCN (by rw [Rw];exact kz)];exact sV),by omega,td,Dw⟩ (by omega) (.cons Z (.cons Z (.cons Z (.cons Z (.cons Z (.cons Z (.cons (bW Z) .nil)))))))
   ·have k3:k=S.length:=by omega
    subst k3;rw [azh] at sV;refine dw<|du<|dN<|dt<|aU<|aj<|va Z<|ai<|aA<|aj<|va Z<|ai<|bL<| ?_;refine eL (λ cg cf aQ=>∃ zc:List bA,∃ C2:List cq,∃ cT:Option Addr,∃ hT:Nat,∃ out:List aL,∃ C3:Bool,cf= [(0, .slice qI A2.length dT),(1, .int .i64 m),(4, .slice none 0 0),(5, .slice none 0 0),(6, .int .i64 0),(10, .slice cT out.length hT),(11, .bool C3)]∧cg=m.toNat+1 - out.length+C3.toNat∧Ext w aQ∧bA.rep.aF 163 40 aQ l0.heap.size (τ.ah qI) qI dT zc∧aL.rep.aF 69 48 aQ w.heap.size (τ.ah cT) cT hT out∧hQ aQ l0.heap.size zc C2∧(J5 m.toNat (vL m.toNat S) (C2,out) C3)∧(zc.length=S.length)∧(out.length≤m.toNat)∧(∀ q∈eO zc,q∈τ.ah qI→False)∧(∀ q∈eO zc,q∈τ.ah cT→False)∧(C2.length=S.length)∧(∀ q∈τ.ah cT,q∈τ.ah qI→False)) _ _ ⟨lL,(S.map wo),none,0, [],true,Z,Z,jn,xl,(τ.aF.nil _),sV, .inl ⟨Z,_,by simp,rfl⟩,td,by simp,Dw,λ q κ ab=>by simp [τ.ah] at ab,by simp,(λ q I Φ=>by (simp [τ.ah] at I))⟩ (tI Z) ?_;rintro k9 aHm yC ⟨zc,C2,cT,hT,out,C3,rfl,rfl,l4,T8,T7,OY,d_,agW,ahj,hdr,Rb,agV,aeb⟩;have:=l4.size;have Af:=λ q I=>(T8.lt q I).2;have Ej:=λ q I=>(T7.lt q I).2;have aP6:∀ q∈eO zc,q<yC.heap.size:=λ q I=>(OY.lt q I).2;have aL4:∀ q∈eO zc,l0.heap.size≤q:=λ q I=>(OY.lt q I).1;refine aA<|aj<|vm Z<|ai<| ?_;refine ed Z (λ rY=> ?_) (λ rY=> ?_)
    ·rw [rY] at d_;refine bu<|bL<|aj<|va Z<|ai<|aj<|vm Z<|J (cG underlying34 Z)<|vm Z<|ai<|bL<| ?_;refine eL (λ cg cf aQ=>∃ i:Nat,∃ xq:List bA,∃ Fh:List cq,∃ yT:Option Addr,∃ ci:Nat,∃ dB:List aL,∃ zy:Bool,cf= [(0, .slice qI A2.length dT),(1, .int .i64 m),(4, .slice none 0 0),(5, .slice none 0 0),(6, .int .i64 0),(10, .slice yT dB.length ci),(11, .bool zy),(61, .bool C3),(62, .slice qI A2.length dT),(63, .int .i64 (A2.length:Int)),(64, .int .i64 (i:Int))]∧cg=S.length - i∧Ext w aQ∧bA.rep.aF 163 40 aQ l0.heap.size (τ.ah qI) qI dT xq∧aL.rep.aF 69 48 aQ w.heap.size (τ.ah yT) yT ci dB∧hQ aQ l0.heap.size xq Fh∧(i≤S.length)∧(xq.length=S.length)∧(dB.length≤m.toNat)∧(∀ q∈eO xq,q∈τ.ah qI→False)∧(∀ q∈eO xq,q∈τ.ah yT→False)∧(Fh.length=S.length)∧((Fh,dB)=(List.range i).foldl (B' m.toNat) (C2,out))∧(zy=decide (dB.length≠out.length))∧(out.length≤dB.length)∧(∀ q∈τ.ah yT,q∈τ.ah qI→False)) _ _ ⟨0,zc,C2,cT,hT,out,false,Z,Z,l4,T8,T7,OY,by omega,agW,ahj,hdr,Rb,agV,rfl,(by simp),aR7 _,(λ q I Φ=>by (exact aeb q I Φ))⟩ (.cons Z (.cons Z (.cons Z (.cons Z (.cons Z (.cons Z (.cons Z (.cons Z (.cons Z (.cons Z (.cons (bW Z) .nil))))))))))) ?_;rintro B0 aol Er ⟨i,xq,Fh,yT,ci,dB,zy,rfl,rfl,mT,ue,Fa,pO,aq,Xn,Xs,LR,L',Xm,hF,VG,Xt,Fx⟩;have:=mT.size;have amw:=λ q I=>(ue.lt q I).2;have aEi:=λ q I=>(Fa.lt q I).2;have aD7:∀ q∈eO xq,q<Er.heap.size:=λ q I=>(pO.lt q I).2;have aL2:∀ q∈eO xq,l0.heap.size≤q:=λ q I=>(pO.lt q I).1;refine aj<|J (blt Z Z)<|ai<|aA<| ?_;refine dY Z (λ LB=> ?_) (λ LB=> ?_)
     ·obtain ⟨eg,dn,bn,gm,kz,hI⟩:=pO.get (k:=i) (by omega);refine bu<|aA<|bL<|aj<|vm Z<|va Z<|ai<|aj<|vm Z<|vm Z<|J (b9 i underlying34 k2 Z Z (ue.has.bP (bb i)) Z (by omega))<|va Z<|ai<|aj<|vm Z<|J (b0 Z)<|J (av rO Z)<|J (v:= .slice eg bn.waits.length dn) (ao Z (τ.aJ.kx oz (ue.has.cw (bb i)) 0 gm Z o6))<| ?_;refine J (cG underlying48 Z)<|J (iJ Z Z)<|vm Z<|bs Z Z Z Z (λ hc=>aK Z) Z<|bs Z Z Z Z (λ hc=>cG underlying48 (gt hc Z)) Z<|bs Z Z Z Z (λ hc=>aK Z) Z<|bs Z Z Z Z (λ hc=>blt (gt hc Z) (gt hc Z)) Z<|J (eN Z Z Z Z)<|ai<| ?_;refine ed Z (λ Ds=> ?_) (λ Ds=> ?_)
      ·simp only [cE] at Ds;have vY:0<bn.waits.length∧dB.length<m.toNat:=by omega
       obtain ⟨_,Lt,_,hI⟩:=pO.2 i _ gm;obtain rfl:=aRV (kz.symm.trans Lt);have amm:=λ q I=>(hI.lt q I).2;have ay3:=λ q I=>(hI.lt q I).1;have PU:∀ q∈τ.ah eg,q∈τ.ah qI→False:=λ q κ ab=>LR q (tJ gm κ) ab;have aek:∀ q∈τ.ah eg,q∈τ.ah yT→False:=λ q κ ab=>L' q (tJ gm κ) ab;have axv:(bn.waits.getD 0 default).ok:=aL.nF hI.has _ (jC vY.1);refine Se (τ.ah yT) [(5,0),(7,0),(8,2),(9,2),(13,0),(18,3)] [0,1,2,3,4,5,6,7,10,11,12,13,14,8,9,15,16,17,18,19] (by kernel_rfl) (by kernel_rfl) ?_;refine jX Z Z (λ _=>aK Z) Z<|jX Z Z (λ _=>aK Z) Z<|jX Z Z (λ _=>aK Z) Z<|jX Z Z (λ _=>b0 Z) Z<|jX Z Z (λ _=>av rO Z) Z<|zx (v:= .slice eg bn.waits.length dn) Z Z (λ _ x=>ao Z (τ.aJ.kx oz ((ue.mod x (λ q I h=>Fx q h I)).has.cw (bb i)) 0 gm Z o6)) Z<|jX Z Z (λ _=>b9 0 underlying48 fN Z Z (hI.has.bP (bb 0)) Z (by omega)) Z<|zx Z Z (λ _ x=>ao Z (τ.aJ.ik LN ((hI.mod x (λ q I h=>aek q I h)).has.cw (bb 0)) (c8 (l:=bn.waits) (u:=default) (j:=0) (by omega)) jW fN)) Z<|jX Z Z (λ _=>aK Z) Z<|jX Z Z (λ _=>b0 Z) Z<|jX Z Z (λ _=>av rO Z) Z<|zx (v:= .slice eg bn.waits.length dn) Z Z (λ _ x=>ao Z (τ.aJ.kx oz ((ue.mod x (λ q I h=>Fx q h I)).has.cw (bb i)) 0 gm Z o6)) Z<|jX Z Z (λ _=>alv 1 underlying48 fN Z Z Z (by omega)) Z<|FI Z Z Z λ Jw iE Q hK=>cX (e:= 69) (cs:= [.int .i64 ((bn.waits.getD 0 default).by_), .int .i64 ((bn.waits.getD 0 default).kind), .int .i64 ((bn.waits.getD 0 default).aR), .int .i64 ((bn.waits.getD 0 default).spot.x), .int .i64 ((bn.waits.getD 0 default).spot.y), .int .i64 ((bn.waits.getD 0 default).what)]) Z (λ _=>by kernel_rfl) Z λ Ao vF iX X_ xd=>hK _ _ ⟨Mod.bE (γ iE iX), ?_⟩;have:=iE.size;have oT:=γ mT iE;have:=iX.size;have lq:=γ oT iX;have R8:=xd.lt;have Fa:=Fa.later (γ iE iX);refine FI Z Z Z λ Z7 n8 Q hK=>ap apm τ.dI (Fa.later n8) ((aP.gS (R:=aL.rep) (by_:=48) (q:=bn.waits.getD 0 default) xd ⟨Z,axv⟩ (by decide)).keep n8) Z Z (by simp only [aR0,aR6];omega) (by simp only [aR0,aR6];omega) (by have:=n8.size;omega) Z λ JA CE o4 iq rF vW akc=>hK _ _ ⟨(Mod.bE n8).trans iq, ?_⟩;have:=n8.size;have G5:=γ lq n8;have:=iq.size;have vt:=Ext.mod G5 iq (λ q I=>aSs (by omega) ((Fa.later n8).lt q I).1);have wN:=λ q I=>(rF.lt q I).2;have:=iq.size;refine jX Z Z (λ _=>fF Z) Z<|jX Z Z (λ _=>b0 Z) Z<|jX Z Z (λ _=>av rO Z) Z<| ?_;have ue:=ue.later (γ iE (γ iX n8));have ue:=ue.mod iq (λ q I h=>Fx q h I);refine VN Z Z Z λ NW iY Q hK=>so (q':=(⟨eW eg dn 1 6,bn.waits.length - 1,dn - 1,(⟨eg,bn.waits.length,dn,bn.late,bn.gone⟩:bA).late,(⟨eg,bn.waits.length,dn,bn.late,bn.gone⟩:bA).gone⟩:bA)) (j:=0) (i:=i) (ue.later iY) τ.dI gm Z Z Z Z (λ _ cs h=>by have qm:=(show _∧_ from h).2;obtain rfl:=oz h;exact ⟨rfl,qm⟩) Z Z Be λ S4 pq Uf=>hK _ _ ?_;have:=iY.size;have vu:=γ vt iY;have:=pq.size;have yQ:=Ext.mod vu pq (λ q I=>aSs (by omega) ((ue.later iY).lt q I).1);refine jX Z Z (λ _=>fF Z) Z<|Qn λ S6 JS=> ?_;have:=JS.size;have sP:=γ yQ JS;refine bY<|aU<|rg<|J (bad Z Z (bD (by omega)))<|vm Z<|nl<| ?_;have Uf:=Uf.later JS;have rF:=rF.later iY;have rF:=rF.mod pq (λ q I h=>by exfalso;(exact aR9 (vW q I) (λ MN=>by (exact Fx q MN h)) (λ MN=>by (have:=amw q h;omega))));have rF:=rF.later JS;have pO:=pO.later (γ iE (γ iX n8));have pO:=pO.mod iq (λ q I h=>L' q I h);have pO:=pO.later iY;have pO:=pO.mod pq (λ q I h=>LR q I h);have pO:=pO.later JS;have hI:=hI.later (γ iE (γ iX n8));have hI:=hI.mod iq (λ q I h=>aek q I h);have hI:=hI.later iY;have hI:=hI.mod pq (λ q I h=>PU q I h);have hI:=hI.later JS;have avv:=hI.cut vY.1;have qZ:(bn.waits.drop 1).length=bn.waits.length - 1:=aSf;exact c9 _ _ ⟨i+1,(xq).set i ((⟨eW eg dn 1 6,bn.waits.length - 1,dn - 1,(⟨eg,bn.waits.length,dn,bn.late,bn.gone⟩:bA).late,(⟨eg,bn.waits.length,dn,bn.late,bn.gone⟩:bA).gone⟩:bA)),Fh.set i ⟨bn.waits.drop 1,bn.late,bn.gone⟩,CE,o4,dB++ [bn.waits.getD 0 default],true,Z,Z,sP,Uf,rF,(by have bg:=hQ.set (s:=⟨bn.waits.drop 1,bn.late,bn.gone⟩) (k:=i) pO (by omega) avv;rw [qZ] at bg;exact bg),by omega,by rw [aR4];exact Xn,by rw [aR1,aSS];omega,λ q κ ab=>LR q (alw gm κ) ab,λ q κ ab=>(λ κ=>by (exact aR9 (vW q ab) (λ DU=>by (exact L' q κ DU)) (λ DU=>by (have:=aD7 q κ;omega)))) (alw gm κ),by rw [aR4];exact Xm,by rw [afn,← hF,aDo kz vY],by rw [aR1,aSS];exact (aSw (by omega)).symm,by rw [aR1,aSS];omega,(λ q I Φ=>by (exact aR9 (vW q I) (λ ai6=>by (exact Fx q ai6 Φ)) (λ ai6=>by (have:=amw q Φ;omega))))⟩ (by omega) (.cons Z (.cons Z (.cons Z (.cons Z (.cons Z (.cons Z (.cons Z (.cons Z (.cons Z (.cons Z (.cons (bW Z) .nil)))))))))))
      ·simp only [cE] at Ds;have vY:¬(0<bn.waits.length∧dB.length<m.toNat):=by omega
       refine fI<|bY<|aU<|rg<|J (bad Z Z (bD (by omega)))<|vm Z<|nl<| ?_;exact c9 _ _ ⟨i+1,xq,Fh,yT,ci,dB,zy,Z,Z,mT,ue,Fa,pO,by omega,Xn,Xs,LR,L',Xm,by rw [afn,← hF,aDn kz vY],VG,Xt,(λ q I Φ=>by (exact Fx q I Φ))⟩ (by omega) (.cons Z (.cons Z (.cons Z (.cons Z (.cons Z (.cons Z (.cons Z (.cons Z (.cons Z (.cons Z (.cons (bW Z) .nil)))))))))))
     ·have aue:i=S.length:=by omega
      refine dw<|du<|dN<|dt<|bY<| ?_;exact c9 _ _ ⟨xq,Fh,yT,ci,dB,zy,Z,Z,mT,ue,Fa,pO,by rw [VG];exact J5.next d_ (by unfold Gx;rw [show (C2,out).1.length=S.length from agV,← aue];exact hF.symm) ahj Xt,Xn,Xs,LR,L',Xm,(λ q I Φ=>by (exact Fx q I Φ))⟩ (by rw [rY];exact arn VG Xt Xs) (tI Z)
    ·refine dw<|du<|dN<|dt<|aU<|aj<|vm Z<|vm Z<|va Z<|va Z<|va Z<|ai<|rt<|bd (.tmp Z (.tmp Z (.tmp Z .nil)))<| ?_;exact ⟨0,_,_,zc,C2,cT,hT,out,by rw [agW,ag1];rfl, .inl ⟨rfl,⟨FM,Iv⟩,(by rcases d_ with ⟨bg,_⟩ | ⟨_,bg⟩;exact absurd bg (by simp [rY]);exact bg)⟩,T8.down (by omega),OY.down (by omega),T7,λ q κ ab=>hdr q ab κ,λ q κ=>⟨λ ab=>by exfalso;(exact aeb q κ ab),λ ab=>Rb q ab κ⟩,l4⟩
end
end Go.Proofs.YtmeeljmapailnaaGreat
namespace Go.Proofs.YtmeeljmapailnaaGreat.bR
open Tryz
def nI:Nat→Nat→Nat
 | 0,_=>0
 | f+1,x=>x % 2+nI f (x / 2)
theorem U0 (f g x:Nat):nI (f+g) x=nI f x+nI g (x / 2 ^ f):=by
 induction f generalizing x with
 | zero=>simp [nI]
 | succ f bx =>
  rw [Nat.succ_add,nI,nI,bx,aUX,aUW,aTe 2];omega
theorem U1 (f x:Nat):nI f (x % 2 ^ f)=nI f x:=by
 induction f generalizing x with
 | zero=>rfl
 | succ f bx =>
  rw [nI,nI,aUW];have κ:x % (2 ^ f * 2) % 2=x % 2:=Nat.mod_mod_of_dvd _ ⟨2 ^ f,aTe _ _⟩;have ab:x % (2 ^ f * 2) / 2=x / 2 % 2 ^ f:=by rw [aTe,Nat.mod_mul_right_div_self]
  rw [κ,ab,bx]
theorem HJ (f x:Nat):nI f x≤f:=by
 induction f generalizing x with
 | zero=>exact aR7 _
 | succ f bx=>have:=bx (x / 2);rw [nI];omega
def size (x:Nat):Nat:=nI 32 x
theorem size_bytes (x:Nat) (h:x<4294967296):size x=nI 8 (x / 16777216)+nI 8 (x / 65536 % 256)+nI 8 (x / 256 % 256)+nI 8 (x % 256):=by
 unfold size;rw [show (32:Nat)=8+(8+(8+8)) from rfl,U0,U0,U0,aUX,aUX];rw [show (256:Nat)=2 ^ 8 from rfl,U1,U1,U1];simp only [Nat.reducePow,Nat.reduceMul];omega
theorem R2 (n:Nat) (h:n<256):Lib.pop8 (n:Int)=(nI 8 n:Int):=by
 have e:=Lib.pop8_eq ⟨n,h⟩;have bh:∀ m:Fin 256,Lib.onesCount m.val=nI 8 m.val:=by decide +kernel
 rw [bh ⟨n,h⟩] at e;exact e
end Go.Proofs.YtmeeljmapailnaaGreat.bR
namespace Go.Proofs.YtmeeljmapailnaaGreat
open Tryz
end Go.Proofs.YtmeeljmapailnaaGreat
namespace Go.Proofs.YtmeeljmapailnaaGreat.bR
open Tryz
open Go.RowKit Go.Proofs.YtmeeljmapailnaaGreat Go.Proofs.YtmeeljmapailnaaGreat.fu

theorem aCt {a b:Int} (h:a=b):Ending.returned (.int .i64 a)= .returned (.int .i64 b):=by rw [h]
theorem Ur (a:Nat) (h:a<4294967296):bits .and .u32 (a:Int) 255=((a % 256:Nat):Int):=by
 have κ:=(aVX .u32 32 (by decide) (fun n aG κ=>by simp [IntKind.wrap,IntKind.signed,IntKind.bits];omega) a 255 (by omega) (by omega)).1;have e:a &&& 255=a % 256:=Nat.and_two_pow_sub_one_eq_mod a 8;rw [e] at κ;exact κ
@[go_sem high] theorem aJN:(⟨((([0,1,1,2,1,2,2,3,1,2,2,3,2,3,3,4,1,2,2,3,2,3,3,4,2,3,3,4,3,4,4,5,1,2,2,3,2,3,3,4,2,3,3,4,3,4,4,5,2,3,3,4,3,4,4,5,3,4,4,5,4,5,5,6]:List UInt8).append [1,2,2,3,2,3,3,4,2,3,3,4,3,4,4,5,2,3,3,4,3,4,4,5,3,4,4,5,4,5,5,6,2,3,3,4,3,4,4,5,3,4,4,5,4,5,5,6,3,4,4,5,4,5,5,6,4,5,5,6,5,6,6,7]).append (([1,2,2,3,2,3,3,4,2,3,3,4,3,4,4,5,2,3,3,4,3,4,4,5,3,4,4,5,4,5,5,6,2,3,3,4,3,4,4,5,3,4,4,5,4,5,5,6,3,4,4,5,4,5,5,6,4,5,5,6,5,6,6,7]:List UInt8).append [2,3,3,4,3,4,4,5,3,4,4,5,4,5,5,6,3,4,4,5,4,5,5,6,4,5,5,6,5,6,6,7,3,4,4,5,4,5,5,6,4,5,5,6,5,6,6,7,4,5,5,6,5,6,6,7,5,6,6,7,6,7,7,8])).toArray⟩:ByteArray)=Lib.pop8tab:=by decide +kernel
theorem art (n:Nat) (hn:n<4294967296) (w:World):
  Calls prog 181 #[.int .u32 (n:Int)] w fun e w'=>e= .returned (.int .i64 (size n:Int))∧∃ q,w'=w.drewN q:=by
 have d1:(n:Int) / 16777216=((n / 16777216:Nat):Int):=by omega
 have d2:(n:Int) / 65536=((n / 65536:Nat):Int):=by omega
 have d3:(n:Int) / 256=((n / 256:Nat):Int):=by omega
 have a2:=Ur (n / 65536) (by omega);have a3:=Ur (n / 256) (by omega);have a4:=Ur n hn;have eM:=R2 (n / 16777216) (by omega);have ft:=R2 (n / 65536 % 256) (by omega);have nh:=R2 (n / 256 % 256) (by omega);have yl:=R2 (n % 256) (by omega);have i1:(0:Int)≤((n / 16777216:Nat):Int)∧((n / 16777216:Nat):Int)≤255:=by omega
 have i2:(0:Int)≤((n / 65536 % 256:Nat):Int)∧((n / 65536 % 256:Nat):Int)≤255:=by omega
 have i3:(0:Int)≤((n / 256 % 256:Nat):Int)∧((n / 256 % 256:Nat):Int)≤255:=by omega
 have i4:(0:Int)≤((n % 256:Nat):Int)∧((n % 256:Nat):Int)≤255:=by omega
 have c1:=HJ 8 (n / 16777216);have c2:=HJ 8 (n / 65536 % 256);have c3:=HJ 8 (n / 256 % 256);have c4:=HJ 8 (n % 256);rw [size_bytes n hn];generalize n / 16777216=nH at *
 generalize n / 65536=nj at *
 generalize n / 256=yo at *
 generalize nj % 256=f_ at *
 generalize yo % 256=gR at *
 generalize dz:n % 256=zg at *
 obtain ⟨i10,i11⟩:=i1;obtain ⟨i20,i21⟩:=i2;obtain ⟨i30,i31⟩:=i3;obtain ⟨i40,i41⟩:=i4;go_enter func181,ntmps181;go_wp2_with fail
 go_quiet (fail)
 go_wp2_with fail
 go_ret;exact ⟨aCt (by push_cast;rfl),nq,Z⟩

theorem aru (n:Nat) (hn:n<4294967296) (w:World):
  Calls prog 162 #[.int .u32 (n:Int)] w fun e w'=>e= .returned (.int .i64 (size n:Int))∧∃ q,w'=w.drewN q:=by
 go_enter func162,ntmps162;go_wp2_with fail
 refine (art n hn _).mono ?_;rintro e w' ⟨rfl,q,rfl⟩;go_wp2_with fail
 go_ret;exact ⟨Z,q,Z⟩
def zX (t:Int):List Nat→Nat→Int
 | [],_=> -1
 | x::xs,i=>if t≤(size x:Int) then (i:Int) else zX t xs (i+1)
def Sets (w:World) (b o:Nat) (l:List Nat):Prop:=∀ k,(h:k<l.length)→w.cell? ⟨b,o+k,none⟩=some (.int .u32 ((l[k]:Nat):Int))∧l[k]<4294967296
end Go.Proofs.YtmeeljmapailnaaGreat.bR
namespace Go.Proofs.YtmeeljmapailnaaGreat
open Tryz
end Go.Proofs.YtmeeljmapailnaaGreat
namespace Go.Proofs.YtmeeljmapailnaaGreat.bR
open Tryz
open Go.RowKit Go.Proofs.YtmeeljmapailnaaGreat.fu
def diff (a b:Nat):Nat:=(BitVec.ofNat 32 a &&& ~~~BitVec.ofNat 32 b).toNat
theorem KU (a b:Nat):diff a b<4294967296:=(BitVec.ofNat 32 a &&& ~~~BitVec.ofNat 32 b).isLt
theorem ar7 (a b i:Nat) (ha:a<4294967296) (aq:i<32):(diff a b).testBit i=(a.testBit i && !b.testBit i):=by
 unfold diff;rw [BitVec.testBit_toNat,BitVec.getLsbD_and,BitVec.getLsbD_not,aWB,aWB];simp [aq]
theorem akm (a:Nat):BitVec.ofInt 32 (a:Int)=BitVec.ofNat 32 a:=aAQ a
theorem ar8 (a b:Nat):bits .andNot .u32 (a:Int) (b:Int)=(diff a b:Int):=by
 have h:=Qg (x:=bits .andNot .u32 (a:Int) (b:Int)) (b:=BitVec.ofNat 32 a &&& ~~~BitVec.ofNat 32 b) (Ps _ _ _) (Pr _ _ _) (by rw [aAN,akm,akm]);exact h
theorem Tf (n:Int) (ayg:0≤n) (h₁:n<2 ^ 32):IntKind.u32.wrap n=n:=by simp [IntKind.wrap,IntKind.signed,IntKind.bits];omega
theorem aAY (a b:Nat) (ha:a<4294967296) (Φ:b<4294967296):bits .or .u32 (a:Int) (b:Int)=((a ||| b:Nat):Int):=(aVX .u32 32 (by decide) Tf a b ha Φ).2
theorem apP (a b:Nat) (ha:a<4294967296) (Φ:b<4294967296):bits .and .u32 (a:Int) (b:Int)=((a &&& b:Nat):Int):=(aVX .u32 32 (by decide) Tf a b ha Φ).1
theorem aqa (a k:Nat) (ha:a<4294967296):bits .and .u32 ((a / 2 ^ k:Nat):Int) 1=if a.testBit k then 1 else 0:=by
 have κ:a / 2 ^ k<4294967296:=aWJ (Nat.div_le_self _ _) ha;have h:=apP (a / 2 ^ k) 1 κ (by decide);rw [aWK] at h;rw [show (1:Int)=((1:Nat):Int) from rfl,h,Nat.testBit_eq_decide_div_mod_eq];rcases aV3 (a / 2 ^ k) with e | e<;>simp [e]
theorem azP {a b:Nat} (ha:a<4294967296) (Φ:b<4294967296):a ||| b<4294967296:=Nat.or_lt_two_pow (n:=32) ha Φ
theorem Ni {k:Nat} (ar:k<32):2 ^ k<4294967296:=Nat.pow_lt_pow_right (a:=2) (by decide) ar
end Go.Proofs.YtmeeljmapailnaaGreat.bR
namespace Go.Proofs.YtmeeljmapailnaaGreat
open Tryz
end Go.Proofs.YtmeeljmapailnaaGreat
namespace Go.Proofs.YtmeeljmapailnaaGreat.bR
open Tryz
open Go.RowKit Go.Proofs.YtmeeljmapailnaaGreat Go.Proofs.YtmeeljmapailnaaGreat.fu
def Gt (m x k:Nat):Bool:=diff x m == 0 && !x.testBit k && (x == 0 || m.testBit k)
def Nh (m:Nat):List Nat→Nat→Bool
 | [],_=>true
 | x::xs,k=>Gt m x k && Nh m xs (k+1)
def check (m:Nat) (l:List Nat):Int :=
 if m=0∨65536≤m then 1 else if Nh m l 0=false then 4 else if 0≤zX ((size m:Int) / 2+1) l 0 then 4 else 0
end Go.Proofs.YtmeeljmapailnaaGreat.bR
namespace Go.Proofs.YtmeeljmapailnaaGreat
open Tryz
end Go.Proofs.YtmeeljmapailnaaGreat
namespace Go.Proofs.YtmeeljmapailnaaGreat.bR
open Tryz
open Go.RowKit Go.Proofs.YtmeeljmapailnaaGreat Go.Proofs.YtmeeljmapailnaaGreat.fu

def Gn (m:Nat) (k:Int):Bool:=decide (0≤k) && (decide (k<16) && m.testBit k.toNat)
def D6 (k x:Nat):Nat:=diff x (2 ^ k)
def aJi (l:List Nat):List Value:=l.map fun x:Nat=>Value.int .u32 (x:Int)
def part (k:Nat) (l:List Nat) (i:Nat):List Nat:=(l.take i).map (D6 k)++l.drop i
theorem YS (k:Nat) (l:List Nat) (i:Nat):(part k l i).length=l.length:=by unfold part;simp;omega
theorem aBd (k:Nat) (l:List Nat) (i:Nat) (h:i<l.length):(part k l i)[i]? =some l[i]:=by
 unfold part;have e:((l.take i).map (D6 k)).length=i:=by rw [aSK,aRZ];omega
 rw [aSi (by rw [e];exact aR7 _),e,aVF,aS0,Nat.add_zero,aRX h]
theorem YT (k:Nat) (l:List Nat) (i:Nat) (h:i<l.length):(part k l i).set i (D6 k l[i])=part k l (i+1):=by
 unfold part;have e:((l.take i).map (D6 k)).length=i:=by rw [aSK,aRZ];omega
 rw [aVc _ _ (by rw [e];exact aR7 _),e,aVF,aSn h,aSm,aTL h,aTT,aSA];rfl
def uK (l:List Nat) (k:Nat):List Nat:=part k (l.set k 0) 16

end Go.Proofs.YtmeeljmapailnaaGreat.bR
namespace Go.Proofs.YtmeeljmapailnaaGreat
open Tryz
end Go.Proofs.YtmeeljmapailnaaGreat
namespace Go.Proofs.YtmeeljmapailnaaGreat.bR
open Tryz
open Go.RowKit Go.Proofs.YtmeeljmapailnaaGreat Go.Proofs.YtmeeljmapailnaaGreat.fu

def j6 (m:Nat) (l:List Nat):Int:=zX ((size m:Int) / 2+1) l 0
def yn:Nat→Nat→List Nat→Nat×List Nat
 | 0,m,l=>(m,l)
 | f+1,m,l=>if 0≤j6 m l then yn f (diff m (2 ^ (j6 m l).toNat)) (uK l (j6 m l).toNat) else (m,l)
def q9 (l:List Nat):Nat:=(l.filter (· != 0)).length
theorem aAD (l:List Nat):q9 l≤l.length:=aUw _ _
theorem akB (t:Int):∀ (l:List Nat) (i:Nat),0≤zX t l i→∃ j,∃ h:j<l.length,zX t l i=((i+j:Nat):Int)∧t≤(size l[j]:Int)
 | [],i,h=>by simp [zX] at h
 | x::xs,i,h=>by
  unfold zX at h ⊢;by_cases hx:t≤(size x:Int)
  ·rw [aR8 hx];exact ⟨0,by simp,by simp,hx⟩
  ·rw [aR5 hx] at h ⊢;obtain ⟨j,az,κ,ab⟩:=akB t xs (i+1) h;exact ⟨j+1,by simp;exact az,by rw [κ];congr 1;omega,ab⟩
theorem am9 {m:Nat} {l:List Nat} (h:0≤j6 m l):∃ k:Nat,j6 m l=(k:Int)∧∃ ar:k<l.length,(size m:Int) / 2+1≤(size l[k]:Int):=by
 obtain ⟨j,az,κ,ab⟩:=akB _ l 0 h;exact ⟨j,by unfold j6;rw [κ];simp,az,ab⟩
theorem aC2:size 0=0:=by decide
theorem Ya (l:List Nat) (k:Nat) (h:l.length=16):(uK l k).length=16:=by unfold uK;rw [YS,aR4];exact h
theorem azm (l:List Nat) (k:Nat) (h:l.length=16):uK l k=(l.set k 0).map (D6 k):=by
 unfold uK part;have ab:(l.set k 0).length=16:=by rw [aR4];exact h
 rw [aSk (by omega),aWu (by omega),aSz]
theorem aA3 (k:Nat):D6 k 0=0:=by
 unfold D6 diff;simp
theorem akk (f:Nat→Nat) (aG:f 0=0):∀ l:List Nat,q9 (l.map f)≤q9 l
 | []=>aR7 _
 | x::xs=>by
  have bx:=akk f aG xs;unfold q9 at *
  rw [aSB,aS4,aS4];by_cases hx:x=0
  ·subst hx;rw [aG];simpa using bx
  ·rw [aR8 (show (x != 0)=true by simp [hx])];split
   ·rw [aR0,aR0];exact Nat.succ_le_succ bx
   ·rw [aR0];exact aWR bx
theorem akl:∀ (l:List Nat) (k:Nat) (ar:k<l.length),l[k]≠0→q9 (l.set k 0)+1=q9 l
 | x::xs,0,_,h=>by
  unfold q9;simp at h;simp [h]
 | x::xs,k+1,ar,h=>by
  have bx:=akl xs k (by simpa using ar) (by simpa using h);unfold q9 at *
  simp only [aTD,aS4];split
  ·simp;omega
  ·exact bx
theorem azo {m:Nat} {l:List Nat} (ay:l.length=16) {k:Nat} (ar:k<l.length) (h:(size m:Int) / 2+1≤(size l[k]:Int)):q9 (uK l k)<q9 l:=by
 have aG:l[k]≠0:=by
  intro aG;rw [aG,aC2] at h;omega
 have κ:=akl l k ar aG;rw [azm l k ay];have ab:=akk (D6 k) (aA3 k) (l.set k 0);omega
end Go.Proofs.YtmeeljmapailnaaGreat.bR
namespace Go.Proofs.YtmeeljmapailnaaGreat
open Tryz
end Go.Proofs.YtmeeljmapailnaaGreat
namespace Go.Proofs.YtmeeljmapailnaaGreat.bR
open Tryz
open Go.RowKit Go.Proofs.YtmeeljmapailnaaGreat Go.Proofs.YtmeeljmapailnaaGreat.fu
def Part (a b:Nat):Prop:=∀ i,a.testBit i=true→b.testBit i=true
structure aoq (m:Nat) (l:List Nat):Prop where
 aNj:m<65536
 len:l.length=16
 lt:∀ k,l.getD k 0<4294967296
 sub:∀ k,Part (l.getD k 0) m
 self:∀ k,(l.getD k 0).testBit k=false
 mem:∀ k,l.getD k 0≠0→m.testBit k=true
theorem aku (m:Nat):∀ (l:List Nat) (k:Nat),Nh m l k=true↔∀ j,j<l.length→Gt m (l.getD j 0) (k+j)=true
 | [],k=>by simp [Nh]
 | x::xs,k=>by
  rw [Nh,aR2,aku m xs (k+1)];constructor
  ·rintro ⟨κ,ab⟩ j az
   match j with
   | 0=>exact κ
   | j+1 =>
    have:=ab j (by simpa using az);rw [show k+(j+1)=k+1+j from by omega];exact this
  ·intro h;refine ⟨h 0 (by simp),fun j az=> ?_⟩;have:=h (j+1) (by simpa using az);rw [show k+(j+1)=k+1+j from by omega] at this;exact this
structure aHT (m:Nat) (l:List Nat) (r:Nat×List Nat):Prop where
 jY:aoq r.1 r.2
 some_:r.1≠0
 j6:j6 r.1 r.2<0
 sub:Part r.1 m
 aPP:∀ j,Part (r.2.getD j 0) (l.getD j 0)
 gone:∀ j,m.testBit j=true→r.1.testBit j=false→size r.1<2 * size (l.getD j 0)
end Go.Proofs.YtmeeljmapailnaaGreat.bR
namespace Go.Proofs.YtmeeljmapailnaaGreat
open Tryz
end Go.Proofs.YtmeeljmapailnaaGreat
namespace Go.Proofs.YtmeeljmapailnaaGreat.kW
open Tryz
open Go.Proofs.YtmeeljmapailnaaGreat.fu

def aIV (j:Nat):UInt8:=1 <<<UInt8.ofNat j
def ajQ (b:BitVec 32):Nat→BitVec 32
 | 0=>0#32
 | k+1=>ajQ b k ^^^ (if b.getLsbD k then 1#32 <<<k else 0#32)
end Go.Proofs.YtmeeljmapailnaaGreat.kW
namespace Go.Proofs.YtmeeljmapailnaaGreat
open Tryz
end Go.Proofs.YtmeeljmapailnaaGreat
namespace Go.Proofs.YtmeeljmapailnaaGreat.kW
open Tryz
open Go.RowKit Go.Proofs.YtmeeljmapailnaaGreat.fu

def cells (l:List UInt8):List Value:=l.map fun b=>Value.int .u8 (b.toNat:Int)
structure Inv (T:ByteArray) (b:BitVec 32) (p N k:Nat) (t:List UInt8):Prop where
 len:t.length=N
 low:∀ j,j<k→b.getLsbD j=true→p+j<8 * N
 sum:fold (~~~0#32) t=fold (~~~0#32) T.data.toList ^^^ steps (8 * N - p) (ajQ b k)
end Go.Proofs.YtmeeljmapailnaaGreat.kW
namespace Go.Proofs.YtmeeljmapailnaaGreat
open Tryz
section
def aGQ (aD:Nat) (w:World) (A:Option Addr) (c:Nat) (t:List UInt8):Prop :=
 ∃ (g:Nat) (R:List UInt8) (L:Nat),A=some ⟨g,0,none⟩∧aD≤g∧aP w g (kW.cells (t++R)) 5 (L,L+1)∧t.length≤L∧t.length≤c∧c≤9223372036854775807∧t.length≤140737488355328
section
variable {aD:Nat} {w w':World} {A:Option Addr} {c:Nat} {t:List UInt8} {S:List Nat}
end
section
variable {P:Program} {n:Nat} {E cU:List (Nat×Value)} {a:Act} {w w' w0 aT:World} {Q:Exit→Act→World→Prop} {ops:Array Oper} {v:Value}
variable {d:Option Nat} {ty:TypeId} {pos:String} {af:Array Edge} {g:Option (Nat×Bool)} {x y z:Operand} {t u:TypeId} {rest:List Oper} {i j:Int} {k k':IntKind}
theorem aqk {m:Nat} (hx:ev E x=some (.int k i)) (aI:ev E y=some (.int k' (m:Int))) (hm:m≤k.bits) (aG:0≤i):cW P E ⟨d, .binOp .shr t x y u,ty,pos,af,g⟩ w (.int k (i / 2 ^ m)) w:=pz hx aI (by rfl:binOp .shr t (.int k i) (.int k' (m:Int))=Op.shift .shr k i k' (m:Int)) (by
 unfold Op.shift;rw [aR5 (by omega)];show (pure (Value.int k (i.fdiv (2 ^ min (m:Int).toNat k.bits))):Sem Value).run _ _=_;rw [aSR,aTM hm,Int.fdiv_eq_ediv_of_nonneg _ (by exact Int.le_of_lt (Int.pow_pos (by decide)))];rfl)
theorem aqj {m:Nat} (hx:ev E x=some (.int k 1)) (aI:ev E y=some (.int k' j)) (az:j=(m:Int)) (hm:m≤k.bits):cW P E ⟨d, .binOp .shl t x y u,ty,pos,af,g⟩ w (.int k (k.wrap (2 ^ m))) w:=pz hx aI (by rfl:binOp .shl t (.int k 1) (.int k' j)=Op.shift .shl k 1 k' j) (by
 subst az;unfold Op.shift;rw [aR5 (by omega)];show (pure (Value.int k (k.wrap (1 * 2 ^ min (m:Int).toNat k.bits))):Sem Value).run _ _=_;rw [aSR,aTM hm,Int.one_mul];rfl)
theorem ap4 (hx:ev E x=some (.int k i)) (aI:ev E y=some (.int k j)):cW P E ⟨d, .binOp .and t x y u,ty,pos,af,g⟩ w (.int k (bits .and k i j)) w:=pz hx aI (binOp_and t k i j) rfl
end
end
section
open Go.Proofs.YtmeeljmapailnaaGreat.fu
abbrev ec:=Nat
def ec.rep:τ ec:=τ.flat 1 (λ n:Nat=> [.int .u32 (n:Int)]) (λ n=>n<4294967296) (λ _ u=>∃ n:Int,u= .int .u32 n) (λ _=>rfl) (by intro a u hu;simp at hu;subst hu;rfl) (by
 intro a j u hu;cases j with
 | zero=>simp at hu;exact ⟨_,hu.symm⟩
 | succ j=>simp at hu)
theorem Dv {w:World} {cs:List Value} {a:ec} (h:ec.rep.has w cs a):cs= [.int .u32 (a:Int)]:=aTW (show cs= [.int .u32 (a:Int)]∧a<4294967296 from h)
theorem ec.jq:∀ (j:Nat) u,(Value.int .u32 0).cells[j]? =some u→ec.rep.raw j u:=by
 intro j u hu;have hu:(#[(.int .u32 0:Value)]:Array Value)[j]? =some u:=hu
 match j,hu with
 | 0,hu=>exact ⟨_,(aRV hu).symm⟩
 | j+1,hu=>simp at hu
abbrev ec.zero:Value:= .int .u32 0
theorem ec.info:(prog.info? 35).map (λ i=>(i.zero,i.size,i.bytes))=some (some (.int .u32 0),1,4):=by kernel_rfl
theorem ec.plain:ec.rep.Plain:=τ.o'
theorem ec.nF {by_:Nat} {w:World} {A:Option Addr} {c:Nat} {l:List ec} (h:ec.rep.aJ by_ w A c l):∀ a∈l,a<4294967296:=τ.aJ.ze (R:=ec.rep) (Q:=λ a=>a<4294967296) (fun {w cs a} (h:ec.rep.has w cs a)=>(show cs= [.int .u32 (a:Int)]∧a<4294967296 from h).2) h
section
open bR
variable {P:Program} {E:List (Nat×Value)} {w:World} {d:Option Nat} {ty:TypeId} {pos:String} {af:Array Edge} {g:Option (Nat×Bool)} {x y:Operand} {t u:TypeId}
def vE (a k:Nat):Int:=if a.testBit k then 1 else 0
theorem Eo {a m:Nat} {j:Int} {k':IntKind} (hx:ev E x=some (.int .u32 (a:Int))) (aI:ev E y=some (.int k' j)) (az:j=(m:Int)) (hm:m≤32):cW P E ⟨d, .binOp .shr t x y u,ty,pos,af,g⟩ w (.int .u32 ((a / 2 ^ m:Nat):Int)) w:=by
 subst az;have h:=aqk (P:=P) (w:=w) (d:=d) (ty:=ty) (pos:=pos) (af:=af) (g:=g) (t:=t) (u:=u) (m:=m) hx aI hm (aTV a)
 rwa [show (a:Int) / 2 ^ m=((a / 2 ^ m:Nat):Int) by simp] at h
theorem Jr {a m:Nat} (hx:ev E x=some (.int .u32 ((a / 2 ^ m:Nat):Int))) (aI:ev E y=some (.int .u32 1)) (ha:a<4294967296):cW P E ⟨d, .binOp .and t x y u,ty,pos,af,g⟩ w (.int .u32 (vE a m)) w:=by
 have h:=ap4 (P:=P) (w:=w) (d:=d) (ty:=ty) (pos:=pos) (af:=af) (g:=g) (t:=t) (u:=u) hx aI
 rwa [aqa a m ha] at h
theorem SP {a b:Nat} (hx:ev E x=some (.int .u32 (a:Int))) (aI:ev E y=some (.int .u32 (b:Int))):cW P E ⟨d, .binOp .andNot t x y u,ty,pos,af,g⟩ w (.int .u32 ((diff a b:Nat):Int)) w:=pz hx aI (by rfl:binOp .andNot t (.int .u32 (a:Int)) (.int .u32 (b:Int))=pure (.int .u32 (bits .andNot .u32 (a:Int) (b:Int)))) (by rw [ar8];rfl)
theorem aEM {a b:Nat} (hx:ev E x=some (.int .u32 (a:Int))) (aI:ev E y=some (.int .u32 (b:Int))) (ha:a<4294967296) (Φ:b<4294967296):cW P E ⟨d, .binOp .or t x y u,ty,pos,af,g⟩ w (.int .u32 ((a ||| b:Nat):Int)) w:=pz hx aI (by rfl:binOp .or t (.int .u32 (a:Int)) (.int .u32 (b:Int))=pure (.int .u32 (bits .or .u32 (a:Int) (b:Int)))) (by rw [aAY a b ha Φ];rfl)
theorem SR {m:Nat} {j:Int} {k':IntKind} (hx:ev E x=some (.int .u32 1)) (aI:ev E y=some (.int k' j)) (az:j=(m:Int)) (hm:m<32):cW P E ⟨d, .binOp .shl t x y u,ty,pos,af,g⟩ w (.int .u32 ((2 ^ m:Nat):Int)) w:=by
 have h:=aqj (P:=P) (w:=w) (d:=d) (ty:=ty) (pos:=pos) (af:=af) (g:=g) (t:=t) (u:=u) (k:= .u32) hx aI az (by show m≤32;omega)
 rwa [show (IntKind.u32.wrap ((2:Int) ^ m))=((2 ^ m:Nat):Int) by
  rw [show ((2:Int) ^ m)=((2 ^ m:Nat):Int) by simp,Tf _ (aTV _) (Int.ofNat_lt.2 (Ni hm))]] at h
end
theorem amD (n:Nat) (hn:n<4294967296) (w:World):Calls prog 162 #[.int .u32 (n:Int)] w λ e w'=>e= .returned (.int .i64 (bR.size n:Int))∧Ext w w' :=
 (bR.aru n hn w).mono λ e w' ⟨h,q,I⟩=>⟨h,by rw [I];exact below_drewN (aSr _ _) q⟩
def D7 (t:Int) (x:ec):Bool:=decide (t≤(bR.size x:Int))
theorem akA (t:Int):∀ (l:List Nat) (i:Nat),(gx (D7 t) l= -1∧bR.zX t l i= -1)∨∃ k:Nat,gx (D7 t) l=(k:Int)∧bR.zX t l i=((i+k:Nat):Int)
 | [],i=> .inl ⟨rfl,rfl⟩
 | x::xs,i=>by
  unfold bR.zX;by_cases hx:t≤(bR.size x:Int)
  ·exact .inr ⟨0,F9 (k:=0) (by simp) (by show D7 t x=true;exact aSw hx) (λ j az=>by omega),by rw [aR8 hx];rfl⟩
  ·rw [aR5 hx];rcases akA t xs (i+1) with ⟨κ,ab⟩ | ⟨k,κ,ab⟩
   ·refine .inl ⟨F8 λ j az=> ?_,ab⟩
    match j with
    | 0=>exact aSF hx
    | j+1 =>
     rcases XT (D7 t) xs with ⟨_,aw⟩ | ⟨k,ar,aw,_⟩
     ·exact aw _ (aS8 _)
     ·omega
   ·refine .inr ⟨k+1, ?_,by rw [ab];congr 1;omega⟩;rcases XT (D7 t) xs with ⟨aw,_⟩ | ⟨k',ar,aw,a6,bH⟩
    ·omega
    ·obtain rfl:k'=k:=by omega
     refine F9 (by simpa using ar) (by simpa using a6) (λ j az=> ?_)
     match j with
     | 0=>exact aSF hx
     | j+1=>exact bH j (by omega)
theorem aFk (m:Nat) (l:List Nat):gx (D7 ((bR.size m:Int) / 2+1)) l=bR.j6 m l:=by
 unfold bR.j6;rcases akA ((bR.size m:Int) / 2+1) l 0 with ⟨κ,ab⟩ | ⟨k,κ,ab⟩
 ·rw [κ,ab]
 ·rw [κ,ab,aTd]
theorem akw (m x k:Nat):((((bR.diff x m:Nat):Int) != 0) || (vE x k == 1) || (((x:Nat):Int) != 0 && (vE m k == 0)))= !bR.Gt m x k:=by
 unfold bR.Gt vE;generalize bR.diff x m=d;have aZ:(((d:Nat):Int) != 0)= !(d == 0):=by
  rw [aU9];simp
 have bh:(((x:Nat):Int) != 0)= !(x == 0):=by
  rw [aU9];simp
 rw [aZ,bh];cases (d == 0)<;>cases (x == 0)<;>cases x.testBit k<;>cases m.testBit k<;>rfl
def KA (m:Nat) (l:List Nat):Prop:=l.length=16∧bR.check m l=0
theorem SQ {m:Nat} {l:List Nat}:KA m l↔m≠0∧m<65536∧l.length=16∧(∀ j,j<l.length→bR.Gt m (l.getD j 0) j=true)∧bR.j6 m l<0:=by
 have κ:=bR.aku m l 0;unfold KA bR.check;constructor
 ·rintro ⟨ay,h⟩;split at h
  ·cases h
  ·split at h
   ·cases h
   ·split at h
    ·cases h
    ·rename_i a b c
     refine ⟨by omega,by omega,ay,λ j az=> ?_,aWM.1 c⟩;have:=κ.1 (by simpa using b) j az
     rwa [aTd] at this
 ·rintro ⟨a,b,ay,c,d⟩;refine ⟨ay, ?_⟩;rw [aR5 (by omega),aR5 (by rw [κ.2 (λ j az=>by rw [aTd];exact c j az)];decide)];exact aR5 (show ¬ 0≤bR.j6 m l by omega)
theorem aEI {m:Nat} (h:m≠0) (ab:m<65536):(((m:Int)== 0) || (((m / 2 ^ 16:Nat):Int) != 0))=false:=by
 have e:m / 2 ^ 16=0:=aVQ ab;rw [e];simp [h]
theorem aEH {m:Nat} (h:(((m:Int)== 0) || (((m / 2 ^ 16:Nat):Int) != 0))=false):m≠0∧m<65536:=by
 simp only [aSJ,aUb,aVo] at h;omega
theorem ady (A:Option Addr) (c:Nat) (l:List ec) (w:World) (h:ec.rep.aJ 4 w A c l):
  Calls prog 91 #[.slice A l.length c] w λ e w'=>∃ bK b5,e= .returned (.slice bK l.length b5)∧ec.rep.aF 35 4 w' w.heap.size (τ.ah bK) bK b5 l∧(bK=none↔A=none)∧Below w.heap.size w w':=by
 obtain ⟨i0,aq,ph,mO,m_⟩:=aUq ec.info;have Sb:∀ (w:World) (a:Option Addr) (n c kf b5:Nat),(binOp .eql 36 (.slice a n c) (.slice none kf b5)).run prog w= .ok (.bool a.isNone) w:=λ w a n c kf b5=>aT4 w _ _ a n c kf b5 underlying36;cases A with
 | none =>
  obtain rfl:c=0:=h.2.2.2.1 rfl;obtain rfl:l= []:=aSu (by have:=h.1;omega);go_enter func91,ntmps91;go_wp2_with fail
  go_ret;exact ⟨none,0,Z,τ.aF.nil _,by simp,aSr _ _⟩
 | some a =>
  have cH:Below w.heap.size w (w.alloc (.cells #[] 35)):=(aSr _ w).alloc (aR7 _) _;obtain ⟨n,ff⟩:∃ n,Hid (l.length=n):=⟨_,aRY rfl⟩;obtain ⟨κ,ab,aw,a6,ess,bH,ch⟩:=h.keep cH;have y1:=aRY bH;have pe:∀ u∈ess.flatten,u.oneCell'=true:=by
   intro u hu;obtain ⟨y,aI,hu⟩:=aS7.1 hu;obtain ⟨a,ha⟩:=bH.left y aI;exact ec.rep.one ha u hu
  have q0:∀ (j:Nat) u,ess.flatten[j]? =some u→ec.rep.raw (j % ec.rep.size) u:=λ j u hu=>HZ bH (by decide) hu;rw [ff.out] at κ aw ch;have ct:=aRY ch;have jL:=aRY (Own.empty (e:= 35) (size:=ec.rep.size) (G:=ec.rep.raw) w (aR7 w.heap.size));clear h a6 bH ch;rw [ff.out];go_enter func91,ntmps91;go_wp2_with (at_builtin;refine JK _ rfl _ _ 36 rfl w.heap.size 35 i0 (Value.int .u32 0) ec.rep.size 4 underlying36 aq ph mO m_ rfl (by decide) ec.rep.raw ec.jq _ _ _ rfl jL.out (some a) n c ess.flatten rfl ct.out pe q0 ?qc4 ?qc5 ?qc6 ?_)
  case qc4=>unfold maxLen;omega
  case qc5=>omega
  case qc6=>simp
  intro v' aT fo j2 m8 fA;have cP:=cH.grown j2 (by simp) (by intro k ar;simp [Value.ownBlock] at ar;omega);obtain ⟨cp,c1,rfl,hle,_,_,_,lQ⟩:=fo.shape;have kJ:cp≠none:=by
   intro h;subst h;exact m8 (lQ Z)
  have aS:Hid (ec.rep.aF 35 4 aT w.heap.size (τ.ah cp) cp c1 l):=aRY (τ.aF.B6 ec.plain y1.out (by rw [ff.out];exact aw) (by rw [ff.out];simpa using fo));have tZ:=aRY kJ;clear j2 m8 fA fo kJ lQ pe q0;go_wp2_with fail
  go_ret;exact ⟨cp,c1,Z,aS.out,⟨λ h=>absurd h tZ.out,λ h=>by cases h⟩,cP⟩
theorem ayn (fj:FuncId) (cs:List Value) (p:ec→Bool) (A:Option Addr) (c:Nat) (l:List ec) (w:World) (ay:ec.rep.aJ 4 w A c l) (nL:Enters prog fj) (d_:∀ x∈l,∀ w',Ext w w'→Calls prog fj (([.int .u32 (x:Int)]:List Value)++cs).toArray w' λ e lZ=>e= .returned (.bool (p x))∧Ext w' lZ):
  Calls prog 163 #[.slice A l.length c, .func (.func fj) #[] cs.toArray] w (λ e w'=>e= .returned (.int .i64 (gx p l))∧Ext w w'):=by
 have oA:=ay.eE;refine cl (n:=19) func163 Z Z Z ?_;refine aj<|va Z<|ai<|aA<|aj<|vm Z<|J (cG underlying36 Z)<|vm Z<|ai<|bL<| ?_;refine eL (λ cg cf aQ=>∃ k:Nat,cf= [(0, .slice A l.length c),(1, .func (.func fj) #[] cs.toArray),(7, .int .i64 (l.length:Int)),(8, .int .i64 (k:Int))]∧cg=l.length - k∧Ext w aQ∧(k≤l.length)∧(∀ i,i<k→p (l.getD i 0)=false)) _ _ ⟨0,Z,Z,(Ext.bN w),by omega,λ i aq=>by omega⟩ (.cons Z (.cons Z (.cons Z (.cons (bW Z) .nil)))) ?_;rintro M5 J7 cC ⟨k,rfl,rfl,bj,ar,aO⟩;have:=bj.size;refine aj<|J (blt Z Z)<|ai<|aA<| ?_;refine dY Z (λ mg=> ?_) (λ mg=> ?_)
 ·refine bu<|aA<|bL<|aj<|vm Z<|va Z<|ai<|aj<|vm Z<|vm Z<|vm Z<|J (b9 k underlying36 vR Z Z ((ay.keep bj).bP (bb k)) Z (by omega))<|J (ao Z (τ.aJ.fR Dv ((ay.keep bj).cw (bb k)) (c8 (l:=l) (u:=0) (by omega)) Z qR))<|PM nL Z Z Z ((d_ (l.getD k 0) (jC (by omega)) _ bj).mono ?_);rintro e Jz ⟨rfl,yI⟩;refine ⟨_,Z, ?_⟩;have:=yI.size;have mU:=γ bj yI;refine ai<| ?_;refine ed Z (λ mh=> ?_) (λ mh=> ?_)
  ·refine aj<|vm Z<|va Z<|ai<|rt<|e_<|bT<|nZ<|e_<|bT<|bd (.tmp Z .nil)<| ?_;exact ⟨by have e:=Rq (p:=p) (l:=l) (d:=0) (k:=k) (by omega) mh aO;rw [e];rfl,mU⟩
  ·refine fI<|bY<|aU<|rg<|J (bad Z Z (bD (by omega)))<|vm Z<|nl<| ?_;exact c9 _ _ ⟨k+1,Z,Z,mU,by omega,wu aO mh⟩ (by omega) (.cons Z (.cons Z (.cons Z (.cons (bW Z) .nil))))
 ·refine dw<|du<|dN<|dt<|aU<|aj<|va Z<|ai<|rt<|bd (.tmp Z .nil)<| ?_;exact ⟨by have e:=Rp (p:=p) (l:=l) (d:=0) (λ i aq=>aO i (by omega));rw [e];rfl,bj⟩
theorem aEN (q8:Nat) (hx:q8<4294967296) (t:Int) (b:Nat) (w:World) (aN:aP w b [.int .i64 t] 3 (0,0)):
  Calls prog 164 #[.int .u32 (q8:Int), .pointer (some ⟨b,0,none⟩)] w (λ e w'=>e= .returned (.bool (D7 t q8))∧Ext w w'):=by
 have tH:=aN.lt;have jz:=bR.HJ 32 q8;refine cl (n:=8) func164 Z Z Z ?_;refine aj<|va Z<|ai<|aA<| ?_;refine rd [(1,0),(2,0)] [0,1,2,3,4] (by kernel_rfl) (by kernel_rfl) ?_;refine au Z (λ _=>aK Z)<|p2 Z Z aeM Z (λ _ x=>amD q8 hx _) Z<|bJ Z (λ _ x=>ao Z ((aN.later x).one bc Z))<|au Z (λ _=>ks Z Z)<|au Z (λ _=>fF Z)<|fn λ cC fc=> ?_;have:=fc.size;have bj:=γ (Ext.bN w) fc;refine aU<|rt<|bd (.tmp Z .nil)<| ?_;exact ⟨Z,bj⟩
theorem amG (m:Nat) (hm:m<4294967296) (A:Option Addr) (c:Nat) (l:List Nat) (w:World) (ay:ec.rep.aJ 4 w A c l):
  Calls prog 129 #[.agg #[.int .u32 (m:Int), .slice A l.length c]] w (λ e w'=>e= .returned (.int .i64 (bR.j6 m l))∧Ext w w'):=by
 have jz:bR.size m≤32:=bR.HJ 32 m;refine cl (n:=13) func129 Z Z Z ?_;refine aj<|cA Z Z Z Z λ cC bF a8 ef aa=> ?_;have:=a8.size;have bj:=γ (Ext.bN w) a8;have ei:=aa.lt;refine va Z<|ai<|aj<|J (av vS Z)<|J (ao Z (aa.one qR Z))<|ca aeM Z Z ((amD m hm _).mono ?_);rintro e ew ⟨rfl,cz⟩;refine ⟨_,Z, ?_⟩;have:=cz.size;have bO:=γ bj cz;refine J (aqg Z Z (by omega) (by omega) (aCg (by omega) (by omega) (by omega)))<|J (bad Z Z (bD (by omega)))<|al Z Qd Z Z λ wP zh dv MQ ib=> ?_;have:=dv.size;have kU:=γ bO dv;have R6:=ib.lt;refine st (new:= [.int .i64 (((bR.size m:Int) / 2)+1)]) Z Z ib Z dx Z Z Z λ u' q5 ib=> ?_;have:=q5.size;have hE:=Ext.mod kU q5 bt;refine ai<|aj<|J (av vT Z)<| ?_;have aa:=aa.later (γ cz dv);have aa:=aa.mod q5 aM;refine J (ao Z (aa.one zr Z))<|J (M_ Z Z)<|ca atq Z Z ((ayn 164 [.pointer (some ⟨zh,0,none⟩)] (D7 (((bR.size m:Int) / 2)+1)) _ _ l _ (ay.keep hE) atp (λ x hx w' h=>aEN x (ec.nF ay x hx) (((bR.size m:Int) / 2)+1) zh w' (ib.later h))).mono ?_);rintro e n2 ⟨rfl,ea⟩;refine ⟨_,Z, ?_⟩;have:=ea.size;have fC:=γ hE ea;refine va Z<|ai<|rt<|bd (.tmp Z .nil)<| ?_;exact ⟨by rw [aFk];rfl,fC⟩
theorem amC (m:Nat) (hm:m<4294967296) (A:Option Addr) (c:Nat) (l:List Nat) (w:World) (ay:ec.rep.aJ 4 w A c l):
  Calls prog 93 #[.agg #[.int .u32 (m:Int), .slice A l.length c]] w (λ e w'=>∃ e':Int,e= .returned (.int .i64 e')∧(e'=0↔KA m l)∧Ext w w'):=by
 have oA:=ay.eE;refine cl (n:=54) func93 Z Z Z ?_;refine aj<|cA Z Z Z Z λ cC bF a8 ef aa=> ?_;have:=a8.size;have bj:=γ (Ext.bN w) a8;have ei:=aa.lt;refine va Z<|ai<|aA<|aj<|J (av vS Z)<|J (ao Z (aa.one qR Z))<|J (beq Z Z)<|vm Z<|bs Z Z Z Z (λ hc=>av vS Z) Z<|bs Z Z Z Z (λ hc=>ao (gt hc Z) (aa.one qR Z)) Z<|bs Z Z Z Z (λ hc=>Eo (m:=16) (gt hc Z) Z Z (by decide)) Z<|bs Z Z Z Z (λ hc=>bne (gt hc Z) Z) Z<|J (fB Z Z Z Z)<|ai<| ?_;refine ed Z (λ qW=> ?_) (λ qW=> ?_)
 ·refine aj<|va Z<|ai<|rt<|bT<|bd (.tmp Z .nil)<| ?_;exact ⟨1,Z,⟨λ bg=>absurd bg (by decide),λ bg=>absurd bg (λ bg=>by obtain ⟨ck,a2,_⟩:=SQ.1 bg;rw [aEI ck a2] at qW;cases qW)⟩,bj⟩
 ·obtain ⟨Iv,Q3⟩:=aEH qW;refine bu<|aA<|aj<|J (av vT Z)<|J (ao Z (aa.one zr Z))<|J (cG underlying36 Z)<|J (bne Z Z)<|ai<| ?_;refine eV Z (λ mh=> ?_) (λ mh=> ?_)
  ·refine aj<|va Z<|ai<|rt<|bT<|bd (.tmp Z .nil)<| ?_;exact ⟨4,Z,⟨λ bg=>absurd bg (by decide),λ bg=>absurd bg (λ bg=>by have:=bg.1;omega)⟩,bj⟩
  ·have Iu:l.length=16:=by omega
   refine bu<|aA<|aj<|J (av vT Z)<|J (ao Z (aa.one zr Z))<|J (cG underlying36 Z)<|vm Z<|ai<|bL<| ?_;refine eL (λ cg cf aQ=>∃ k:Nat,cf= [(1, .pointer (some ⟨bF,0,none⟩)),(19, .slice A l.length c),(20, .int .i64 (l.length:Int)),(21, .int .i64 (k:Int))]∧cg=l.length - k∧Ext w aQ∧aP aQ bF [.int .u32 (m:Int), .slice A l.length c] 38 (0,0)∧(k≤l.length)∧(∀ j,j<k→bR.Gt m (l.getD j 0) j=true)) _ _ ⟨0,Z,Z,bj,aa,by omega,λ i aq=>by omega⟩ (.cons Z (.cons Z (.cons Z (.cons (bW Z) .nil)))) ?_;rintro aNl aG8 Z0 ⟨k,rfl,rfl,yL,aa,ar,aO⟩;have:=yL.size;have hW:=aa.lt;refine aj<|J (blt Z Z)<|ai<|aA<| ?_;refine dY Z (λ iN=> ?_) (λ iN=> ?_)
   ·refine bu<|aA<|bL<|aj<|vm Z<|J (b9 k underlying36 vR Z Z ((ay.keep yL).bP (bb k)) Z (by omega))<|J (ao Z (τ.aJ.fR Dv ((ay.keep yL).cw (bb k)) (c8 (l:=l) (u:=0) (by omega)) Z qR))<|va Z<|va Z<|ai<|aj<|vm Z<|J (av vS Z)<|J (ao Z (aa.one qR Z))<|J (SP Z Z)<|J (bne Z Z)<|vm Z<|bs Z Z Z Z (λ hc=>aK Z) Z<|bs Z Z Z Z (λ hc=>aK Z) Z<|bs Z Z Z Z (λ hc=>Eo (m:=k) (gt hc Z) (gt hc Z) Z (by omega)) Z<| ?_;refine bs Z Z Z Z (λ hc=>Jr (a:=(l.getD k 0)) (gt hc Z) Z (ec.nF ay _ (jC (by omega)))) Z<|bs Z Z Z Z (λ hc=>beq (gt hc Z) Z) Z<|J (fB Z Z Z Z)<|vm Z<|bs Z Z Z Z (λ hc=>aK Z) Z<|bs Z Z Z Z (λ hc=>bne (gt hc Z) Z) Z<|bs Z Z Z Z (λ hc=>aK (gt hc Z)) Z<|sy Z Z Z Z (λ hc=>av vS Z) Z<|sy Z Z Z Z (λ hc=>ao (gt hc Z) (aa.one qR Z)) Z<|sy Z Z Z Z (λ hc=>aK Z) Z<|sy Z Z Z Z (λ hc=>Eo (m:=k) (gt hc Z) (gt hc Z) Z (by omega)) Z<|sy Z Z Z Z (λ hc=>Jr (a:=m) (gt hc Z) Z hm) Z<|sy Z Z Z Z (λ hc=>beq (gt hc Z) Z) Z<|bs Z Z Z Z (λ hc=>akC hc (gt hc Z) Z Z) Z<|J (fB Z Z Z Z)<|ai<| ?_;refine ed Z (λ p3=> ?_) (λ p3=> ?_)
    ·refine aj<|va Z<|ai<|rt<|e_<|bT<|nZ<|e_<|bT<|bd (.tmp Z .nil)<| ?_;exact ⟨4,Z,⟨λ bg=>absurd bg (by decide),λ bg=>absurd bg (λ bg=>by have vY:=(SQ.1 bg).2.2.2.1 k (by omega);rw [akw,vY] at p3;cases p3)⟩,yL⟩
    ·rw [akw] at p3;have Xh:bR.Gt m (l.getD k 0) k=true:=by simpa using p3
     refine fI<|bY<|aU<|rg<|J (bad Z Z (bD (by omega)))<|vm Z<|nl<| ?_;exact c9 _ _ ⟨k+1,Z,Z,yL,aa,by omega,wu aO Xh⟩ (by omega) (.cons Z (.cons Z (.cons Z (.cons (bW Z) .nil))))
   ·refine dw<|du<|dN<|dt<|aU<|aA<|aj<|J (ao Z (aa.all o7 kH))<|ca Vt Z Z ((amG m hm _ _ l _ (ay.keep yL)).mono ?_);rintro e Ju ⟨rfl,mz⟩;refine ⟨_,Z, ?_⟩;have:=mz.size;have n':=γ yL mz;refine J (ks Z Z)<|ai<| ?_;refine HG Z (λ xN=> ?_) (λ xN=> ?_)
    ·refine aj<|va Z<|ai<|rt<|bT<|bd (.tmp Z .nil)<| ?_;exact ⟨4,Z,⟨λ bg=>absurd bg (by decide),λ bg=>absurd bg (λ bg=>by have:=(SQ.1 bg).2.2.2.2;omega)⟩,n'⟩
    ·refine bu<|aj<|va Z<|ai<|rt<|bd (.tmp Z .nil)<| ?_;exact ⟨0,Z,⟨λ _=>SQ.2 ⟨Iv,Q3,Iu,λ j az=>aO j (by omega),by omega⟩,λ _=>Z⟩,n'⟩
end
end Go.Proofs.YtmeeljmapailnaaGreat
