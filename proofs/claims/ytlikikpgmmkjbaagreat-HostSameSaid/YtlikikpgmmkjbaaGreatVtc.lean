import Derived.Test.YtlikikpgmmkjbaaGreatSeo
set_option linter.unusedVariables false
set_option linter.unusedSimpArgs false
set_option maxRecDepth 100000
set_option maxHeartbeats 4000000
open Go.RowKit
namespace Go.Proofs.YtlikikpgmmkjbaaGreat
open Tryz
abbrev aUR:=@Nat.div_div_eq_div_mul
abbrev aWs:=@BitVec.getLsbD_ofNat
section
theorem aoO:eN prog aL.rep 44 51 48:=eN.k_ (z:=aL.zero) (k:=6) underlying44 aL.info rfl rfl (by decide) aL.iE
open Go.Proofs.YtlikikpgmmkjbaaGreat.fy
structure rk (w:World) (aC:Nat) (A:Option Addr) (c:Nat) (l:List aL):Prop where
 has:aL.rep.aJ 48 w A c l
 lt:∀ q∈τ.ag A,aC≤q∧q<w.heap.size
theorem aAw {A:Option Addr} {c:Nat} {l:List aL} {S:List Nat} {w w':World} (h:aL.rep.aJ 48 w A c l) (m:Mod S w w') (bC:∀ q∈τ.ag A,q<w.heap.size) (hd:∀ x∈τ.ag A,x∉S):aL.rep.aJ 48 w' A c l:=by
 obtain ⟨κ,aa,aw,a6,ess,bL,ch,ef⟩:=h;refine ⟨κ,aa,aw,a6,ess,bL,ch,λ aG=> ?_⟩
 ·obtain ⟨b,o,rfl,hc⟩:=ef aG;refine ⟨b,o,Z,λ j u hu=> ?_⟩;rw [← hc j u hu];have:=m.block b (bC b (aRP.2 rfl)) (hd b (aRP.2 rfl));simp only [World.cell?,this]
section
variable {w w':World} {aC sC:Nat} {A:Option Addr} {c:Nat} {l:List aL} {T:List bx} {S:List cr} {k i:Nat}
theorem rk.mod {B:List Nat} (h:rk w aC A c l) (m:Mod B w w') (hd:∀ x∈τ.ag A,x∉B):rk w' aC A c l :=
 ⟨aAw h.has m (λ q I=>(h.lt q I).2) hd,λ q I=>⟨(h.lt q I).1,aTw (h.lt q I).2 m.size⟩⟩
theorem rk.later (h:rk w aC A c l) (x:Ext w w'):rk w' aC A c l:=h.mod (B:= []) (Mod.bz x) λ _ _ h=>by simp at h
theorem rk.of (h:aL.rep.aF 51 48 w aC (τ.ag A) A c l):rk w aC A c l:=⟨h.has,λ q I=>h.lt q I⟩
theorem akU {lo s q:Nat} (h:q∈τ.ag (e1 A c lo s)):q∈τ.ag A:=by
 unfold e1 at h;split at h
 ·exact h
 ·cases A with
  | none=>exact h
  | some a =>
   have e:(a.add (lo * s)).block=a.block:=by unfold Addr.add;split<;>rfl
   have h:q∈ [(a.add (lo * s)).block]:=h;rw [e] at h;exact h
theorem rk.cut (h:rk w aC A c l) (aG:0<l.length):rk w aC (e1 A c 1 6) (c - 1) (l.drop 1):=by
 have hc:=h.has.1;have hs:=h.has.sub 1 l.length (by omega) (by omega);rw [aSh (by rw [aSb];exact aR3 _)] at hs;exact ⟨hs,λ q I=>h.lt q (akU I)⟩
def hL (w:World) (aC:Nat) (T:List bx) (S:List cr):Prop:=T.map (λ v=>(v.late,v.gone))=S.map (λ s=>(s.late,s.gone))∧∀ (i:Nat) (v:bx),T[i]? =some v→∃ s:cr,S[i]? =some s∧v.n=s.waits.length∧rk w aC v.a v.c s.waits
theorem hL.len (h:hL w aC T S):T.length=S.length:=by have:=aS4 List.length h.1;simpa using this
theorem hL.mod {B:List Nat} (h:hL w aC T S) (m:Mod B w w') (hd:∀ q∈eS T,q∉B):hL w' aC T S:=⟨h.1,λ i v ar=>by
 obtain ⟨s,κ,aa,aw⟩:=h.2 i v ar;exact ⟨s,κ,aa,aw.mod m λ q I=>hd q (s7 ar I)⟩⟩
theorem hL.later (h:hL w aC T S) (x:Ext w w'):hL w' aC T S:=⟨h.1,λ i v ar=>by
 obtain ⟨s,κ,aa,aw⟩:=h.2 i v ar;exact ⟨s,κ,aa,aw.later x⟩⟩
theorem hL.down (h:hL w aC T S) (bE:sC≤aC):hL w sC T S:=⟨h.1,λ i v ar=>by
 obtain ⟨s,κ,aa,aw⟩:=h.2 i v ar;exact ⟨s,κ,aa,aw.has,λ q I=>⟨aSn bE (aw.lt q I).1,(aw.lt q I).2⟩⟩⟩
theorem hL.lt (h:hL w aC T S):∀ q∈eS T,aC≤q∧q<w.heap.size:=λ q I=>by
 obtain ⟨i,v,ar,I⟩:=MN I;obtain ⟨s,κ,aa,aw⟩:=h.2 i v ar;exact aw.lt q I
theorem hL.nil (w:World) (aC:Nat):hL w aC [] []:=⟨rfl,λ i v h=>by simp at h⟩
theorem eX.IF (h:eX w aC T S):hL w aC T S:=⟨h.2.1,λ i v ar=>by
 obtain ⟨A,c,s,κ,aa,aw⟩:=h.get (k:=i) (aRS.1 ar).1;rw [ar] at κ;obtain rfl:=aRR κ;exact ⟨s,aa,Z,rk.of aw⟩⟩
theorem hL.xV (h:hL w aC T S):pF w T S:=by
 refine ⟨⟨by simp [h.len],λ i v ar=> ?_⟩,h.1⟩;rw [aSa] at ar;cases b6:T[i]? with
 | none=>rw [b6] at ar;cases ar
 | some u =>
  rw [b6] at ar;obtain rfl:=aRR ar;obtain ⟨s,κ,aa,aw⟩:=h.2 i u b6;exact ⟨s.waits,by rw [aSa,κ];rfl,aa,aw.has⟩
theorem hL.get (h:hL w aC T S) (av:k<T.length):∃ (A:Option Addr) (c:Nat) (s:cr),T[k]? =some ⟨A,s.waits.length,c,s.late,s.gone⟩∧S[k]? =some s∧rk w aC A c s.waits:=by
 obtain ⟨A,c,s,κ,aa,aw⟩:=h.xV.at_ av;obtain ⟨s',a6,bL,ch⟩:=h.2 k _ κ;rw [aa] at a6;obtain rfl:=aRR a6;exact ⟨A,c,s,κ,aa,ch⟩
theorem hL.set (h:hL w aC T S) {c:Nat} {s:cr} (av:k<T.length) (o:rk w aC A c s.waits):hL w aC (T.set k ⟨A,s.waits.length,c,s.late,s.gone⟩) (S.set k s):=by
 have gl:k<S.length:=by rw [← h.len];exact av
 refine ⟨by rw [aS7,aS7,h.1],λ i v ar=> ?_⟩;by_cases lY:k=i
 ·subst lY;rw [aSg av] at ar;obtain rfl:=aRR ar;exact ⟨s,aSg gl,Z,o⟩
 ·rw [aSl lY] at ar;obtain ⟨s',κ,aa,aw⟩:=h.2 i v ar;exact ⟨s',by rw [aSl lY];exact κ,aa,aw⟩
end
def vN (s:cr):cr:=if 0<s.waits.length then ⟨s.waits,0,s.gone⟩ else if s.gone=false then ⟨s.waits,min (s.late+1) 1000000,s.gone⟩ else s
def AS (S:List cr) (k:Nat):List cr:=(S.take k).map vN++S.drop k
theorem ay1 (S:List cr):AS S S.length=S.map vN:=by unfold AS;rw [aSA,List.drop_length,aSu]
theorem QY {S:List cr} {k:Nat}:(AS S k)[k]? =S[k]? :=by
 unfold AS;rcases aSU k S.length with h | h
 ·rw [aSf (by rw [aSp,aRU];omega),aSp,aRU,aTC (by omega),aSV];simp
 ·rw [aTd (by simp;omega),aTd h]
theorem XK {S:List cr} {k:Nat} {s:cr} (h:S[k]? =some s):AS S (k+1)=(AS S k).set k (vN s):=by
 obtain ⟨av,rfl⟩:=aRS.1 h;unfold AS;have e:((S.take k).map vN).length=k:=by rw [aSp,aRU];omega
 rw [aSk av,aSi,aSw,aU3 _ _ (by omega),e,aVy,aTB av];rfl
theorem aCI {S:List cr} {k:Nat} {s:cr} (h:wX S) (hs:S[k]? =some s):0≤s.late∧s.late≤1000000:=by
 have κ:=(h.2.2 k s hs).2;unfold cr.xT at κ;simp only [aRY,aS8,aSD,aSC] at κ;omega
def Bb (m:Nat) (x:List cr×List aL) (i:Nat):List cr×List aL:=match x.1[i]? with
 | some s=>if 0<s.waits.length∧x.2.length<m then (x.1.set i ⟨s.waits.drop 1,s.late,s.gone⟩,x.2++ [s.waits.getD 0 default]) else x
 | none=>x
def FG (m:Nat) (x:List cr×List aL):List cr×List aL:=(List.range x.1.length).foldl (Bb m) x
def Ci (m:Nat):Nat→List cr×List aL→List cr×List aL
 | 0,x=>x
 | f+1,x=>if (FG m x).2.length=x.2.length then FG m x else Ci m f (FG m x)
def vl (m:Nat) (S:List cr):List cr×List aL:=Ci m (m+1) (S.map vN, [])
theorem aDh {m i:Nat} {S:List cr} {out:List aL} {s:cr} (hs:S[i]? =some s) (h:¬(0<s.waits.length∧out.length<m)):Bb m (S,out) i=(S,out):=by
 unfold Bb;rw [show (S,out).1[i]? =some s from hs];exact aR0 h
theorem aDi {m i:Nat} {S:List cr} {out:List aL} {s:cr} (hs:S[i]? =some s) (h:0<s.waits.length∧out.length<m):Bb m (S,out) i=(S.set i ⟨s.waits.drop 1,s.late,s.gone⟩,out++ [s.waits.getD 0 default]):=by
 unfold Bb;rw [show (S,out).1[i]? =some s from hs];exact aR5 h
theorem ae6 (m i:Nat) (x:List cr×List aL):(List.range (i+1)).foldl (Bb m) x=Bb m ((List.range i).foldl (Bb m) x) i:=by rw [aTs,aTo];rfl
theorem aqV {m f:Nat} {x y:List cr×List aL} (aK:FG m x=y) (h:y.2.length=x.2.length) (hf:0<f):Ci m f x=y:=by
 obtain ⟨f,rfl⟩:∃ k,f=k+1:=⟨f - 1,by omega⟩;rw [Ci,aK,aR5 h]
theorem aqW {m f:Nat} {x y:List cr×List aL} (aK:FG m x=y) (h:¬ y.2.length=x.2.length) (hf:0<f):Ci m f x=Ci m (f - 1) y:=by
 obtain ⟨f,rfl⟩:∃ k,f=k+1:=⟨f - 1,by omega⟩;rw [Ci,aK,aR0 h];rfl
def adi (S:List cr) (m:Int):Prop:=wX S∧1≤m∧m≤100
def anz (S:List cr) (m:Int) (e:Int) (oI:List cr) (out:List aL):Prop:=(e=0∧adi S m∧(oI,out)=vl m.toNat S)∨(e≠0∧¬ adi S m∧oI= []∧out= [])
def Jt (m:Nat) (C x:List cr×List aL) (B9:Bool):Prop:=(B9=true∧∃ f,m<f+x.2.length∧Ci m f x=C)∨(B9=false∧x=C)
theorem Jt.next {m:Nat} {C x y:List cr×List aL} (h:Jt m C x true) (aK:FG m x=y) (hm:x.2.length≤m) (aB:x.2.length≤y.2.length):Jt m C y (decide (y.2.length≠x.2.length)):=by
 rcases h with ⟨_,f,κ,aa⟩ | ⟨h,_⟩
 ·by_cases he:y.2.length=x.2.length
  ·refine .inr ⟨by simp [he], ?_⟩;rw [← aa,aqV aK he (by omega)]
  ·refine .inl ⟨by simp [he],f - 1,by omega, ?_⟩;rw [← aa,aqW aK he (by omega)]
 ·cases h
theorem aCG {α:Type} {l:List α} {k:Nat} {a:α} (h:l[k]? =some a):l.set k a=l:=by
 obtain ⟨av,rfl⟩:=aRS.1 h;exact aTz av
theorem akW {T:List bx} {k q:Nat} {A:Option Addr} {n c jJ b8:Nat} {l:Int} {g:Bool} (b6:T[k]? =some ⟨A,n,c,l,g⟩) (h:q∈eS (T.set k ⟨e1 A c 1 6,jJ,b8,l,g⟩)):q∈eS T:=(MO h).elim RO λ h=>s7 b6 (akU h)
theorem aqU {m a b:Nat} {g:Bool} (h:g=decide (b≠a)) (κ:a≤b) (aa:b≤m):m+1 - b+g.toNat<m+1 - a+true.toNat:=by
 subst h;by_cases e:b=a
 ·subst e;simp
 ·simp [e];omega
theorem aCF (A:Option Addr) (c:Nat) (T:List bx) (S:List cr) (m:Int) (w:World) (b6:bx.rep.aJ 40 w A c T) (hS:pF w T S):
  Calls prog 106 #[.slice A T.length c, .int .i64 m] w (λ e w'=>∃ (e':Int) (bM:Option Addr) (b8:Nat) (j2:List bx) (oI:List cr) (jZ:Option Addr) (co:Nat) (out:List aL),e= .returned (.tuple #[.slice bM j2.length b8, .slice jZ out.length co, .int .i64 e'])∧anz S m e' oI out∧bx.rep.aF 90 40 w' w.heap.size (τ.ag bM) bM b8 j2∧hL w' w.heap.size j2 oI∧aL.rep.aF 51 48 w' w.heap.size (τ.ag jZ) jZ co out∧(∀ q∈τ.ag bM,q∉eS j2)∧(∀ q∈τ.ag jZ,q∉τ.ag bM∧q∉eS j2)∧Ext w w'):=by
 have AM:=b6.dU;have Qq:=b6.2.2.1;refine cd (n:=102) func106 Z Z Z ?_;refine aj<|va Z<|va Z<|va Z<|ai<|az<|aj<|vm Z<|ca Pv Z Z ((RN _ _ T S _ (b6.keep (Ext.bI w)) (hS.keep (Ext.bI w))).mono ?_);rintro e kv ⟨DZ,rfl,sO,a7⟩;refine ⟨_,Z, ?_⟩;have:=a7.size;have cW:=γ (Ext.bI w) a7;refine va Z<|ai<|aj<|vm Z<|J (bne Z Z)<|ai<| ?_;refine ey Z (λ lW=> ?_) (λ lW=> ?_)
 ·refine aj<|vm Z<|va Z<|va Z<|va Z<|ai<|rt<|bO<|a8 (.tmp Z (.tmp Z (.tmp Z .nil)))<| ?_;exact ⟨DZ,none,0, [], [],none,0, [],Z, .inr ⟨(by simpa using lW),(λ bd=>(show ¬ DZ=0 by simpa using lW) (sO.2 bd.1)),Z,Z⟩,τ.aF.nil _,hL.nil _ _,τ.aF.nil _,λ q I=>by simp [τ.ag] at I,λ q I=>by simp [τ.ag] at I,cW⟩
 ·have EO:=sO.1 (by simpa using lW);refine bt<|az<|aj<|vm Z<|J (blt Z Z)<|vm Z<|aT Z Z Z Z (λ hc=>aH Z) Z<|aT Z Z Z Z (λ hc=>h0 (gt hc Z) Z) Z<|J (eE Z Z Z Z)<|ai<| ?_;refine dE Z (λ mK=> ?_) (λ mK=> ?_)
  ·simp only [cy] at mK;refine aj<|va Z<|va Z<|va Z<|ai<|rt<|bO<|a8 (.tmp Z (.tmp Z (.tmp Z .nil)))<| ?_;exact ⟨1,none,0, [], [],none,0, [],Z, .inr ⟨(by decide),(λ bd=>by have:=bd.2;omega),Z,Z⟩,τ.aF.nil _,hL.nil _ _,τ.aF.nil _,λ q I=>by simp [τ.ag] at I,λ q I=>by simp [τ.ag] at I,cW⟩
  ·simp only [cy] at mK;have HM:1≤m∧m≤100:=by omega
   refine bt<|aj<|vm Z<|ca UX Z Z ((Y8 _ _ T S _ (b6.keep cW) (hS.keep cW)).mono ?_);rintro e Zw ⟨qo,dT,Ac,rfl,Tx,Og,avV,amJ⟩;refine ⟨_,Z, ?_⟩;have:=amJ.size;have x5:=γ cW amJ;have aD3:=λ q I=>(Tx.lt q I).2;have aNi:=λ q I=>(Tx.lt q I).1;have aPZ:=λ q I=>(Og.lt q I).2;have aL1:=λ q I=>(Og.lt q I).1;refine va Z<|ai<|az<|aj<|vm Z<|J (cm underlying80 Z)<|vm Z<|ai<|bS<| ?_;have agJ:Ac.length=S.length:=Og.xV.len;have Le:=hS.len;have aof:hL Zw kv.heap.size Ac (AS S 0):=Og.IF;refine fk (λ cn cl a1=>∃ k:Nat,∃ lp:List bx,cl= [(0, .slice qo Ac.length dT),(1, .int .i64 m),(4, .slice none 0 0),(5, .slice none 0 0),(6, .int .i64 0),(28, .int .i64 (Ac.length:Int)),(29, .int .i64 (k:Int))]∧cn=S.length - k∧Ext w a1∧bx.rep.aF 90 40 a1 kv.heap.size (τ.ag qo) qo dT lp∧hL a1 kv.heap.size lp (AS S k)∧(k≤S.length)∧(lp.length=S.length)∧(∀ q∈eS lp,q∈τ.ag qo→False)) _ _ ⟨0,Ac,Z,Z,x5,Tx,aof,by omega,agJ,λ q κ aa=>avV q aa κ⟩ (.cons Z (.cons Z (.cons Z (.cons Z (.cons Z (.cons Z (.cons (b2 Z (by first | omega | rfl | (simp<;>omega))) .nil))))))) ?_;rintro X1 aG9 zy ⟨k,lp,rfl,rfl,iQ,wU,sz,av,ug,CF⟩;have:=iQ.size;have alT:=λ q I=>(wU.lt q I).2;have aP0:∀ q∈eS lp,q<zy.heap.size:=λ q I=>(sz.lt q I).2;have aL3:∀ q∈eS lp,kv.heap.size≤q:=λ q I=>(sz.lt q I).1;refine aj<|J (blt Z Z)<|ai<|az<| ?_;refine en Z (λ lV=> ?_) (λ lV=> ?_)
   ·obtain ⟨e2,dL,bm,gO,j9,aHH⟩:=sz.get (k:=k) (by omega);rw [QY] at j9;have rU:=aCI EO j9;refine bt<|az<|bS<|aj<|vm Z<|va Z<|ai<|aj<|vm Z<|vm Z<|J (b_ k underlying80 kJ Z Z (wU.has.bP (bb k)) Z (by omega))<|va Z<|ai<|bS<|aj<|vm Z<|J (b3 Z)<|J (au rA Z)<| ?_;refine J (v:= .slice e2 bm.waits.length dL) (ak Z (τ.aJ.j7 n9 (wU.has.cB (bb k)) 0 gO Z pM))<|J (cm underlying44 Z)<|J (h0 Z Z)<|va Z<|ai<| ?_;refine en Z (λ ly=> ?_) (λ ly=> ?_)
    ·refine rg<|vm Z<|J (b3 Z)<|J (au G9 Z)<|so (q':=(⟨(⟨e2,bm.waits.length,dL,bm.late,bm.gone⟩:bx).a,(⟨e2,bm.waits.length,dL,bm.late,bm.gone⟩:bx).n,(⟨e2,bm.waits.length,dL,bm.late,bm.gone⟩:bx).c,0,(⟨e2,bm.waits.length,dL,bm.late,bm.gone⟩:bx).gone⟩:bx)) (j:=1) (i:=k) wU τ.dt gO Z Z Z Z (λ _ cs h=>by have p':=(show _∧_ from h).2;obtain rfl:=n9 h;exact ⟨rfl,bG.2 (by (try dsimp only);omega)⟩) Z Z dr λ wj vP aov=> ?_;have:=vP.size;have jW:=Ext.mod iQ vP (λ q I=>aSn (by omega) (wU.lt q I).1);refine nl<|bY<|bY<|aV<|rg<|J (bad Z Z (bH (by omega)))<|vm Z<|nl<| ?_;have sz:=sz.mod vP (λ q I h=>by exfalso;(exact CF q I h));obtain ⟨_,KO,_,Ty⟩:=sz.2 k _ gO;obtain rfl:=aRR ((QY.trans j9).symm.trans KO);have VX:vN bm=⟨bm.waits,0,bm.gone⟩:=by unfold vN;rw [aR5 (by omega)]
     exact c' _ _ ⟨k+1,(lp).set k ((⟨(⟨e2,bm.waits.length,dL,bm.late,bm.gone⟩:bx).a,(⟨e2,bm.waits.length,dL,bm.late,bm.gone⟩:bx).n,(⟨e2,bm.waits.length,dL,bm.late,bm.gone⟩:bx).c,0,(⟨e2,bm.waits.length,dL,bm.late,bm.gone⟩:bx).gone⟩:bx)),Z,Z,jW,aov,(by rw [XK j9,VX];exact hL.set (s:=⟨bm.waits,0,bm.gone⟩) sz (by omega) Ty),by omega,by rw [aR1];exact ug,λ q κ aa=>(MO κ).elim (λ κ=>CF q (RO κ) aa) (λ κ=>CF q (s7 gO κ) aa)⟩ (by omega) (.cons Z (.cons Z (.cons Z (.cons Z (.cons Z (.cons Z (.cons (b2 Z (by first | omega | rfl | (simp<;>omega))) .nil)))))))
    ·refine aj<|vm Z<|J (b3 Z)<|J (au Kn Z)<|J (v:= .bool bm.gone) (ak Z (τ.aJ.j7 n9 (wU.has.cB (bb k)) 2 gO Z Ha))<|J (eg Z)<|va Z<|ai<| ?_;refine dE Z (λ sM=> ?_) (λ sM=> ?_)
     ·simp only [aS8,aTk] at sM;refine rg<|vm Z<|vm Z<|J (b3 Z)<|J (au G9 Z)<|J (v:= .int .i64 bm.late) (ak Z (τ.aJ.j7 n9 (wU.has.cB (bb k)) 1 gO Z ba))<|J (bad Z Z (bH (by omega)))<|J (oc Z Z)<|J (b3 Z)<|J (au G9 Z)<|so (q':=(⟨(⟨e2,bm.waits.length,dL,bm.late,bm.gone⟩:bx).a,(⟨e2,bm.waits.length,dL,bm.late,bm.gone⟩:bx).n,(⟨e2,bm.waits.length,dL,bm.late,bm.gone⟩:bx).c,min (bm.late+1) 1000000,(⟨e2,bm.waits.length,dL,bm.late,bm.gone⟩:bx).gone⟩:bx)) (j:=1) (i:=k) wU τ.dt gO Z Z Z Z (λ _ cs h=>by have p':=(show _∧_ from h).2;obtain rfl:=n9 h;exact ⟨rfl,bG.2 (by (try dsimp only);omega)⟩) Z Z dr λ Dw h2 u6=> ?_;have:=h2.size;have sk:=Ext.mod iQ h2 (λ q I=>aSn (by omega) (wU.lt q I).1);refine nl<|bY<|bY<|aV<|rg<|J (bad Z Z (bH (by omega)))<|vm Z<|nl<| ?_;have sz:=sz.mod h2 (λ q I h=>by exfalso;(exact CF q I h));obtain ⟨_,KO,_,Ty⟩:=sz.2 k _ gO;obtain rfl:=aRR ((QY.trans j9).symm.trans KO);have VX:vN bm=⟨bm.waits,min (bm.late+1) 1000000,bm.gone⟩:=by unfold vN;rw [aR0 (by omega),aR5 sM]
      exact c' _ _ ⟨k+1,(lp).set k ((⟨(⟨e2,bm.waits.length,dL,bm.late,bm.gone⟩:bx).a,(⟨e2,bm.waits.length,dL,bm.late,bm.gone⟩:bx).n,(⟨e2,bm.waits.length,dL,bm.late,bm.gone⟩:bx).c,min (bm.late+1) 1000000,(⟨e2,bm.waits.length,dL,bm.late,bm.gone⟩:bx).gone⟩:bx)),Z,Z,sk,u6,(by rw [XK j9,VX];exact hL.set (s:=⟨bm.waits,min (bm.late+1) 1000000,bm.gone⟩) sz (by omega) Ty),by omega,by rw [aR1];exact ug,λ q κ aa=>(MO κ).elim (λ κ=>CF q (RO κ) aa) (λ κ=>CF q (s7 gO κ) aa)⟩ (by omega) (.cons Z (.cons Z (.cons Z (.cons Z (.cons Z (.cons Z (.cons (b2 Z (by first | omega | rfl | (simp<;>omega))) .nil)))))))
     ·simp only [aS8,aTk] at sM;refine fo<|bY<|bY<|aV<|rg<|J (bad Z Z (bH (by omega)))<|vm Z<|nl<| ?_;exact c' _ _ ⟨k+1,lp,Z,Z,iQ,wU,(by rw [XK j9,show vN bm=bm from by unfold vN;rw [aR0 (by omega),aR0 (by rw [sM];decide)],aCG (by rw [QY];exact j9)];exact sz),by omega,ug,CF⟩ (by omega) (.cons Z (.cons Z (.cons Z (.cons Z (.cons Z (.cons Z (.cons (b2 Z (by first | omega | rfl | (simp<;>omega))) .nil)))))))
   ·have lU:k=S.length:=by omega
    subst lU;rw [ay1] at sz;refine dK<|dJ<|ei<|dI<|aV<|aj<|va Z<|ai<|az<|aj<|va Z<|ai<|bS<| ?_;refine fk (λ cn cl a1=>∃ yv:List bx,∃ B8:List cr,∃ cT:Option Addr,∃ hN:Nat,∃ out:List aL,∃ B9:Bool,cl= [(0, .slice qo Ac.length dT),(1, .int .i64 m),(4, .slice none 0 0),(5, .slice none 0 0),(6, .int .i64 0),(10, .slice cT out.length hN),(11, .bool B9)]∧cn=m.toNat+1 - out.length+B9.toNat∧Ext w a1∧bx.rep.aF 90 40 a1 kv.heap.size (τ.ag qo) qo dT yv∧aL.rep.aF 51 48 a1 w.heap.size (τ.ag cT) cT hN out∧hL a1 kv.heap.size yv B8∧(Jt m.toNat (vl m.toNat S) (B8,out) B9)∧(yv.length=S.length)∧(out.length≤m.toNat)∧(∀ q∈eS yv,q∈τ.ag qo→False)∧(∀ q∈eS yv,q∈τ.ag cT→False)∧(B8.length=S.length)∧(∀ q∈τ.ag cT,q∈τ.ag qo→False)) _ _ ⟨lp,(S.map vN),none,0, [],true,Z,Z,iQ,wU,(τ.aF.nil _),sz, .inl ⟨Z,_,by simp,rfl⟩,ug,by simp,CF,λ q κ aa=>by simp [τ.ag] at aa,by simp,(λ q I Φ=>by (simp [τ.ag] at I))⟩ (v8 Z) ?_;rintro rZ aHi xZ ⟨yv,B8,cT,hN,out,B9,rfl,rfl,lM,Tw,Tv,Oh,dX,agE,ag2,hdr,QC,agD,adU⟩;have:=lM.size;have zx:=λ q I=>(Tw.lt q I).2;have Bf:=λ q I=>(Tv.lt q I).2;have aP1:∀ q∈eS yv,q<xZ.heap.size:=λ q I=>(Oh.lt q I).2;have aL4:∀ q∈eS yv,kv.heap.size≤q:=λ q I=>(Oh.lt q I).1;refine az<|aj<|vm Z<|ai<| ?_;refine dE Z (λ rJ=> ?_) (λ rJ=> ?_)
    ·rw [rJ] at dX;refine bt<|bS<|aj<|va Z<|ai<|aj<|vm Z<|J (cm underlying80 Z)<|vm Z<|ai<|bS<| ?_;refine fk (λ cn cl a1=>∃ i:Nat,∃ wZ:List bx,∃ En:List cr,∃ x_:Option Addr,∃ ci:Nat,∃ dx:List aL,∃ yP:Bool,cl= [(0, .slice qo Ac.length dT),(1, .int .i64 m),(4, .slice none 0 0),(5, .slice none 0 0),(6, .int .i64 0),(10, .slice x_ dx.length ci),(11, .bool yP),(61, .bool B9),(62, .slice qo Ac.length dT),(63, .int .i64 (Ac.length:Int)),(64, .int .i64 (i:Int))]∧cn=S.length - i∧Ext w a1∧bx.rep.aF 90 40 a1 kv.heap.size (τ.ag qo) qo dT wZ∧aL.rep.aF 51 48 a1 w.heap.size (τ.ag x_) x_ ci dx∧hL a1 kv.heap.size wZ En∧(i≤S.length)∧(wZ.length=S.length)∧(dx.length≤m.toNat)∧(∀ q∈eS wZ,q∈τ.ag qo→False)∧(∀ q∈eS wZ,q∈τ.ag x_→False)∧(En.length=S.length)∧((En,dx)=(List.range i).foldl (Bb m.toNat) (B8,out))∧(yP=decide (dx.length≠out.length))∧(out.length≤dx.length)∧(∀ q∈τ.ag x_,q∈τ.ag qo→False)) _ _ ⟨0,yv,B8,cT,hN,out,false,Z,Z,lM,Tw,Tv,Oh,by omega,agE,ag2,hdr,QC,agD,rfl,(by simp),aR3 _,(λ q I Φ=>by (exact adU q I Φ))⟩ (.cons Z (.cons Z (.cons Z (.cons Z (.cons Z (.cons Z (.cons Z (.cons Z (.cons Z (.cons Z (.cons (b2 Z (by first | omega | rfl | (simp<;>omega))) .nil))))))))))) ?_;rintro A1 anI Na ⟨i,wZ,En,x_,ci,dx,yP,rfl,rfl,q5,tJ,Ei,pw,ar,WV,W1,K_,Lq,WU,hF,Vd,W3,Ez⟩;have:=q5.size;have alY:=λ q I=>(tJ.lt q I).2;have aD2:=λ q I=>(Ei.lt q I).2;have aDO:∀ q∈eS wZ,q<Na.heap.size:=λ q I=>(pw.lt q I).2;have aL2:∀ q∈eS wZ,kv.heap.size≤q:=λ q I=>(pw.lt q I).1;refine aj<|J (blt Z Z)<|ai<|az<| ?_;refine en Z (λ KT=> ?_) (λ KT=> ?_)
     ·obtain ⟨e2,dL,bm,gO,j9,pG⟩:=pw.get (k:=i) (by omega);refine bt<|az<|bS<|aj<|vm Z<|va Z<|ai<|aj<|vm Z<|vm Z<|J (b_ i underlying80 kJ Z Z (tJ.has.bP (bb i)) Z (by omega))<|va Z<|ai<|aj<|vm Z<|J (b3 Z)<|J (au rA Z)<|J (v:= .slice e2 bm.waits.length dL) (ak Z (τ.aJ.j7 n9 (tJ.has.cB (bb i)) 0 gO Z pM))<| ?_;refine J (cm underlying44 Z)<|J (h0 Z Z)<|vm Z<|aT Z Z Z Z (λ hc=>aH Z) Z<|aT Z Z Z Z (λ hc=>cm underlying44 (gt hc Z)) Z<|aT Z Z Z Z (λ hc=>aH Z) Z<|aT Z Z Z Z (λ hc=>blt (gt hc Z) (gt hc Z)) Z<|J (dH Z Z Z Z)<|ai<| ?_;refine dE Z (λ CB=> ?_) (λ CB=> ?_)
      ·simp only [cy] at CB;have vB:0<bm.waits.length∧dx.length<m.toNat:=by omega
       obtain ⟨_,KO,_,pG⟩:=pw.2 i _ gO;obtain rfl:=aRR (j9.symm.trans KO);have alO:=λ q I=>(pG.lt q I).2;have ayG:=λ q I=>(pG.lt q I).1;have Ph:∀ q∈τ.ag e2,q∈τ.ag qo→False:=λ q κ aa=>K_ q (s7 gO κ) aa;have ad3:∀ q∈τ.ag e2,q∈τ.ag x_→False:=λ q κ aa=>Lq q (s7 gO κ) aa;have aw4:(bm.waits.getD 0 default).ok:=aL.mF pG.has _ (jd vB.1);refine RE (τ.ag x_) [(5,0),(7,0),(8,2),(9,2),(13,0),(18,3)] [0,1,2,3,4,5,6,7,10,11,12,13,14,8,9,15,16,17,18,19] (by kernel_rfl) (by kernel_rfl) ?_;refine jB Z Z (λ _=>aH Z) Z<|jB Z Z (λ _=>aH Z) Z<|jB Z Z (λ _=>aH Z) Z<|jB Z Z (λ _=>b3 Z) Z<|jB Z Z (λ _=>au rA Z) Z<|yO (v:= .slice e2 bm.waits.length dL) Z Z (λ _ x=>ak Z (τ.aJ.j7 n9 ((tJ.mod x (λ q I h=>by exfalso;(exact Ez q h I))).has.cB (bb i)) 0 gO Z pM)) Z<|jB Z Z (λ _=>b_ 0 underlying44 fC Z Z (pG.has.bP (bb 0)) Z (by omega)) Z<|yO Z Z (λ _ x=>ak Z (τ.aJ.hq K6 ((pG.mod x (λ q I h=>by exfalso;(exact ad3 q I h))).has.cB (bb 0)) (dn (l:=bm.waits) (u:=default) (by omega)) iZ fC)) Z<|jB Z Z (λ _=>aH Z) Z<|jB Z Z (λ _=>b3 Z) Z<|jB Z Z (λ _=>au rA Z) Z<|yO (v:= .slice e2 bm.waits.length dL) Z Z (λ _ x=>ak Z (τ.aJ.j7 n9 ((tJ.mod x (λ q I h=>by exfalso;(exact Ez q h I))).has.cB (bb i)) 0 gO Z pM)) Z<|jB Z Z (λ _=>akV 1 underlying44 fC Z Z Z (by omega)) Z<|EK Z Z Z λ IQ ji Q hK=>cV (e:= 51) (cs:= [.int .i64 ((bm.waits.getD 0 default).by_), .int .i64 ((bm.waits.getD 0 default).kind), .int .i64 ((bm.waits.getD 0 default).aQ), .int .i64 ((bm.waits.getD 0 default).spot.x), .int .i64 ((bm.waits.getD 0 default).spot.y), .int .i64 ((bm.waits.getD 0 default).what)]) Z (λ _=>by kernel_rfl) Z λ Bp u' iB XJ wG=>hK _ _ ⟨Mod.bz (γ ji iB), ?_⟩;have:=ji.size;have ow:=γ q5 ji;have:=iB.size;have lN:=γ ow iB;have YE:=wG.lt;have Ei:=Ei.later (γ ji iB);refine EK Z Z Z λ ZB hT Q hK=>ap aoO τ.dt (Ei.later hT) ((aP.gC (R:=aL.rep) (by_:=48) (q:=bm.waits.getD 0 default) wG ⟨Z,aw4⟩ (by decide)).keep hT) Z Z (by simp only [aRW,aR2];omega) (by simp only [aRW,aR2];omega) (by have:=hT.size;omega) Z λ IW Gs qw kR yu EL aAc=>hK _ _ ⟨(Mod.bz hT).trans kR, ?_⟩;have:=hT.size;have Gf:=γ lN hT;have:=kR.size;have uX:=Ext.mod Gf kR (λ q I=>aSn (by omega) ((Ei.later hT).lt q I).1);have wb:=λ q I=>(yu.lt q I).2;have:=kR.size;refine jB Z Z (λ _=>ew Z) Z<|jB Z Z (λ _=>b3 Z) Z<|jB Z Z (λ _=>au rA Z) Z<| ?_;have tJ:=tJ.later (γ ji (γ iB hT));have tJ:=tJ.mod kR (λ q I h=>by exfalso;(exact Ez q h I));refine Vm Z Z Z λ ZC iC Q hK=>so (q':=(⟨e1 e2 dL 1 6,bm.waits.length - 1,dL - 1,(⟨e2,bm.waits.length,dL,bm.late,bm.gone⟩:bx).late,(⟨e2,bm.waits.length,dL,bm.late,bm.gone⟩:bx).gone⟩:bx)) (j:=0) (i:=i) (tJ.later iC) τ.dt gO Z Z Z Z (λ _ cs h=>by have p':=(show _∧_ from h).2;obtain rfl:=n9 h;exact ⟨rfl,p'⟩) Z Z Ar λ Nj jI TE=>hK _ _ ?_;have:=iC.size;have BB:=γ uX iC;have:=jI.size;have uY:=Ext.mod BB jI (λ q I=>aSn (by omega) ((tJ.later iC).lt q I).1);refine jB Z Z (λ _=>ew Z) Z<|PO λ ZF Ji=> ?_;have:=Ji.size;have uZ:=γ uY Ji;refine bY<|aV<|rg<|J (bad Z Z (bH (by omega)))<|vm Z<|nl<| ?_;have TE:=TE.later Ji;have yu:=yu.later iC;have yu:=yu.mod jI (λ q I h=>by exfalso;(exact aR4 (EL q I) (λ C2=>by (exact Ez q C2 h)) (λ C2=>by (have:=alY q h;omega))));have yu:=yu.later Ji;have pw:=pw.later (γ ji (γ iB hT));have pw:=pw.mod kR (λ q I h=>by exfalso;(exact Lq q I h));have pw:=pw.later iC;have pw:=pw.mod jI (λ q I h=>by exfalso;(exact K_ q I h));have pw:=pw.later Ji;have pG:=pG.later (γ ji (γ iB hT));have pG:=pG.mod kR (λ q I h=>by exfalso;(exact ad3 q I h));have pG:=pG.later iC;have pG:=pG.mod jI (λ q I h=>by exfalso;(exact Ph q I h));have pG:=pG.later Ji;have au0:=pG.cut vB.1;have qF:(bm.waits.drop 1).length=bm.waits.length - 1:=aSb;exact c' _ _ ⟨i+1,(wZ).set i ((⟨e1 e2 dL 1 6,bm.waits.length - 1,dL - 1,(⟨e2,bm.waits.length,dL,bm.late,bm.gone⟩:bx).late,(⟨e2,bm.waits.length,dL,bm.late,bm.gone⟩:bx).gone⟩:bx)),En.set i ⟨bm.waits.drop 1,bm.late,bm.gone⟩,Gs,qw,dx++ [bm.waits.getD 0 default],true,Z,Z,uZ,TE,yu,(by have bd:=hL.set (s:=⟨bm.waits.drop 1,bm.late,bm.gone⟩) (k:=i) pw (by omega) au0;rw [qF] at bd;exact bd),by omega,by rw [aR1];exact WV,by rw [aRX,aSx];omega,λ q κ aa=>K_ q (akW gO κ) aa,λ q κ aa=>(λ κ=>by (exact aR4 (EL q aa) (λ xA=>by (exact Lq q κ xA)) (λ xA=>by (have:=aDO q κ;omega)))) (akW gO κ),by rw [aR1];exact WU,by rw [ae6,← hF,aDi j9 vB],by rw [aRX,aSx];exact (aSo (by omega)).symm,by rw [aRX,aSx];omega,(λ q I Φ=>by (exact aR4 (EL q I) (λ L_=>by (exact Ez q L_ Φ)) (λ L_=>by (have:=alY q Φ;omega))))⟩ (by omega) (.cons Z (.cons Z (.cons Z (.cons Z (.cons Z (.cons Z (.cons Z (.cons Z (.cons Z (.cons Z (.cons (b2 Z (by first | omega | rfl | (simp<;>omega))) .nil)))))))))))
      ·simp only [cy] at CB;have vB:¬(0<bm.waits.length∧dx.length<m.toNat):=by omega
       refine fo<|bY<|aV<|rg<|J (bad Z Z (bH (by omega)))<|vm Z<|nl<| ?_;exact c' _ _ ⟨i+1,wZ,En,x_,ci,dx,yP,Z,Z,q5,tJ,Ei,pw,by omega,WV,W1,K_,Lq,WU,by rw [ae6,← hF,aDh j9 vB],Vd,W3,(λ q I Φ=>by (exact Ez q I Φ))⟩ (by omega) (.cons Z (.cons Z (.cons Z (.cons Z (.cons Z (.cons Z (.cons Z (.cons Z (.cons Z (.cons Z (.cons (b2 Z (by first | omega | rfl | (simp<;>omega))) .nil)))))))))))
     ·have atO:i=S.length:=by omega
      refine dK<|dJ<|ei<|dI<|bY<| ?_;exact c' _ _ ⟨wZ,En,x_,ci,dx,yP,Z,Z,q5,tJ,Ei,pw,by rw [Vd];exact Jt.next dX (by unfold FG;rw [show (B8,out).1.length=S.length from agD,← atO];exact hF.symm) ag2 W3,WV,W1,K_,Lq,WU,(λ q I Φ=>by (exact Ez q I Φ))⟩ (by rw [rJ];exact aqU Vd W3 W1) (v8 Z)
    ·refine dK<|dJ<|ei<|dI<|aV<|aj<|vm Z<|vm Z<|va Z<|va Z<|va Z<|ai<|rt<|a8 (.tmp Z (.tmp Z (.tmp Z .nil)))<| ?_;exact ⟨0,_,_,yv,B8,cT,hN,out,by rw [agE,agJ];rfl, .inl ⟨rfl,⟨EO,HM⟩,(by rcases dX with ⟨bd,_⟩ | ⟨_,bd⟩;exact absurd bd (by simp [rJ]);exact bd)⟩,Tw.down (by omega),Oh.down (by omega),Tv,λ q κ aa=>hdr q aa κ,λ q κ=>⟨λ aa=>by exfalso;(exact adU q κ aa),λ aa=>QC q aa κ⟩,lM⟩
end
end Go.Proofs.YtlikikpgmmkjbaaGreat
namespace Go.Proofs.YtlikikpgmmkjbaaGreat.bR
open Tryz
def np:Nat→Nat→Nat
 | 0,_=>0
 | f+1,x=>x % 2+np f (x / 2)
theorem Ut (f g x:Nat):np (f+g) x=np f x+np g (x / 2 ^ f):=by
 induction f generalizing x with
 | zero=>simp [np]
 | succ f bF =>
  rw [Nat.succ_add,np,np,bF,aUR,aUQ,aS6 2];omega
theorem Uu (f x:Nat):np f (x % 2 ^ f)=np f x:=by
 induction f generalizing x with
 | zero=>rfl
 | succ f bF =>
  rw [np,np,aUQ];have κ:x % (2 ^ f * 2) % 2=x % 2:=Nat.mod_mod_of_dvd _ ⟨2 ^ f,aS6 _ _⟩;have aa:x % (2 ^ f * 2) / 2=x / 2 % 2 ^ f:=by rw [aS6,Nat.mod_mul_right_div_self]
  rw [κ,aa,bF]
theorem GY (f x:Nat):np f x≤f:=by
 induction f generalizing x with
 | zero=>exact aR3 _
 | succ f bF=>have:=bF (x / 2);rw [np];omega
def size (x:Nat):Nat:=np 32 x
theorem size_bytes (x:Nat) (h:x<4294967296):size x=np 8 (x / 16777216)+np 8 (x / 65536 % 256)+np 8 (x / 256 % 256)+np 8 (x % 256):=by
 unfold size;rw [show (32:Nat)=8+(8+(8+8)) from rfl,Ut,Ut,Ut,aUR,aUR];rw [show (256:Nat)=2 ^ 8 from rfl,Uu,Uu,Uu];simp only [Nat.reducePow,Nat.reduceMul];omega
theorem Rt (n:Nat) (h:n<256):Lib.pop8 (n:Int)=(np 8 n:Int):=by
 have e:=Lib.pop8_eq ⟨n,h⟩;have bl:∀ m:Fin 256,Lib.onesCount m.val=np 8 m.val:=by decide +kernel
 rw [bl ⟨n,h⟩] at e;exact e
end Go.Proofs.YtlikikpgmmkjbaaGreat.bR
namespace Go.Proofs.YtlikikpgmmkjbaaGreat
open Tryz
end Go.Proofs.YtlikikpgmmkjbaaGreat
namespace Go.Proofs.YtlikikpgmmkjbaaGreat.bR
open Tryz
open Go.RowKit Go.Proofs.YtlikikpgmmkjbaaGreat Go.Proofs.YtlikikpgmmkjbaaGreat.fy

theorem aCk {a b:Int} (h:a=b):Ending.returned (.int .i64 a)= .returned (.int .i64 b):=by rw [h]
theorem TU (a:Nat) (h:a<4294967296):bits .and .u32 (a:Int) 255=((a % 256:Nat):Int):=by
 have κ:=(aVQ .u32 32 (by decide) (fun n aG κ=>by simp [IntKind.wrap,IntKind.signed,IntKind.bits];omega) a 255 (by omega) (by omega)).1;have e:a &&& 255=a % 256:=Nat.and_two_pow_sub_one_eq_mod a 8;rw [e] at κ;exact κ
@[go_sem high] theorem aJM:(⟨((([0,1,1,2,1,2,2,3,1,2,2,3,2,3,3,4,1,2,2,3,2,3,3,4,2,3,3,4,3,4,4,5,1,2,2,3,2,3,3,4,2,3,3,4,3,4,4,5,2,3,3,4,3,4,4,5,3,4,4,5,4,5,5,6]:List UInt8).append [1,2,2,3,2,3,3,4,2,3,3,4,3,4,4,5,2,3,3,4,3,4,4,5,3,4,4,5,4,5,5,6,2,3,3,4,3,4,4,5,3,4,4,5,4,5,5,6,3,4,4,5,4,5,5,6,4,5,5,6,5,6,6,7]).append (([1,2,2,3,2,3,3,4,2,3,3,4,3,4,4,5,2,3,3,4,3,4,4,5,3,4,4,5,4,5,5,6,2,3,3,4,3,4,4,5,3,4,4,5,4,5,5,6,3,4,4,5,4,5,5,6,4,5,5,6,5,6,6,7]:List UInt8).append [2,3,3,4,3,4,4,5,3,4,4,5,4,5,5,6,3,4,4,5,4,5,5,6,4,5,5,6,5,6,6,7,3,4,4,5,4,5,5,6,4,5,5,6,5,6,6,7,4,5,5,6,5,6,6,7,5,6,6,7,6,7,7,8])).toArray⟩:ByteArray)=Lib.pop8tab:=by decide +kernel
theorem aqZ (n:Nat) (hn:n<4294967296) (w:World):
  Calls prog 204 #[.int .u32 (n:Int)] w fun e w'=>e= .returned (.int .i64 (size n:Int))∧∃ q,w'=w.drewN q:=by
 have d1:(n:Int) / 16777216=((n / 16777216:Nat):Int):=by omega
 have d2:(n:Int) / 65536=((n / 65536:Nat):Int):=by omega
 have d3:(n:Int) / 256=((n / 256:Nat):Int):=by omega
 have a2:=TU (n / 65536) (by omega);have a3:=TU (n / 256) (by omega);have a4:=TU n hn;have eR:=Rt (n / 16777216) (by omega);have fl:=Rt (n / 65536 % 256) (by omega);have mn:=Rt (n / 256 % 256) (by omega);have xO:=Rt (n % 256) (by omega);have i1:(0:Int)≤((n / 16777216:Nat):Int)∧((n / 16777216:Nat):Int)≤255:=by omega
 have i2:(0:Int)≤((n / 65536 % 256:Nat):Int)∧((n / 65536 % 256:Nat):Int)≤255:=by omega
 have i3:(0:Int)≤((n / 256 % 256:Nat):Int)∧((n / 256 % 256:Nat):Int)≤255:=by omega
 have i4:(0:Int)≤((n % 256:Nat):Int)∧((n % 256:Nat):Int)≤255:=by omega
 have c1:=GY 8 (n / 16777216);have c2:=GY 8 (n / 65536 % 256);have c3:=GY 8 (n / 256 % 256);have c4:=GY 8 (n % 256);rw [size_bytes n hn];generalize n / 16777216=kH at *
 generalize n / 65536=mU at *
 generalize n / 256=vZ at *
 generalize mU % 256=eZ at *
 generalize vZ % 256=gT at *
 generalize du:n % 256=Ad at *
 obtain ⟨i10,i11⟩:=i1;obtain ⟨i20,i21⟩:=i2;obtain ⟨i30,i31⟩:=i3;obtain ⟨i40,i41⟩:=i4;go_enter func204,ntmps204;go_wp2_with fail
 go_quiet (fail)
 go_wp2_with fail
 go_ret;exact ⟨aCk (by push_cast;rfl),nq,Z⟩

theorem aq0 (n:Nat) (hn:n<4294967296) (w:World):
  Calls prog 174 #[.int .u32 (n:Int)] w fun e w'=>e= .returned (.int .i64 (size n:Int))∧∃ q,w'=w.drewN q:=by
 go_enter func174,ntmps174;go_wp2_with fail
 refine (aqZ n hn _).mono ?_;rintro e w' ⟨rfl,q,rfl⟩;go_wp2_with fail
 go_ret;exact ⟨Z,q,Z⟩
def ze (t:Int):List Nat→Nat→Int
 | [],_=> -1
 | x::xs,i=>if t≤(size x:Int) then (i:Int) else ze t xs (i+1)
def Sets (w:World) (b o:Nat) (l:List Nat):Prop:=∀ k,(h:k<l.length)→w.cell? ⟨b,o+k,none⟩=some (.int .u32 ((l[k]:Nat):Int))∧l[k]<4294967296
end Go.Proofs.YtlikikpgmmkjbaaGreat.bR
namespace Go.Proofs.YtlikikpgmmkjbaaGreat
open Tryz
end Go.Proofs.YtlikikpgmmkjbaaGreat
namespace Go.Proofs.YtlikikpgmmkjbaaGreat.bR
open Tryz
open Go.RowKit Go.Proofs.YtlikikpgmmkjbaaGreat.fy
def diff (a b:Nat):Nat:=(BitVec.ofNat 32 a &&& ~~~BitVec.ofNat 32 b).toNat
theorem Kk (a b:Nat):diff a b<4294967296:=(BitVec.ofNat 32 a &&& ~~~BitVec.ofNat 32 b).isLt
theorem arH (a b i:Nat) (ha:a<4294967296) (ar:i<32):(diff a b).testBit i=(a.testBit i && !b.testBit i):=by
 unfold diff;rw [BitVec.testBit_toNat,BitVec.getLsbD_and,BitVec.getLsbD_not,aWs,aWs];simp [ar]
theorem ajP (a:Nat):BitVec.ofInt 32 (a:Int)=BitVec.ofNat 32 a:=aAD a
theorem arI (a b:Nat):bits .andNot .u32 (a:Int) (b:Int)=(diff a b:Int):=by
 have h:=PH (x:=bits .andNot .u32 (a:Int) (b:Int)) (b:=BitVec.ofNat 32 a &&& ~~~BitVec.ofNat 32 b) (OQ _ _ _) (OP _ _ _) (by rw [aAA,ajP,ajP]);exact h
theorem SD (n:Int) (axV:0≤n) (h₁:n<2 ^ 32):IntKind.u32.wrap n=n:=by simp [IntKind.wrap,IntKind.signed,IntKind.bits];omega
theorem aAL (a b:Nat) (ha:a<4294967296) (Φ:b<4294967296):bits .or .u32 (a:Int) (b:Int)=((a ||| b:Nat):Int):=(aVQ .u32 32 (by decide) SD a b ha Φ).2
theorem apl (a b:Nat) (ha:a<4294967296) (Φ:b<4294967296):bits .and .u32 (a:Int) (b:Int)=((a &&& b:Nat):Int):=(aVQ .u32 32 (by decide) SD a b ha Φ).1
theorem apK (a k:Nat) (ha:a<4294967296):bits .and .u32 ((a / 2 ^ k:Nat):Int) 1=if a.testBit k then 1 else 0:=by
 have κ:a / 2 ^ k<4294967296:=aWB (Nat.div_le_self _ _) ha;have h:=apl (a / 2 ^ k) 1 κ (by decide);rw [aWC] at h;rw [show (1:Int)=((1:Nat):Int) from rfl,h,Nat.testBit_eq_decide_div_mod_eq];rcases aVW (a / 2 ^ k) with e | e<;>simp [e]
theorem azA {a b:Nat} (ha:a<4294967296) (Φ:b<4294967296):a ||| b<4294967296:=Nat.or_lt_two_pow (n:=32) ha Φ
theorem MC {k:Nat} (av:k<32):2 ^ k<4294967296:=Nat.pow_lt_pow_right (a:=2) (by decide) av
end Go.Proofs.YtlikikpgmmkjbaaGreat.bR
namespace Go.Proofs.YtlikikpgmmkjbaaGreat
open Tryz
end Go.Proofs.YtlikikpgmmkjbaaGreat
namespace Go.Proofs.YtlikikpgmmkjbaaGreat.bR
open Tryz
open Go.RowKit Go.Proofs.YtlikikpgmmkjbaaGreat Go.Proofs.YtlikikpgmmkjbaaGreat.fy
def FC (m x k:Nat):Bool:=diff x m == 0 && !x.testBit k && (x == 0 || m.testBit k)
def MB (m:Nat):List Nat→Nat→Bool
 | [],_=>true
 | x::xs,k=>FC m x k && MB m xs (k+1)
def check (m:Nat) (l:List Nat):Int :=
 if m=0∨65536≤m then 1 else if MB m l 0=false then 4 else if 0≤ze ((size m:Int) / 2+1) l 0 then 4 else 0
end Go.Proofs.YtlikikpgmmkjbaaGreat.bR
namespace Go.Proofs.YtlikikpgmmkjbaaGreat
open Tryz
end Go.Proofs.YtlikikpgmmkjbaaGreat
namespace Go.Proofs.YtlikikpgmmkjbaaGreat.bR
open Tryz
open Go.RowKit Go.Proofs.YtlikikpgmmkjbaaGreat Go.Proofs.YtlikikpgmmkjbaaGreat.fy

def Fw (m:Nat) (k:Int):Bool:=decide (0≤k) && (decide (k<16) && m.testBit k.toNat)
def Db (k x:Nat):Nat:=diff x (2 ^ k)
def aJe (l:List Nat):List Value:=l.map fun x:Nat=>Value.int .u32 (x:Int)
def part (k:Nat) (l:List Nat) (i:Nat):List Nat:=(l.take i).map (Db k)++l.drop i
theorem Yt (k:Nat) (l:List Nat) (i:Nat):(part k l i).length=l.length:=by unfold part;simp;omega
theorem aA2 (k:Nat) (l:List Nat) (i:Nat) (h:i<l.length):(part k l i)[i]? =some l[i]:=by
 unfold part;have e:((l.take i).map (Db k)).length=i:=by rw [aSp,aRU];omega
 rw [aSf (by rw [e];exact aR3 _),e,aVy,aSV,Nat.add_zero,aRT h]
theorem Yu (k:Nat) (l:List Nat) (i:Nat) (h:i<l.length):(part k l i).set i (Db k l[i])=part k l (i+1):=by
 unfold part;have e:((l.take i).map (Db k)).length=i:=by rw [aSp,aRU];omega
 rw [aU3 _ _ (by rw [e];exact aR3 _),e,aVy,aSk h,aSi,aTB h,aTM,aSw];rfl
def uk (l:List Nat) (k:Nat):List Nat:=part k (l.set k 0) 16

end Go.Proofs.YtlikikpgmmkjbaaGreat.bR
namespace Go.Proofs.YtlikikpgmmkjbaaGreat
open Tryz
end Go.Proofs.YtlikikpgmmkjbaaGreat
namespace Go.Proofs.YtlikikpgmmkjbaaGreat.bR
open Tryz
open Go.RowKit Go.Proofs.YtlikikpgmmkjbaaGreat Go.Proofs.YtlikikpgmmkjbaaGreat.fy

def jK (m:Nat) (l:List Nat):Int:=ze ((size m:Int) / 2+1) l 0
def xQ:Nat→Nat→List Nat→Nat×List Nat
 | 0,m,l=>(m,l)
 | f+1,m,l=>if 0≤jK m l then xQ f (diff m (2 ^ (jK m l).toNat)) (uk l (jK m l).toNat) else (m,l)
def qR (l:List Nat):Nat:=(l.filter (· != 0)).length
theorem aAq (l:List Nat):qR l≤l.length:=aUp _ _
theorem aj4 (t:Int):∀ (l:List Nat) (i:Nat),0≤ze t l i→∃ j,∃ h:j<l.length,ze t l i=((i+j:Nat):Int)∧t≤(size l[j]:Int)
 | [],i,h=>by simp [ze] at h
 | x::xs,i,h=>by
  unfold ze at h ⊢;by_cases hx:t≤(size x:Int)
  ·rw [aR5 hx];exact ⟨0,by simp,by simp,hx⟩
  ·rw [aR0 hx] at h ⊢;obtain ⟨j,ay,κ,aa⟩:=aj4 t xs (i+1) h;exact ⟨j+1,by simp;exact ay,by rw [κ];congr 1;omega,aa⟩
theorem amB {m:Nat} {l:List Nat} (h:0≤jK m l):∃ k:Nat,jK m l=(k:Int)∧∃ av:k<l.length,(size m:Int) / 2+1≤(size l[k]:Int):=by
 obtain ⟨j,ay,κ,aa⟩:=aj4 _ l 0 h;exact ⟨j,by unfold jK;rw [κ];simp,ay,aa⟩
theorem aCV:size 0=0:=by decide
theorem XL (l:List Nat) (k:Nat) (h:l.length=16):(uk l k).length=16:=by unfold uk;rw [Yt,aR1];exact h
theorem ay6 (l:List Nat) (k:Nat) (h:l.length=16):uk l k=(l.set k 0).map (Db k):=by
 unfold uk part;have aa:(l.set k 0).length=16:=by rw [aR1];exact h
 rw [aSh (by omega),aWl (by omega),aSu]
theorem aAS (k:Nat):Db k 0=0:=by
 unfold Db diff;simp
theorem ajN (f:Nat→Nat) (aG:f 0=0):∀ l:List Nat,qR (l.map f)≤qR l
 | []=>aR3 _
 | x::xs=>by
  have bF:=ajN f aG xs;unfold qR at *
  rw [aSH,aTj,aTj];by_cases hx:x=0
  ·subst hx;rw [aG];simpa using bF
  ·rw [aR5 (show (x != 0)=true by simp [hx])];split
   ·rw [aRW,aRW];exact Nat.succ_le_succ bF
   ·rw [aRW];exact aWJ bF
theorem ajO:∀ (l:List Nat) (k:Nat) (av:k<l.length),l[k]≠0→qR (l.set k 0)+1=qR l
 | x::xs,0,_,h=>by
  unfold qR;simp at h;simp [h]
 | x::xs,k+1,av,h=>by
  have bF:=ajO xs k (by simpa using av) (by simpa using h);unfold qR at *
  simp only [aTN,aTj];split
  ·simp;omega
  ·exact bF
theorem ay8 {m:Nat} {l:List Nat} (aB:l.length=16) {k:Nat} (av:k<l.length) (h:(size m:Int) / 2+1≤(size l[k]:Int)):qR (uk l k)<qR l:=by
 have aG:l[k]≠0:=by
  intro aG;rw [aG,aCV] at h;omega
 have κ:=ajO l k av aG;rw [ay6 l k aB];have aa:=ajN (Db k) (aAS k) (l.set k 0);omega
end Go.Proofs.YtlikikpgmmkjbaaGreat.bR
namespace Go.Proofs.YtlikikpgmmkjbaaGreat
open Tryz
end Go.Proofs.YtlikikpgmmkjbaaGreat
namespace Go.Proofs.YtlikikpgmmkjbaaGreat.bR
open Tryz
open Go.RowKit Go.Proofs.YtlikikpgmmkjbaaGreat Go.Proofs.YtlikikpgmmkjbaaGreat.fy
def Part (a b:Nat):Prop:=∀ i,a.testBit i=true→b.testBit i=true
structure anR (m:Nat) (l:List Nat):Prop where
 m16:m<65536
 len:l.length=16
 lt:∀ k,l.getD k 0<4294967296
 sub:∀ k,Part (l.getD k 0) m
 self:∀ k,(l.getD k 0).testBit k=false
 mem:∀ k,l.getD k 0≠0→m.testBit k=true
theorem ajX (m:Nat):∀ (l:List Nat) (k:Nat),MB m l k=true↔∀ j,j<l.length→FC m (l.getD j 0) (k+j)=true
 | [],k=>by simp [MB]
 | x::xs,k=>by
  rw [MB,aRY,ajX m xs (k+1)];constructor
  ·rintro ⟨κ,aa⟩ j ay
   match j with
   | 0=>exact κ
   | j+1 =>
    have:=aa j (by simpa using ay);rw [show k+(j+1)=k+1+j from by omega];exact this
  ·intro h;refine ⟨h 0 (by simp),fun j ay=> ?_⟩;have:=h (j+1) (by simpa using ay);rw [show k+(j+1)=k+1+j from by omega] at this;exact this
structure aHN (m:Nat) (l:List Nat) (r:Nat×List Nat):Prop where
 jN:anR r.1 r.2
 some_:r.1≠0
 jK:jK r.1 r.2<0
 sub:Part r.1 m
 aPJ:∀ j,Part (r.2.getD j 0) (l.getD j 0)
 gone:∀ j,m.testBit j=true→r.1.testBit j=false→size r.1<2 * size (l.getD j 0)
end Go.Proofs.YtlikikpgmmkjbaaGreat.bR
namespace Go.Proofs.YtlikikpgmmkjbaaGreat
open Tryz
end Go.Proofs.YtlikikpgmmkjbaaGreat
namespace Go.Proofs.YtlikikpgmmkjbaaGreat.kD
open Tryz
open Go.Proofs.YtlikikpgmmkjbaaGreat.fy

def aIP (j:Nat):UInt8:=1 <<<UInt8.ofNat j
def ajm (b:BitVec 32):Nat→BitVec 32
 | 0=>0#32
 | k+1=>ajm b k ^^^ (if b.getLsbD k then 1#32 <<<k else 0#32)
end Go.Proofs.YtlikikpgmmkjbaaGreat.kD
namespace Go.Proofs.YtlikikpgmmkjbaaGreat
open Tryz
end Go.Proofs.YtlikikpgmmkjbaaGreat
namespace Go.Proofs.YtlikikpgmmkjbaaGreat.kD
open Tryz
open Go.RowKit Go.Proofs.YtlikikpgmmkjbaaGreat.fy

def cells (l:List UInt8):List Value:=l.map fun b=>Value.int .u8 (b.toNat:Int)
structure Inv (T:ByteArray) (b:BitVec 32) (p N k:Nat) (t:List UInt8):Prop where
 len:t.length=N
 low:∀ j,j<k→b.getLsbD j=true→p+j<8 * N
 sum:fold (~~~0#32) t=fold (~~~0#32) T.data.toList ^^^ steps (8 * N - p) (ajm b k)
end Go.Proofs.YtlikikpgmmkjbaaGreat.kD
namespace Go.Proofs.YtlikikpgmmkjbaaGreat
open Tryz
section
def aGJ (aC:Nat) (w:World) (A:Option Addr) (c:Nat) (t:List UInt8):Prop :=
 ∃ (g:Nat) (R:List UInt8) (L:Nat),A=some ⟨g,0,none⟩∧aC≤g∧aP w g (kD.cells (t++R)) 5 (L,L+1)∧t.length≤L∧t.length≤c∧c≤9223372036854775807∧t.length≤140737488355328
section
variable {aC:Nat} {w w':World} {A:Option Addr} {c:Nat} {t:List UInt8} {S:List Nat}
end
section
variable {P:Program} {n:Nat} {E cU:List (Nat×Value)} {a:Act} {w w' w0 aW:World} {Q:Exit→Act→World→Prop} {ops:Array Oper} {v:Value}
variable {d:Option Nat} {ty:TypeId} {pos:String} {af:Array Edge} {g:Option (Nat×Bool)} {x y z:Operand} {t u:TypeId} {rest:List Oper} {i j:Int} {k k':IntKind}
theorem apU {m:Nat} (hx:ev E x=some (.int k i)) (aK:ev E y=some (.int k' (m:Int))) (hm:m≤k.bits) (aG:0≤i):cY P E ⟨d, .binOp .shr t x y u,ty,pos,af,g⟩ w (.int k (i / 2 ^ m)) w:=o6 hx aK (by rfl:binOp .shr t (.int k i) (.int k' (m:Int))=Op.shift .shr k i k' (m:Int)) (by
 unfold Op.shift;rw [aR0 (by omega)];show (pure (Value.int k (i.fdiv (2 ^ min (m:Int).toNat k.bits))):Sem Value).run _ _=_;rw [aSJ,aTC hm,Int.fdiv_eq_ediv_of_nonneg _ (by exact Int.le_of_lt (Int.pow_pos (by decide)))];rfl)
theorem apT {m:Nat} (hx:ev E x=some (.int k 1)) (aK:ev E y=some (.int k' j)) (ay:j=(m:Int)) (hm:m≤k.bits):cY P E ⟨d, .binOp .shl t x y u,ty,pos,af,g⟩ w (.int k (k.wrap (2 ^ m))) w:=o6 hx aK (by rfl:binOp .shl t (.int k 1) (.int k' j)=Op.shift .shl k 1 k' j) (by
 subst ay;unfold Op.shift;rw [aR0 (by omega)];show (pure (Value.int k (k.wrap (1 * 2 ^ min (m:Int).toNat k.bits))):Sem Value).run _ _=_;rw [aSJ,aTC hm,Int.one_mul];rfl)
theorem apE (hx:ev E x=some (.int k i)) (aK:ev E y=some (.int k j)):cY P E ⟨d, .binOp .and t x y u,ty,pos,af,g⟩ w (.int k (bits .and k i j)) w:=o6 hx aK (binOp_and t k i j) rfl
end
end
section
open Go.Proofs.YtlikikpgmmkjbaaGreat.fy
abbrev d':=Nat
def d'.rep:τ d':=τ.flat 1 (λ n:Nat=> [.int .u32 (n:Int)]) (λ n=>n<4294967296) (λ _ u=>∃ n:Int,u= .int .u32 n) (λ _=>rfl) (by intro a u hu;simp at hu;subst hu;rfl) (by
 intro a j u hu;cases j with
 | zero=>simp at hu;exact ⟨_,hu.symm⟩
 | succ j=>simp at hu)
theorem CE {w:World} {cs:List Value} {a:d'} (h:d'.rep.has w cs a):cs= [.int .u32 (a:Int)]:=aTQ (show cs= [.int .u32 (a:Int)]∧a<4294967296 from h)
theorem d'.iE:∀ (j:Nat) u,(Value.int .u32 0).cells[j]? =some u→d'.rep.raw j u:=by
 intro j u hu;have hu:(#[(.int .u32 0:Value)]:Array Value)[j]? =some u:=hu
 match j,hu with
 | 0,hu=>exact ⟨_,(aRR hu).symm⟩
 | j+1,hu=>simp at hu
abbrev d'.zero:Value:= .int .u32 0
theorem d'.info:(prog.info? 73).map (λ i=>(i.zero,i.size,i.bytes))=some (some (.int .u32 0),1,4):=by kernel_rfl
theorem d'.plain:d'.rep.Plain:=τ.oP
theorem d'.mF {by_:Nat} {w:World} {A:Option Addr} {c:Nat} {l:List d'} (h:d'.rep.aJ by_ w A c l):∀ a∈l,a<4294967296:=τ.aJ.yx (R:=d'.rep) (Q:=λ a=>a<4294967296) (fun {w cs a} (h:d'.rep.has w cs a)=>(show cs= [.int .u32 (a:Int)]∧a<4294967296 from h).2) h
section
open bR
variable {P:Program} {E:List (Nat×Value)} {w:World} {d:Option Nat} {ty:TypeId} {pos:String} {af:Array Edge} {g:Option (Nat×Bool)} {x y:Operand} {t u:TypeId}
def u_ (a k:Nat):Int:=if a.testBit k then 1 else 0
theorem Dv {a m:Nat} {j:Int} {k':IntKind} (hx:ev E x=some (.int .u32 (a:Int))) (aK:ev E y=some (.int k' j)) (ay:j=(m:Int)) (hm:m≤32):cY P E ⟨d, .binOp .shr t x y u,ty,pos,af,g⟩ w (.int .u32 ((a / 2 ^ m:Nat):Int)) w:=by
 subst ay;have h:=apU (P:=P) (w:=w) (d:=d) (ty:=ty) (pos:=pos) (af:=af) (g:=g) (t:=t) (u:=u) (m:=m) hx aK hm (aTP a)
 rwa [show (a:Int) / 2 ^ m=((a / 2 ^ m:Nat):Int) by simp] at h
theorem IK {a m:Nat} (hx:ev E x=some (.int .u32 ((a / 2 ^ m:Nat):Int))) (aK:ev E y=some (.int .u32 1)) (ha:a<4294967296):cY P E ⟨d, .binOp .and t x y u,ty,pos,af,g⟩ w (.int .u32 (u_ a m)) w:=by
 have h:=apE (P:=P) (w:=w) (d:=d) (ty:=ty) (pos:=pos) (af:=af) (g:=g) (t:=t) (u:=u) hx aK
 rwa [apK a m ha] at h
theorem Sh {a b:Nat} (hx:ev E x=some (.int .u32 (a:Int))) (aK:ev E y=some (.int .u32 (b:Int))):cY P E ⟨d, .binOp .andNot t x y u,ty,pos,af,g⟩ w (.int .u32 ((diff a b:Nat):Int)) w:=o6 hx aK (by rfl:binOp .andNot t (.int .u32 (a:Int)) (.int .u32 (b:Int))=pure (.int .u32 (bits .andNot .u32 (a:Int) (b:Int)))) (by rw [arI];rfl)
theorem aEw {a b:Nat} (hx:ev E x=some (.int .u32 (a:Int))) (aK:ev E y=some (.int .u32 (b:Int))) (ha:a<4294967296) (Φ:b<4294967296):cY P E ⟨d, .binOp .or t x y u,ty,pos,af,g⟩ w (.int .u32 ((a ||| b:Nat):Int)) w:=o6 hx aK (by rfl:binOp .or t (.int .u32 (a:Int)) (.int .u32 (b:Int))=pure (.int .u32 (bits .or .u32 (a:Int) (b:Int)))) (by rw [aAL a b ha Φ];rfl)
theorem Sj {m:Nat} {j:Int} {k':IntKind} (hx:ev E x=some (.int .u32 1)) (aK:ev E y=some (.int k' j)) (ay:j=(m:Int)) (hm:m<32):cY P E ⟨d, .binOp .shl t x y u,ty,pos,af,g⟩ w (.int .u32 ((2 ^ m:Nat):Int)) w:=by
 have h:=apT (P:=P) (w:=w) (d:=d) (ty:=ty) (pos:=pos) (af:=af) (g:=g) (t:=t) (u:=u) (k:= .u32) hx aK ay (by show m≤32;omega)
 rwa [show (IntKind.u32.wrap ((2:Int) ^ m))=((2 ^ m:Nat):Int) by
  rw [show ((2:Int) ^ m)=((2 ^ m:Nat):Int) by simp,SD _ (aTP _) (Int.ofNat_lt.2 (MC hm))]] at h
end
theorem al6 (n:Nat) (hn:n<4294967296) (w:World):Calls prog 174 #[.int .u32 (n:Int)] w λ e w'=>e= .returned (.int .i64 (bR.size n:Int))∧Ext w w' :=
 (bR.aq0 n hn w).mono λ e w' ⟨h,q,I⟩=>⟨h,by rw [I];exact below_drewN (aSm _ _) q⟩
def Dc (t:Int) (x:d'):Bool:=decide (t≤(bR.size x:Int))
theorem aj3 (t:Int):∀ (l:List Nat) (i:Nat),(gm (Dc t) l= -1∧bR.ze t l i= -1)∨∃ k:Nat,gm (Dc t) l=(k:Int)∧bR.ze t l i=((i+k:Nat):Int)
 | [],i=> .inl ⟨rfl,rfl⟩
 | x::xs,i=>by
  unfold bR.ze;by_cases hx:t≤(bR.size x:Int)
  ·exact .inr ⟨0,Fa (k:=0) (by simp) (by show Dc t x=true;exact aSo hx) (λ j ay=>by omega),by rw [aR5 hx];rfl⟩
  ·rw [aR0 hx];rcases aj3 t xs (i+1) with ⟨κ,aa⟩ | ⟨k,κ,aa⟩
   ·refine .inl ⟨E' λ j ay=> ?_,aa⟩
    match j with
    | 0=>exact aSt hx
    | j+1 =>
     rcases Xr (Dc t) xs with ⟨_,aw⟩ | ⟨k,av,aw,_⟩
     ·exact aw _ (aS0 _)
     ·omega
   ·refine .inr ⟨k+1, ?_,by rw [aa];congr 1;omega⟩;rcases Xr (Dc t) xs with ⟨aw,_⟩ | ⟨k',av,aw,a6,bL⟩
    ·omega
    ·obtain rfl:k'=k:=by omega
     refine Fa (by simpa using av) (by simpa using a6) (λ j ay=> ?_)
     match j with
     | 0=>exact aSt hx
     | j+1=>exact bL j (by omega)
theorem aFc (m:Nat) (l:List Nat):gm (Dc ((bR.size m:Int) / 2+1)) l=bR.jK m l:=by
 unfold bR.jK;rcases aj3 ((bR.size m:Int) / 2+1) l 0 with ⟨κ,aa⟩ | ⟨k,κ,aa⟩
 ·rw [κ,aa]
 ·rw [κ,aa,aS5]
theorem ajZ (m x k:Nat):((((bR.diff x m:Nat):Int) != 0) || (u_ x k == 1) || (((x:Nat):Int) != 0 && (u_ m k == 0)))= !bR.FC m x k:=by
 unfold bR.FC u_;generalize bR.diff x m=d;have bc:(((d:Nat):Int) != 0)= !(d == 0):=by
  rw [aUd];simp
 have bl:(((x:Nat):Int) != 0)= !(x == 0):=by
  rw [aUd];simp
 rw [bc,bl];cases (d == 0)<;>cases (x == 0)<;>cases x.testBit k<;>cases m.testBit k<;>rfl
def J4 (m:Nat) (l:List Nat):Prop:=l.length=16∧bR.check m l=0
theorem Si {m:Nat} {l:List Nat}:J4 m l↔m≠0∧m<65536∧l.length=16∧(∀ j,j<l.length→bR.FC m (l.getD j 0) j=true)∧bR.jK m l<0:=by
 have κ:=bR.ajX m l 0;unfold J4 bR.check;constructor
 ·rintro ⟨aB,h⟩;split at h
  ·cases h
  ·split at h
   ·cases h
   ·split at h
    ·cases h
    ·rename_i a b c
     refine ⟨by omega,by omega,aB,λ j ay=> ?_,aWE.1 c⟩;have:=κ.1 (by simpa using b) j ay
     rwa [aS5] at this
 ·rintro ⟨a,b,aB,c,d⟩;refine ⟨aB, ?_⟩;rw [aR0 (by omega),aR0 (by rw [κ.2 (λ j ay=>by rw [aS5];exact c j ay)];decide)];exact aR0 (show ¬ 0≤bR.jK m l by omega)
theorem aEs {m:Nat} (h:m≠0) (aa:m<65536):(((m:Int)== 0) || (((m / 2 ^ 16:Nat):Int) != 0))=false:=by
 have e:m / 2 ^ 16=0:=aVK aa;rw [e];simp [h]
theorem aEr {m:Nat} (h:(((m:Int)== 0) || (((m / 2 ^ 16:Nat):Int) != 0))=false):m≠0∧m<65536:=by
 simp only [aSD,aT2,aVh] at h;omega
theorem adh (A:Option Addr) (c:Nat) (l:List d') (w:World) (h:d'.rep.aJ 4 w A c l):
  Calls prog 36 #[.slice A l.length c] w λ e w'=>∃ bM b8,e= .returned (.slice bM l.length b8)∧d'.rep.aF 73 4 w' w.heap.size (τ.ag bM) bM b8 l∧(bM=none↔A=none)∧Below w.heap.size w w':=by
 obtain ⟨i0,ar,oW,qH,qI⟩:=aUk d'.info;have RA:∀ (w:World) (a:Option Addr) (n c jJ b8:Nat),(binOp .eql 81 (.slice a n c) (.slice none jJ b8)).run prog w= .ok (.bool a.isNone) w:=λ w a n c jJ b8=>aTW w _ _ a n c jJ b8 underlying81;cases A with
 | none =>
  obtain rfl:c=0:=h.2.2.2.1 rfl;obtain rfl:l= []:=aSq (by have:=h.1;omega);go_enter func36,ntmps36;go_wp2_with fail
  go_ret;exact ⟨none,0,Z,τ.aF.nil _,by simp,aSm _ _⟩
 | some a =>
  have cC:Below w.heap.size w (w.alloc (.cells #[] 73)):=(aSm _ w).alloc (aR3 _) _;obtain ⟨n,fa⟩:∃ n,Hid (l.length=n):=⟨_,aRV rfl⟩;obtain ⟨κ,aa,aw,a6,ess,bL,ch⟩:=h.keep cC;have yh:=aRV bL;have oU:∀ u∈ess.flatten,u.oneCell'=true:=by
   intro u hu;obtain ⟨y,aK,hu⟩:=aSZ.1 hu;obtain ⟨a,ha⟩:=bL.left y aK;exact d'.rep.one ha u hu
  have qG:∀ (j:Nat) u,ess.flatten[j]? =some u→d'.rep.raw (j % d'.rep.size) u:=λ j u hu=>Hg bL (by decide) hu;rw [fa.out] at κ aw ch;have cv:=aRV ch;have jq:=aRV (Own.empty (e:= 73) (size:=d'.rep.size) (G:=d'.rep.raw) w (aR3 w.heap.size));clear h a6 bL ch;rw [fa.out];go_enter func36,ntmps36;go_wp2_with (at_builtin;refine I7 _ rfl _ _ 81 rfl w.heap.size 73 i0 (Value.int .u32 0) d'.rep.size 4 underlying81 ar oW qH qI rfl (by decide) d'.rep.raw d'.iE _ _ _ rfl jq.out (some a) n c ess.flatten rfl cv.out oU qG ?qc4 ?qc5 ?qc6 ?_)
  case qc4=>unfold maxLen;omega
  case qc5=>omega
  case qc6=>simp
  intro v' aW fg jF mM fL;have cQ:=cC.grown jF (by simp) (by intro k av;simp [Value.ownBlock] at av;omega);obtain ⟨cq,c1,rfl,hle,_,_,_,lz⟩:=fg.shape;have km:cq≠none:=by
   intro h;subst h;exact mM (lz Z)
  have aR:Hid (d'.rep.aF 73 4 aW w.heap.size (τ.ag cq) cq c1 l):=aRV (τ.aF.A9 d'.plain yh.out (by rw [fa.out];exact aw) (by rw [fa.out];simpa using fg));have tD:=aRV km;clear jF mM fL fg km lz oU qG;go_wp2_with fail
  go_ret;exact ⟨cq,c1,Z,aR.out,⟨λ h=>absurd h tD.out,λ h=>by cases h⟩,cQ⟩
theorem ax2 (fe:FuncId) (cs:List Value) (p:d'→Bool) (A:Option Addr) (c:Nat) (l:List d') (w:World) (aB:d'.rep.aJ 4 w A c l) (nv:Enters prog fe) (dX:∀ x∈l,∀ w',Ext w w'→Calls prog fe (([.int .u32 (x:Int)]:List Value)++cs).toArray w' λ e lH=>e= .returned (.bool (p x))∧Ext w' lH):
  Calls prog 175 #[.slice A l.length c, .func (.func fe) #[] cs.toArray] w (λ e w'=>e= .returned (.int .i64 (gm p l))∧Ext w w'):=by
 have oT:=aB.dU;refine cd (n:=19) func175 Z Z Z ?_;refine aj<|va Z<|ai<|az<|aj<|vm Z<|J (cm underlying81 Z)<|vm Z<|ai<|bS<| ?_;refine fk (λ cn cl a1=>∃ k:Nat,cl= [(0, .slice A l.length c),(1, .func (.func fe) #[] cs.toArray),(7, .int .i64 (l.length:Int)),(8, .int .i64 (k:Int))]∧cn=l.length - k∧Ext w a1∧(k≤l.length)∧(∀ i,i<k→p (l.getD i 0)=false)) _ _ ⟨0,Z,Z,(Ext.bI w),by omega,λ i ar=>by omega⟩ (.cons Z (.cons Z (.cons Z (.cons (b2 Z (by first | omega | rfl | (simp<;>omega))) .nil)))) ?_;rintro Ms Jw cI ⟨k,rfl,rfl,bk,av,aO⟩;have:=bk.size;refine aj<|J (blt Z Z)<|ai<|az<| ?_;refine en Z (λ lW=> ?_) (λ lW=> ?_)
 ·refine bt<|az<|bS<|aj<|vm Z<|va Z<|ai<|aj<|vm Z<|vm Z<|vm Z<|J (b_ k underlying81 vv Z Z ((aB.keep bk).bP (bb k)) Z (by omega))<|J (ak Z (τ.aJ.fX CE ((aB.keep bk).cB (bb k)) (dn (l:=l) (u:=0) (by omega)) Z qx))<|O' nv Z Z Z ((dX (l.getD k 0) (jd (by omega)) _ bk).mono ?_);rintro e IV ⟨rfl,x3⟩;refine ⟨_,Z, ?_⟩;have:=x3.size;have mv:=γ bk x3;refine ai<| ?_;refine dE Z (λ lX=> ?_) (λ lX=> ?_)
  ·refine aj<|vm Z<|va Z<|ai<|rt<|eF<|bO<|mq<|eF<|bO<|a8 (.tmp Z .nil)<| ?_;exact ⟨by have e:=QS (p:=p) (l:=l) (d:=0) (k:=k) (by omega) lX aO;rw [e];rfl,mv⟩
  ·refine fo<|bY<|aV<|rg<|J (bad Z Z (bH (by omega)))<|vm Z<|nl<| ?_;exact c' _ _ ⟨k+1,Z,Z,mv,by omega,sU aO lX⟩ (by omega) (.cons Z (.cons Z (.cons Z (.cons (b2 Z (by first | omega | rfl | (simp<;>omega))) .nil))))
 ·refine dK<|dJ<|ei<|dI<|aV<|aj<|va Z<|ai<|rt<|a8 (.tmp Z .nil)<| ?_;exact ⟨by have e:=QR (p:=p) (l:=l) (d:=0) (λ i ar=>aO i (by omega));rw [e];rfl,bk⟩
theorem aEx (qQ:Nat) (hx:qQ<4294967296) (t:Int) (b:Nat) (w:World) (aM:aP w b [.int .i64 t] 3 (0,0)):
  Calls prog 176 #[.int .u32 (qQ:Int), .pointer (some ⟨b,0,none⟩)] w (λ e w'=>e= .returned (.bool (Dc t qQ))∧Ext w w'):=by
 have s6:=aM.lt;have ja:=bR.GY 32 qQ;refine cd (n:=8) func176 Z Z Z ?_;refine aj<|va Z<|ai<|az<| ?_;refine rd [(1,0),(2,0)] [0,1,2,3,4] (by kernel_rfl) (by kernel_rfl) ?_;refine aq Z (λ _=>aH Z)<|pN Z Z aew Z (λ _ x=>al6 qQ hx _) Z<|bA Z (λ _ x=>ak Z ((aM.later x).one ba Z))<|aq Z (λ _=>j3 Z Z)<|aq Z (λ _=>ew Z)<|fn λ cI e_=> ?_;have:=e_.size;have bk:=γ (Ext.bI w) e_;refine aV<|rt<|a8 (.tmp Z .nil)<| ?_;exact ⟨Z,bk⟩
theorem al9 (m:Nat) (hm:m<4294967296) (A:Option Addr) (c:Nat) (l:List Nat) (w:World) (aB:d'.rep.aJ 4 w A c l):
  Calls prog 144 #[.agg #[.int .u32 (m:Int), .slice A l.length c]] w (λ e w'=>e= .returned (.int .i64 (bR.jK m l))∧Ext w w'):=by
 have ja:bR.size m≤32:=bR.GY 32 m;refine cd (n:=13) func144 Z Z Z ?_;refine aj<|cw Z Z Z Z λ cI bJ a7 dY ab=> ?_;have:=a7.size;have bk:=γ (Ext.bI w) a7;have ed:=ab.lt;refine va Z<|ai<|aj<|J (au vw Z)<|J (ak Z (ab.one qx Z))<|ca aew Z Z ((al6 m hm _).mono ?_);rintro e er ⟨rfl,cD⟩;refine ⟨_,Z, ?_⟩;have:=cD.size;have bK:=γ bk cD;refine J (apQ Z Z (by omega) (by omega) (aB8 (by omega) (by omega) (by omega)))<|J (bad Z Z (bH (by omega)))<|al Z PE Z Z λ wg yz dm Ma fY=> ?_;have:=dm.size;have kB:=γ bK dm;have Rx:=fY.lt;refine st (new:= [.int .i64 (((bR.size m:Int) / 2)+1)]) Z Z fY Z dr Z Z Z λ uK rY fY=> ?_;have:=rY.size;have h8:=Ext.mod kB rY bs;refine ai<|aj<|J (au vx Z)<| ?_;have ab:=ab.later (γ cD dm);have ab:=ab.mod rY aN;refine J (ak Z (ab.one yK Z))<|J (Mv Z Z)<|ca as6 Z Z ((ax2 176 [.pointer (some ⟨yz,0,none⟩)] (Dc (((bR.size m:Int) / 2)+1)) _ _ l _ (aB.keep h8) as5 (λ x hx w' h=>aEx x (d'.mF aB x hx) (((bR.size m:Int) / 2)+1) yz w' (fY.later h))).mono ?_);rintro e nP ⟨rfl,eG⟩;refine ⟨_,Z, ?_⟩;have:=eG.size;have fx:=γ h8 eG;refine va Z<|ai<|rt<|a8 (.tmp Z .nil)<| ?_;exact ⟨by rw [aFc];rfl,fx⟩
theorem al5 (m:Nat) (hm:m<4294967296) (A:Option Addr) (c:Nat) (l:List Nat) (w:World) (aB:d'.rep.aJ 4 w A c l):
  Calls prog 103 #[.agg #[.int .u32 (m:Int), .slice A l.length c]] w (λ e w'=>∃ e':Int,e= .returned (.int .i64 e')∧(e'=0↔J4 m l)∧Ext w w'):=by
 have oT:=aB.dU;refine cd (n:=54) func103 Z Z Z ?_;refine aj<|cw Z Z Z Z λ cI bJ a7 dY ab=> ?_;have:=a7.size;have bk:=γ (Ext.bI w) a7;have ed:=ab.lt;refine va Z<|ai<|az<|aj<|J (au vw Z)<|J (ak Z (ab.one qx Z))<|J (beq Z Z)<|vm Z<|aT Z Z Z Z (λ hc=>au vw Z) Z<|aT Z Z Z Z (λ hc=>ak (gt hc Z) (ab.one qx Z)) Z<|aT Z Z Z Z (λ hc=>Dv (m:=16) (gt hc Z) Z Z (by decide)) Z<|aT Z Z Z Z (λ hc=>bne (gt hc Z) Z) Z<|J (eE Z Z Z Z)<|ai<| ?_;refine dE Z (λ qC=> ?_) (λ qC=> ?_)
 ·refine aj<|va Z<|ai<|rt<|bO<|a8 (.tmp Z .nil)<| ?_;exact ⟨1,Z,⟨λ bd=>absurd bd (by decide),λ bd=>absurd bd (λ bd=>by obtain ⟨cf,a2,_⟩:=Si.1 bd;rw [aEs cf a2] at qC;cases qC)⟩,bk⟩
 ·obtain ⟨HM,Qs⟩:=aEr qC;refine bt<|az<|aj<|J (au vx Z)<|J (ak Z (ab.one yK Z))<|J (cm underlying81 Z)<|J (bne Z Z)<|ai<| ?_;refine ey Z (λ lX=> ?_) (λ lX=> ?_)
  ·refine aj<|va Z<|ai<|rt<|bO<|a8 (.tmp Z .nil)<| ?_;exact ⟨4,Z,⟨λ bd=>absurd bd (by decide),λ bd=>absurd bd (λ bd=>by have:=bd.1;omega)⟩,bk⟩
  ·have HL:l.length=16:=by omega
   refine bt<|az<|aj<|J (au vx Z)<|J (ak Z (ab.one yK Z))<|J (cm underlying81 Z)<|vm Z<|ai<|bS<| ?_;refine fk (λ cn cl a1=>∃ k:Nat,cl= [(1, .pointer (some ⟨bJ,0,none⟩)),(19, .slice A l.length c),(20, .int .i64 (l.length:Int)),(21, .int .i64 (k:Int))]∧cn=l.length - k∧Ext w a1∧aP a1 bJ [.int .u32 (m:Int), .slice A l.length c] 83 (0,0)∧(k≤l.length)∧(∀ j,j<k→bR.FC m (l.getD j 0) j=true)) _ _ ⟨0,Z,Z,bk,ab,by omega,λ i ar=>by omega⟩ (.cons Z (.cons Z (.cons Z (.cons (b2 Z (by first | omega | rfl | (simp<;>omega))) .nil)))) ?_;rintro aNj aG6 Zw ⟨k,rfl,rfl,x5,ab,av,aO⟩;have:=x5.size;have hk:=ab.lt;refine aj<|J (blt Z Z)<|ai<|az<| ?_;refine en Z (λ ir=> ?_) (λ ir=> ?_)
   ·refine bt<|az<|bS<|aj<|vm Z<|J (b_ k underlying81 vv Z Z ((aB.keep x5).bP (bb k)) Z (by omega))<|J (ak Z (τ.aJ.fX CE ((aB.keep x5).cB (bb k)) (dn (l:=l) (u:=0) (by omega)) Z qx))<|va Z<|va Z<|ai<|aj<|vm Z<|J (au vw Z)<|J (ak Z (ab.one qx Z))<|J (Sh Z Z)<|J (bne Z Z)<|vm Z<|aT Z Z Z Z (λ hc=>aH Z) Z<|aT Z Z Z Z (λ hc=>aH Z) Z<|aT Z Z Z Z (λ hc=>Dv (m:=k) (gt hc Z) (gt hc Z) Z (by omega)) Z<| ?_;refine aT Z Z Z Z (λ hc=>IK (a:=(l.getD k 0)) (gt hc Z) Z (d'.mF aB _ (jd (by omega)))) Z<|aT Z Z Z Z (λ hc=>beq (gt hc Z) Z) Z<|J (eE Z Z Z Z)<|vm Z<|aT Z Z Z Z (λ hc=>aH Z) Z<|aT Z Z Z Z (λ hc=>bne (gt hc Z) Z) Z<|aT Z Z Z Z (λ hc=>aH (gt hc Z)) Z<|r_ Z Z Z Z (λ hc=>au vw Z) Z<|r_ Z Z Z Z (λ hc=>ak (gt hc Z) (ab.one qx Z)) Z<|r_ Z Z Z Z (λ hc=>aH Z) Z<|r_ Z Z Z Z (λ hc=>Dv (m:=k) (gt hc Z) (gt hc Z) Z (by omega)) Z<|r_ Z Z Z Z (λ hc=>IK (a:=m) (gt hc Z) Z hm) Z<|r_ Z Z Z Z (λ hc=>beq (gt hc Z) Z) Z<|aT Z Z Z Z (λ hc=>aj5 hc (gt hc Z) Z Z) Z<|J (eE Z Z Z Z)<|ai<| ?_;refine dE Z (λ pP=> ?_) (λ pP=> ?_)
    ·refine aj<|va Z<|ai<|rt<|eF<|bO<|mq<|eF<|bO<|a8 (.tmp Z .nil)<| ?_;exact ⟨4,Z,⟨λ bd=>absurd bd (by decide),λ bd=>absurd bd (λ bd=>by have vB:=(Si.1 bd).2.2.2.1 k (by omega);rw [ajZ,vB] at pP;cases pP)⟩,x5⟩
    ·rw [ajZ] at pP;have WO:bR.FC m (l.getD k 0) k=true:=by simpa using pP
     refine fo<|bY<|aV<|rg<|J (bad Z Z (bH (by omega)))<|vm Z<|nl<| ?_;exact c' _ _ ⟨k+1,Z,Z,x5,ab,by omega,sU aO WO⟩ (by omega) (.cons Z (.cons Z (.cons Z (.cons (b2 Z (by first | omega | rfl | (simp<;>omega))) .nil))))
   ·refine dK<|dJ<|ei<|dI<|aV<|az<|aj<|J (ak Z (ab.all oL kj))<|ca UY Z Z ((al9 m hm _ _ l _ (aB.keep x5)).mono ?_);rintro e M9 ⟨rfl,l7⟩;refine ⟨_,Z, ?_⟩;have:=l7.size;have tv:=γ x5 l7;refine J (j3 Z Z)<|ai<| ?_;refine GU Z (λ AF=> ?_) (λ AF=> ?_)
    ·refine aj<|va Z<|ai<|rt<|bO<|a8 (.tmp Z .nil)<| ?_;exact ⟨4,Z,⟨λ bd=>absurd bd (by decide),λ bd=>absurd bd (λ bd=>by have:=(Si.1 bd).2.2.2.2;omega)⟩,tv⟩
    ·refine bt<|aj<|va Z<|ai<|rt<|a8 (.tmp Z .nil)<| ?_;exact ⟨0,Z,⟨λ _=>Si.2 ⟨HM,Qs,HL,λ j ay=>aO j (by omega),by omega⟩,λ _=>Z⟩,tv⟩
end
end Go.Proofs.YtlikikpgmmkjbaaGreat
