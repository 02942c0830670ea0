import Derived.Test.YtmeeljmapailnaaGreatTpg
set_option linter.unusedVariables false
set_option linter.unusedSimpArgs false
set_option maxRecDepth 100000
set_option maxHeartbeats 4000000
open Go.RowKit
namespace Go.Proofs.YtmeeljmapailnaaGreat
open Tryz
abbrev aVx:=@List.foldl_cons
abbrev aVY:=@List.getElem?_mapIdx
abbrev aWI:=@List.pairwise_singleton
abbrev aXg:=@List.take_add
section
section
variable {α:Type} {κ:α→Int} {l m r A B C L M R tM tN Pj Kw gF M2:List α} {a b c i j k n:Nat}
def gG (κ:α→Int) (l m:List α):Prop:=∀ x:Int,m.filter (fun a=>decide (κ a=x))=l.filter (fun a=>decide (κ a=x))
def dh (κ:α→Int) (l:List α):Prop:=l.Pairwise fun a b=>κ a≤κ b
theorem gG.bg (l:List α):gG κ l l:=fun _=>rfl
theorem gG.nL (h:gG κ l m) (k:gG κ m r):gG κ l r:=fun x=>(k x).trans (h x)
theorem gG.app (h:gG κ A B) (k:gG κ L M):gG κ (A++L) (B++M):=fun x=>by rw [aUL,aUL,h x,k x]
theorem gG.mem {x:α} (h:gG κ l m) (hx:x∈m):x∈l:=by
 have τ:x∈m.filter (fun a=>decide (κ a=κ x)):=aVi.2 ⟨hx,aT3 rfl⟩;rw [h (κ x)] at τ;exact (aVi.1 τ).1
theorem gG.flip (h:∀ a∈A,∀ b∈B,κ b<κ a):gG κ (A++B) (B++A):=fun x=>by
 rw [aUL,aUL];by_cases hA:A.filter (fun a=>decide (κ a=x))= []
 ·rw [hA,aT6,aVh]
 ·have bj:B.filter (fun a=>decide (κ a=x))= []:=by
   rw [aYl];intro b γ hx;obtain ⟨a,ha⟩:=List.exists_mem_of_ne_nil _ hA;rw [aVi] at ha;have τ:=h a ha.1 b γ;have ae:=aUK ha.2;have aw:=aUK hx;omega
  rw [bj,aT6,aVh]
theorem dh.app:dh κ (A++B)↔dh κ A∧dh κ B∧∀ a∈A,∀ b∈B,κ a≤κ b:=List.pairwise_append
theorem aFr (du:dh κ (tM++tN)) (hR:dh κ (Pj++Kw)) (τ:∀ a∈tM,∀ b∈Kw,κ a≤κ b) (ae:∀ a∈tN,∀ b∈Pj,κ b<κ a) (s1:dh κ gF) (dy:gG κ (tM++Pj) gF) (s2:dh κ M2) (qU:gG κ (tN++Kw) M2):
  dh κ (gF++M2)∧gG κ ((tM++tN)++(Pj++Kw)) (gF++M2):=by
 obtain ⟨_,_,du⟩:=dh.app.1 du;obtain ⟨_,_,hR⟩:=dh.app.1 hR;refine ⟨dh.app.2 ⟨s1,s2,fun x hx y aF=> ?_⟩, ?_⟩
 ·rcases aTP.1 (dy.mem hx) with hx | hx<;>rcases aTP.1 (qU.mem aF) with aF | aF
  ·exact du x hx y aF
  ·exact τ x hx y aF
  ·exact aYn (ae y aF x hx)
  ·exact hR x hx y aF
 ·refine gG.nL ?_ (dy.app qU);rw [aTX,aTX];refine (gG.bg tM).app ?_;rw [← aTX,← aTX];exact (gG.flip ae).app (gG.bg Kw)
def b6 (l:List α) (a b:Nat):List α:=(l.drop a).take (b - a)
theorem m1 (h:b≤l.length):(b6 l a b).length=b - a:=by unfold b6;rw [aTD,aTW];omega
theorem zX (τ:a≤b) (ae:b≤c):b6 l a b++b6 l b c=b6 l a c:=by
 unfold b6;have e:l.drop b=(l.drop a).drop (b - a):=by rw [aUZ];congr 1;omega
 rw [e,show c - a=(b - a)+(c - b) by omega,aXg]
theorem aah (h:a≤b):l.take a++b6 l a b=l.take b:=by
 unfold b6
 conv=>rhs;rw [show b=a+(b - a) by omega,aXg]
theorem alp (h:a≤b):b6 l a b++l.drop b=l.drop a:=by
 unfold b6;have e:l.drop b=(l.drop a).drop (b - a):=by rw [aUZ];congr 1;omega
 rw [e,aVb]
theorem KO (h:a≤b):l.take a++b6 l a b++l.drop b=l:=by rw [aTX,alp h,aVb]
theorem DZ (hA:A.length=a) (bj:A.length+B.length=b):b6 (A++B++C) a b=B∧(A++B++C).take a=A∧(A++B++C).drop b=C∧(A++B++C).take b=A++B∧(A++B++C).drop a=B++C:=by
 subst hA;subst bj;unfold b6;refine ⟨?_, ?_, ?_, ?_, ?_⟩
 ·rw [aTX,aWu,show A.length+B.length - A.length=B.length by omega,aVC]
 ·rw [aTX,aVC]
 ·rw [show A.length+B.length=(A++B).length by rw [aTE],aWu]
 ·rw [show A.length+B.length=(A++B).length by rw [aTE],aVC]
 ·rw [aTX,aWu]
theorem Jg (h:b≤a):b6 l a b= []:=by unfold b6;rw [show b - a=0 by omega,aXT]
theorem BV {x:α} (h:x∈b6 l a b):∃ i,a≤i∧i<b∧l[i]? =some x:=by
 obtain ⟨i,ar⟩:=aVt.1 h;unfold b6 at ar;have τ:i<b - a:=Nat.lt_of_not_le fun n9=>by rw [aUf,aTL (by omega)] at ar;cases ar
 rw [aUf,aTO τ,aUy] at ar;exact ⟨a+i,by omega,by omega,ar⟩
theorem Sw (τ:a≤i) (ae:i<b):(b6 l a b)[i - a]? =l[i]? :=by
 unfold b6;rw [aUf,aTO (by omega),aUy];congr 1;omega
theorem dh.at_ {x y:α} (h:dh κ (b6 l a b)) (τ:a≤i) (ae:i≤j) (aw:j<b) (hx:l[i]? =some x) (aF:l[j]? =some y):κ x≤κ y:=by
 rcases aUt i j with bA | n9
 ·rw [← Sw (b:=b) τ (by omega)] at hx;rw [← Sw (a:=a) (b:=b) (by omega) aw] at aF;obtain ⟨eH,fa⟩:=aTC.1 hx;obtain ⟨gR,ia⟩:=aTC.1 aF;have:=aUn.1 h (i - a) (j - a) eH gR (by omega)
  rwa [fa,ia] at this
 ·obtain rfl:i=j:=by omega
  rw [hx] at aF;obtain rfl:=aTA aF;exact aVa _
def hJ (κ:α→Int) (l:List α) (a b:Nat) (iD:List α):Prop:=∃ M,iD=l.take a++M++l.drop b∧M.length=b - a∧dh κ M∧gG κ (b6 l a b) M
theorem hJ.bg (h:a≤b) (γ:b≤l.length) (hs:dh κ (b6 l a b)):hJ κ l a b l:=⟨_,(KO h).symm,m1 γ,hs,gG.bg _⟩
theorem hJ.len {iD:List α} (h:hJ κ l a b iD) (τ:a≤b) (γ:b≤l.length):iD.length=l.length:=by
 obtain ⟨M,rfl,ae,_⟩:=h;rw [aTE,aTE,aTD,aTW,ae];omega
theorem hJ.Ny {iD:List α} (h:hJ κ l a b iD) (τ:a≤b):gG κ l iD:=by
 obtain ⟨M,rfl,_,_,ae⟩:=h;have:=((gG.bg (κ:=κ) (l.take a)).app ae).app (gG.bg (l.drop b))
 rwa [KO τ] at this
theorem hJ.parts {iD:List α} (h:hJ κ l a b iD) (τ:a≤b) (γ:b≤l.length):iD.take a=l.take a∧iD.drop b=l.drop b∧dh κ (b6 iD a b):=by
 obtain ⟨M,rfl,ae,aw,_⟩:=h;obtain ⟨aY,bb,cP,_⟩:=DZ (A:=l.take a) (B:=M) (C:=l.drop b) (a:=a) (b:=b) (by rw [aTD];omega) (by rw [aTD];omega);exact ⟨bb,cP,by rw [aY];exact aw⟩
theorem Z1 {iD:List α} (h:iD.take k=l.take k) (ae:b≤k):b6 iD a b=b6 l a b:=by
 rcases Nat.le_total a b with xt | xt
 ·have e:∀ l:List α,b6 l a b=((l.take k).take b).drop a:=fun l=>by
   rw [aWt,aUJ ae,← aah (l:=l) xt];rcases Nat.le_total a l.length with aC | aC
   ·rw [aXN (by rw [aTD];omega)];rw [show (l.take a).drop a= [] from aVM (by rw [aTD];omega),aVh]
   ·have:b6 l a b= []:=by unfold b6;rw [aVM aC,List.take_nil]
    rw [this,aT6];exact (aVM (by rw [aTD];omega)).symm
  rw [e iD,e l,h]
 ·rw [Jg xt,Jg xt]
theorem Jh {iD:List α} (h:iD.drop k=l.drop k) (ae:k≤a):b6 iD a b=b6 l a b:=by
 have e:∀ l:List α,b6 l a b=((l.drop k).drop (a - k)).take (b - a):=fun l=>by
  unfold b6;rw [aUZ,show k+(a - k)=a by omega]
 rw [e iD,e l,h]
def kY (l:List α) (a m b:Nat):List α:=l.take a++b6 l m b++b6 l a m++l.drop b
theorem ala (τ:a≤k) (ae:k≤b) (aw:b≤l.length):(kY l a k b).length=l.length:=by
 unfold kY;rw [aTE,aTE,aTE,aTD,aTW,m1 aw,m1 (by omega)];omega
theorem aEx (ae:a≤b):kY l a a b=l:=by unfold kY;rw [Jg (aTK a),aT6,KO ae]
theorem aEw (ae:a≤b):kY l a b b=l:=by unfold kY;rw [Jg (aTK b),aT6,KO ae]
end
section
variable {α:Type} {κ:α→Int} {l cz iE xI:List α} {a b m s e:Nat}
structure AW (κ:α→Int) (l:List α) (a m b s e:Nat):Prop where
 al:a≤s
 Gm:s≤m
 me:m≤e
 Bc:e≤b
 Vd:b≤l.length
 lo:∀ i j x y,a≤i→i<s→e≤j→j<b→l[i]? =some x→l[j]? =some y→κ x≤κ y
 ar:∀ i j x y,s≤i→i<m→m≤j→j<e→l[i]? =some x→l[j]? =some y→κ y<κ x
theorem AW.merge (h:AW κ l a m b s e) (du:dh κ (b6 l a m)) (hR:dh κ (b6 l m b)) {k:Nat} (au:k+m=s+e) (τ:cz=kY l s m e) (ae:hJ κ cz a k iE) (aw:hJ κ iE k b xI):hJ κ l a b xI:=by
 obtain ⟨al,Gm,me,Bc,Vd,lo,ar⟩:=h;obtain ⟨gF,bb,qb,s2,dH⟩:=ae;obtain ⟨M2,cP,oe,s8,gy⟩:=aw;have lD:cz=l.take a++(b6 l a s++b6 l m e)++(b6 l s m++l.drop e):=by
  rw [τ];unfold kY;rw [← aah (l:=l) al];simp only [aTX]
 obtain ⟨f1,f2,f3,_,_⟩:=DZ (A:=l.take a) (B:=b6 l a s++b6 l m e) (C:=b6 l s m++l.drop e) (a:=a) (b:=k) (by rw [aTD];omega) (by rw [aTD,aTE,m1 (by omega),m1 (by omega)];omega);rw [← lD] at f1 f2 f3;rw [f1] at dH;rw [f2,f3] at bb;have kO:iE=(l.take a++gF)++(b6 l s m++b6 l e b)++l.drop b:=by
  rw [bb,← alp (l:=l) Bc];simp only [aTX]
 obtain ⟨g1,g2,g3,_,_⟩:=DZ (A:=l.take a++gF) (B:=b6 l s m++b6 l e b) (C:=l.drop b) (a:=k) (b:=b) (by rw [aTE,aTD,qb];omega) (by rw [aTE,aTD,aTE,m1 (by omega),m1 (by omega),qb];omega);rw [← kO] at g1 g2 g3;rw [g1] at gy;rw [g2,g3] at cP;rw [← zX al Gm] at du;rw [← zX me Bc] at hR;obtain ⟨p2,ob⟩:=aFr du hR (fun x hx y aF=>by
  obtain ⟨i,i1,i2,i3⟩:=BV hx;obtain ⟨j,p2,ob,Bw⟩:=BV aF;exact lo i j x y i1 i2 p2 ob i3 Bw) (fun x hx y aF=>by
  obtain ⟨i,i1,i2,i3⟩:=BV hx;obtain ⟨j,p2,ob,Bw⟩:=BV aF;exact ar i j x y i1 i2 p2 ob i3 Bw) s2 dH s8 gy
 refine ⟨gF++M2,by rw [cP];simp only [aTX],by rw [aTE,qb,oe];omega,p2, ?_⟩
 rwa [zX al Gm,zX me Bc,zX (by omega) (by omega)] at ob
theorem AW.Xr (h:AW κ l a m b s e) (du:dh κ (b6 l a m)) (hR:dh κ (b6 l m b)) {k:Nat} (au:k+m=s+e) (τ:cz=kY l s m e):dh κ (b6 cz a s)∧dh κ (b6 cz s k)∧dh κ (b6 cz k e)∧dh κ (b6 cz e b)∧cz.length=l.length:=by
 obtain ⟨al,Gm,me,Bc,Vd,lo,ar⟩:=h;have lD:cz=l.take s++b6 l m e++(b6 l s m++l.drop e):=by rw [τ];unfold kY;simp only [aTX]
 have kO:cz=(l.take s++b6 l m e)++b6 l s m++l.drop e:=by rw [τ];unfold kY;simp only [aTX]
 obtain ⟨f1,f2,_,_,_⟩:=DZ (A:=l.take s) (B:=b6 l m e) (C:=b6 l s m++l.drop e) (a:=s) (b:=k) (by rw [aTD];omega) (by rw [aTD,m1 (by omega)];omega);obtain ⟨g1,_,g3,_,_⟩:=DZ (A:=l.take s++b6 l m e) (B:=b6 l s m) (C:=l.drop e) (a:=k) (b:=e) (by rw [aTE,aTD,m1 (by omega)];omega) (by rw [aTE,aTD,m1 (by omega),m1 (by omega)];omega);rw [← lD] at f1 f2;rw [← kO] at g1 g3;rw [← zX al Gm] at du;rw [← zX me Bc] at hR;obtain ⟨cF,a2,_⟩:=dh.app.1 du;obtain ⟨hL,dH,_⟩:=dh.app.1 hR;exact ⟨by rw [Z1 f2 (aTK _)];exact cF,by rw [f1];exact hL,by rw [g1];exact a2,by rw [Jh g3 (aTK _)];exact dH,by rw [τ];exact ala Gm me (by omega)⟩
end
def gm {α:Type} (l m:List α) (f:Nat→Nat):Prop:=m.length=l.length∧∀ k,k<l.length→m[k]? =l[f k]?
def pb (a b n k:Nat):Nat:=if a≤k∧k<a+n then b+(k - a) else if b≤k∧k<b+n then a+(k - b) else k
def jZ (a m b k:Nat):Nat:=if a≤k∧k<a+(b - m) then k+(m - a) else if a+(b - m)≤k∧k<b then k - (b - m) else k
section
variable {α:Type} {κ:α→Int} {l m r:List α} {a b c i j k n p q:Nat} {x y:α} {f g:Nat→Nat}
theorem gm.swap (h:gm l m f) (hp:p<l.length) (I:q<l.length) (hx:m[p]? =some x) (aF:m[q]? =some y) (aM:∀ k,k<l.length→g k=f (if k=q then p else if k=p then q else k)):gm l ((m.set p y).set q x) g:=by
 refine ⟨by rw [aTH,aTH];exact h.1,fun k au=> ?_⟩;have hm:=h.1;rw [aWC,aTH,aWC,aM k au];by_cases τ:q=k
 ·subst τ;rw [aTO rfl,aTO (by omega),aTO rfl,← h.2 p hp,hx]
 ·rw [aTL τ,aTL (show ¬ k=q from fun e=>τ e.symm)];by_cases ae:p=k
  ·subst ae;rw [aTO rfl,aTO (by omega),aTO rfl,← h.2 q I,aF]
  ·rw [aTL ae,aTL (show ¬ k=p from fun e=>ae e.symm)];exact h.2 k au
theorem gm.bg (h:∀ k,f k=k):gm l l f:=⟨rfl,fun k _=>by rw [h]⟩
theorem aF2:pb a b 0 k=k:=by unfold pb;rw [aTL (by omega),aTL (by omega)]
theorem gm.aF0 (h:gm l m (pb a b i)) (xt:a+n≤b) (ar:i<n) (γ:b+n≤l.length) (hx:m[a+i]? =some x) (aF:m[b+i]? =some y):gm l ((m.set (a+i) y).set (b+i) x) (pb a b (i+1)):=
 h.swap (by omega) (by omega) hx aF fun k au=>by unfold pb;(repeat' split)<;>omega
theorem aED:jZ a a b k=k:=by unfold jZ;(repeat' split)<;>omega
theorem aEE:jZ a b b k=k:=by unfold jZ;(repeat' split)<;>omega
theorem gm.ZM (h:gm l m (jZ a b c)) (τ:a≤b) (ae:b≤c) (aw:c≤l.length):m=kY l a b c:=by
 apply aUS;intro k;unfold kY;rcases aUt k l.length with au | au
 ·rw [h.2 k au];unfold jZ;have s1:(l.take a).length=a:=by rw [aTD];omega
  have s2:(b6 l b c).length=c - b:=m1 aw;have s8:(b6 l a b).length=b - a:=m1 (by omega);by_cases c1:k<a
  ·rw [aTL (by omega),aTL (by omega),aTR (by rw [aTE,aTE];omega),aTR (by rw [aTE];omega),aTR (by omega),aUf,aTO c1]
  ·by_cases c2:k<a+(c - b)
   ·rw [aTO ⟨by omega,c2⟩,aTR (by rw [aTE,aTE];omega),aTR (by rw [aTE];omega),aTU (by omega),s1];have:=Sw (l:=l) (a:=b) (b:=c) (i:=k - a+b) (by omega) (by omega);rw [show k - a+b - b=k - a by omega] at this;rw [this];congr 1;omega
   ·by_cases c3:k<c
    ·rw [aTL (by omega),aTO ⟨by omega,c3⟩,aTR (by rw [aTE,aTE];omega),aTU (by rw [aTE];omega),aTE,s1,s2];have:=Sw (l:=l) (a:=a) (b:=b) (i:=k - (c - b)) (by omega) (by omega);rw [← this];congr 1;omega
    ·rw [aTL (by omega),aTL (by omega),aTU (by rw [aTE,aTE];omega),aTE,aTE,s1,s2,s8,aUy];congr 1;omega
 ·rw [aUH (by rw [h.1];exact au),aUH];have:=ala τ ae aw;unfold kY at this;rw [this];exact au
def lK (l m:List α) (a b c i j:Nat):Prop:=m.length=l.length∧i≤b∧∀ k,k<l.length→l[jZ a b c k]? =m[jZ (b - i) b (b+j) k]?
theorem lK.start (τ:a≤b) (ae:b≤c):lK l l a b c (b - a) (c - b):=⟨rfl,by omega,fun k _=>by rw [show b - (b - a)=a by omega,show b+(c - b)=c by omega]⟩
theorem alb (h:k<n) (ha:a≤b) (γ:b≤c) (hc:c≤n):jZ a b c k<n:=by unfold jZ;(repeat' split)<;>omega
theorem lK.gt (h:lK l m a b c i j) (hr:gm m r (pb (b - i) b j)) (hl:j<i) (hc:b+j≤l.length):lK l r a b c (i - j) j:=by
 refine ⟨hr.1.trans h.1,by have:=h.2.1;omega,fun k au=> ?_⟩;have ar:=h.2.1;rw [h.2.2 k au,hr.2 _ (by rw [h.1];exact alb au (by omega) (by omega) hc)];congr 1;unfold jZ pb;(repeat' split)<;>omega
theorem lK.lt (h:lK l m a b c i j) (hr:gm m r (pb (b - i) (b+j - i) i)) (hl:i<j) (hc:b+j≤l.length):lK l r a b c i (j - i):=by
 refine ⟨hr.1.trans h.1,h.2.1,fun k au=> ?_⟩;have ar:=h.2.1;rw [h.2.2 k au,hr.2 _ (by rw [h.1];exact alb au (by omega) (by omega) (by omega))];congr 1;unfold jZ pb;(repeat' split)<;>omega
theorem lK.fin (h:lK l m a b c i i) (hr:gm m r (pb (b - i) b i)):gm l r (jZ a b c):=by
 refine ⟨hr.1.trans h.1,fun k au=> ?_⟩;have ar:=h.2.1;rw [h.2.2 k au,hr.2 k (by rw [h.1];exact au)];congr 1;unfold jZ pb;(repeat' split)<;>omega
theorem gm.up (h:gm l m (jZ a (a+1) (k+1))) (ha:a≤k) (au:k+1<l.length) (hx:m[k]? =some x) (aF:m[k+1]? =some y):gm l ((m.set k y).set (k+1) x) (jZ a (a+1) (k+2)):=
 h.swap (by omega) au hx aF fun j aA=>by unfold jZ;(repeat' split)<;>omega
theorem gm.as8 (h:gm l m (jZ (k+1) b (b+1))) (γ:k<b) (aC:b<l.length) (hx:m[k+1]? =some x) (aF:m[k]? =some y):gm l ((m.set (k+1) y).set k x) (jZ k b (b+1)):=
 h.swap (by omega) (by omega) hx aF fun j aA=>by unfold jZ;(repeat' split)<;>omega
theorem alK (h:l≠ []):∃ A u,l=A++ [u]:=⟨_,_,(List.dropLast_concat_getLast h).symm⟩
def qC (κ:α→Int) (l:List α) (a i j:Nat) (m:List α):Prop:=∃ A x B,m=l.take a++A++(x::B++l.drop (i+1))∧a+A.length=j∧j+B.length=i∧dh κ (A++B)∧(∀ y∈B,κ x<κ y)∧gG κ (b6 l a (i+1)) (A++x::B)
theorem qC.start (h:hJ κ l a i m) (ha:a≤i) (ar:i<l.length):qC κ l a i i m:=by
 obtain ⟨M,rfl,τ,ae,aw⟩:=h;refine ⟨M,l[i], [], ?_,by omega,by simp,by rw [aT6];exact ae,fun y aF=>by simp at aF, ?_⟩
 ·rw [aU2 ar];rfl
 ·have e:b6 l a (i+1)=b6 l a i++ [l[i]]:=by
   rw [← zX ha (Nat.le_succ i)];congr 1;unfold b6;rw [aU2 ar,show i+1 - i=1 by omega,aXa,aXT]
  rw [e];exact aw.app (gG.bg _)
theorem qC.len (h:qC κ l a i j m) (ha:a≤i) (ar:i<l.length):m.length=l.length:=by
 obtain ⟨A,x,B,rfl,τ,ae,_⟩:=h;simp only [aTE,aTI,aTD,aTW];omega
theorem aFf {X Y:List α}:((X++y::x::Y).set (X.length+1) y).set X.length x=X++x::y::Y:=by
 rw [aVs _ _ (by omega),aVs _ _ (by omega)];simp
theorem qC.step (h:qC κ l a i (j+1) m) (ha:a≤j) (ar:i<l.length) (hx:m[j+1]? =some x) (aF:m[j]? =some y) (bA:κ x<κ y):qC κ l a i j ((m.set (j+1) y).set j x):=by
 obtain ⟨A,z,B,rfl,τ,ae,aw,aU,bz⟩:=h;obtain ⟨A,u,rfl⟩:∃ bL u,A=bL++ [u]:=alK (fun e=>by rw [e] at τ;simp at τ;omega);rw [aTE,aUq] at τ;have e:l.take a++(A++ [u])++(z::B++l.drop (i+1))=(l.take a++A)++u::z::(B++l.drop (i+1)):=by simp
 have qa:(l.take a++A).length=j:=by rw [aTE,aTD];omega
 rw [e] at hx aF ⊢;rw [aTU (by omega),qa,show j+1 - j=1 by omega] at hx;rw [aTU (by omega),qa,show j - j=0 by omega] at aF;obtain rfl:z=x:=by simpa using hx
 obtain rfl:u=y:=by simpa using aF
 rw [← qa,aFf];obtain ⟨s1,s2,s8⟩:=dh.app.1 aw;obtain ⟨ZU,_,Je⟩:=dh.app.1 s1;refine ⟨A,z,u::B,by simp,by rw [aTE,aTD];omega,by rw [aTE,aTD,aTI];omega, ?_, ?_, ?_⟩
 ·rw [show A++u::B=(A++ [u])++B by simp];exact aw
 ·intro w hw;rcases aTZ.1 hw with rfl | hw
  ·exact bA
  ·exact aU w hw
 ·refine gG.nL bz ?_;rw [show (A++ [u])++z::B=A++([u]++ [z])++B by simp,show A++z::u::B=A++([z]++ [u])++B by simp];exact ((gG.bg A).app (gG.flip fun p hp q I=>by rw [aTz.1 hp,aTz.1 I];exact bA)).app (gG.bg B)
theorem qC.fin (h:qC κ l a i j m) (ha:a≤j) (ar:i<l.length) (hs:j=a∨∀ x y,m[j]? =some x→m[j - 1]? =some y→κ y≤κ x):hJ κ l a (i+1) m:=by
 obtain ⟨A,x,B,e,τ,ae,aw,aU,bz⟩:=h;refine ⟨A++x::B,by rw [e];simp,by rw [aTE,aTI];omega, ?_,bz⟩;obtain ⟨s1,s2,s8⟩:=dh.app.1 aw;have hA:∀ p∈A,κ p≤κ x:=by
  intro p hp;rcases hs with hs | hs
  ·rw [show A= [] from aT7 (by omega)] at hp;simp at hp
  ·obtain ⟨bL,u,rfl⟩:∃ bL u,A=bL++ [u]:=alK (fun e=>by rw [e] at hp;simp at hp);rw [aTE,aUq] at τ;have bb:m=(l.take a++bL)++u::x::(B++l.drop (i+1)):=by rw [e];simp
   have qa:(l.take a++bL).length=j - 1:=by rw [aTE,aTD];omega
   have:=hs x u (by rw [bb,aTU (by omega),qa,show j - (j - 1)=1 by omega];rfl) (by rw [bb,aTU (by omega),qa,show j - 1 - (j - 1)=0 by omega];rfl);rcases aTP.1 hp with hp | hp
   ·have:=(dh.app.1 s1).2.2 p hp u (aTz.2 rfl);omega
   ·rw [aTz.1 hp];exact this
 refine dh.app.2 ⟨s1,List.pairwise_cons.2 ⟨fun y aF=>aYn (aU y aF),s2⟩,fun p hp q I=> ?_⟩;rcases aTZ.1 I with rfl | I
 ·exact hA p hp
 ·exact s8 p hp q I
end
section
variable {α:Type} {κ:α→Int} {l cz iE xI:List α} {a b m s e c bX p k s0 r0 mid:Nat} {x y:α}
def EA (κ:α→Int) (l:List α) (p c:Nat):Prop:=∀ x y,l[c]? =some x→l[p - c]? =some y→κ x≤κ y
def Ex (κ:α→Int) (l:List α) (p c:Nat):Prop:=∀ x y,l[c]? =some x→l[p - c]? =some y→κ y<κ x
theorem get_some (h:k<l.length):∃ x,l[k]? =some x:=⟨_,aTF h⟩
theorem EA.mono (du:dh κ (b6 l a m)) (hR:dh κ (b6 l m b)) (γ:b≤l.length) (h:EA κ l p c) (τ:a≤bX) (ae:bX≤c) (aw:c<m) (aU:m+c≤p) (bz:p<b+bX):EA κ l p bX:=fun hg y' o0 vM=>by
 obtain ⟨x,hx⟩:=get_some (l:=l) (k:=c) (by omega);obtain ⟨y,aF⟩:=get_some (l:=l) (k:=p - c) (by omega);have gR:=du.at_ τ ae aw o0 hx;have ia:=hR.at_ (i:=p - c) (j:=p - bX) (by omega) (by omega) (by omega) aF vM;have sb:=h x y hx aF;omega
theorem Ex.mono (du:dh κ (b6 l a m)) (hR:dh κ (b6 l m b)) (γ:b≤l.length) (h:Ex κ l p c) (τ:a≤c) (ae:c≤bX) (aw:bX<m) (aU:m+bX≤p) (bz:p<b+c):Ex κ l p bX:=fun hg y' o0 vM=>by
 obtain ⟨x,hx⟩:=get_some (l:=l) (k:=c) (by omega);obtain ⟨y,aF⟩:=get_some (l:=l) (k:=p - c) (by omega);have gR:=du.at_ τ ae aw hx o0;have ia:=hR.at_ (i:=p - bX) (j:=p - c) (by omega) (by omega) (by omega) vM aF;have sb:=h x y hx aF;omega
theorem aC4 (du:dh κ (b6 l a m)) (hR:dh κ (b6 l m b)) (τ:a<m) (ae:m<b) (γ:b≤l.length) (hm:mid=(a+b) / 2) (aK:(mid<m∧s0=mid+m - b∧r0=mid)∨(m≤mid∧s0=a∧r0=m)) (aw:s0≤s) (aU:s≤r0) (aM:∀ c,s0≤c→c<s→EA κ l (mid+m - 1) c) (hd:∀ c,s≤c→c<r0→Ex κ l (mid+m - 1) c):AW κ l a m b s (mid+m - s):=by
 refine ⟨by omega,by omega,by omega,by omega,γ,fun i j x y i1 i2 p2 ob hx aF=> ?_,fun i j x y i1 i2 p2 ob hx aF=> ?_⟩
 ·obtain ⟨hg,o0⟩:=get_some (l:=l) (k:=s - 1) (by omega);obtain ⟨y',vM⟩:=get_some (l:=l) (k:=mid+m - s) (by omega);have gR:=du.at_ i1 (show i≤s - 1 by omega) (by omega) hx o0;have ia:=hR.at_ (i:=mid+m - s) (j:=j) (by omega) p2 ob vM aF;have sb:=aM (s - 1) (by omega) (by omega) hg y' o0 (by rw [show mid+m - 1 - (s - 1)=mid+m - s by omega];exact vM);omega
 ·obtain ⟨hg,o0⟩:=get_some (l:=l) (k:=s) (by omega);obtain ⟨y',vM⟩:=get_some (l:=l) (k:=mid+m - s - 1) (by omega);have gR:=du.at_ (i:=s) (j:=i) (by omega) i1 i2 o0 hx;have ia:=hR.at_ (i:=j) (j:=mid+m - s - 1) p2 (by omega) (by omega) aF vM;have sb:=hd s (aTK _) (by omega) hg y' o0 (by rw [show mid+m - 1 - s=mid+m - s - 1 by omega];exact vM);omega
theorem AW.alq (h:AW κ l a m b s e) (au:k+m=s+e) (τ:cz=kY l s m e):b6 cz a s=b6 l a s∧b6 cz s k=b6 l m e∧b6 cz k e=b6 l s m∧b6 cz e b=b6 l e b:=by
 obtain ⟨al,Gm,me,Bc,Vd,lo,ar⟩:=h;have lD:cz=l.take s++b6 l m e++(b6 l s m++l.drop e):=by rw [τ];unfold kY;simp only [aTX]
 have kO:cz=(l.take s++b6 l m e)++b6 l s m++l.drop e:=by rw [τ];unfold kY;simp only [aTX]
 obtain ⟨f1,f2,_,_,_⟩:=DZ (A:=l.take s) (B:=b6 l m e) (C:=b6 l s m++l.drop e) (a:=s) (b:=k) (by rw [aTD];omega) (by rw [aTD,m1 (by omega)];omega);obtain ⟨g1,_,g3,_,_⟩:=DZ (A:=l.take s++b6 l m e) (B:=b6 l s m) (C:=l.drop e) (a:=k) (b:=e) (by rw [aTE,aTD,m1 (by omega)];omega) (by rw [aTE,aTD,m1 (by omega),m1 (by omega)];omega);rw [← lD] at f1 f2;rw [← kO] at g1 g3;exact ⟨Z1 f2 (aTK _),f1,g1,Jh g3 (aTK _)⟩
theorem aBS (hR:dh κ (b6 l m b)) (hm:m=a+1) (ae:m<b) (γ:b≤l.length) (aw:m≤e) (aU:e≤b) (hx:l[a]? =some x) (bz:∀ j y,m≤j→j<e→l[j]? =some y→κ y<κ x) (cb:∀ j y,e≤j→j<b→l[j]? =some y→κ x≤κ y) (τ:cz=kY l a m e):hJ κ l a b cz:=by
 have du:dh κ (b6 l a m):=by
  have n:=m1 (l:=l) (a:=a) (b:=m) (by omega)
  match hs:b6 l a m,n with
  | [z],_=>exact aWI _ _
  | [],n=>simp at n;omega
  | _::_::_,n=>simp at n;omega
 have hp:AW κ l a m b a e:=⟨aTK _,by omega,aw,aU,γ,fun i j x y i1 i2=>by omega,fun i j hg y i1 i2 p2 ob o0 aF=>by
  obtain rfl:i=a:=by omega
  rw [hx] at o0;obtain rfl:=aTA o0;exact bz j y p2 ob aF⟩
 obtain ⟨k,au⟩:∃ k,k+m=a+e:=⟨a+e - m,by omega⟩;obtain ⟨_,f2,f3,f4⟩:=hp.alq au τ;obtain ⟨_,r2,se,ZE,aEc⟩:=hp.Xr du hR au τ;refine hp.merge du hR au τ (.bg (by omega) (by omega) r2) (.bg (by omega) (by omega) ?_);rw [← zX (b:=e) (by omega) aU];refine dh.app.2 ⟨se,ZE,fun u hu v hv=> ?_⟩;rw [f3] at hu;rw [f4] at hv;obtain ⟨i,i1,i2,i3⟩:=BV hu;obtain ⟨j,p2,ob,Bw⟩:=BV hv;obtain rfl:i=a:=by omega
 rw [hx] at i3;obtain rfl:=aTA i3;exact cb j v p2 ob Bw
theorem aBR (du:dh κ (b6 l a m)) (hm:b=m+1) (ae:a<m) (γ:b≤l.length) (aw:a≤s) (aU:s≤m) (aF:l[m]? =some y) (bz:∀ j x,a≤j→j<s→l[j]? =some x→κ x≤κ y) (cb:∀ j x,s≤j→j<m→l[j]? =some x→κ y<κ x) (τ:cz=kY l s m b):hJ κ l a b cz:=by
 have hR:dh κ (b6 l m b):=by
  have n:=m1 (l:=l) (a:=m) (b:=b) (by omega)
  match hs:b6 l m b,n with
  | [z],_=>exact aWI _ _
  | [],n=>simp at n;omega
  | _::_::_,n=>simp at n;omega
 have hp:AW κ l a m b s b:=⟨aw,aU,by omega,aTK _,γ,fun i j x y i1 i2 p2 ob=>by omega,fun i j hg y' i1 i2 p2 ob o0 vM=>by
  obtain rfl:j=m:=by omega
  rw [aF] at vM;obtain rfl:=aTA vM;exact cb i hg i1 i2 o0⟩
 obtain ⟨k,au⟩:∃ k,k+m=s+b:=⟨s+b - m,by omega⟩;obtain ⟨f1,f2,f3,_⟩:=hp.alq au τ;obtain ⟨r1,r2,se,_,aEc⟩:=hp.Xr du hR au τ;refine hp.merge du hR au τ (.bg (by omega) (by omega) ?_) (.bg (by omega) (by omega) se);rw [← zX (b:=s) aw (by omega)];refine dh.app.2 ⟨r1,r2,fun u hu v hv=> ?_⟩;rw [f1] at hu;rw [f2] at hv;obtain ⟨i,i1,i2,i3⟩:=BV hu;obtain ⟨j,p2,ob,Bw⟩:=BV hv;obtain rfl:j=m:=by omega
 rw [aF] at Bw;obtain rfl:=aTA Bw;exact bz i u i1 i2 i3
def aJo (κ:α→Int) (l:List α) (q n:Nat):Prop:=∀ k,k * q<n→dh κ (b6 l (k * q) (min ((k+1) * q) n))
def aJn (κ:α→Int) (l:List α) (q n a:Nat):Prop:=(∃ t,a=t * (2 * q))∧(∀ k,(k+1) * (2 * q)≤a→dh κ (b6 l (k * (2 * q)) ((k+1) * (2 * q))))∧∀ k,a≤k * q→k * q<n→dh κ (b6 l (k * q) (min ((k+1) * q) n))
end
end
section
open Go.Proofs.YtmeeljmapailnaaGreat.ey
def fR (c:bI):Int:= -(min (max c.o.by_ (-1)) 9)
def gp {α:Type} (R:aa α) (e by_:Nat) (w:World) (B:Nat) (b1:Option Addr) (bo:Nat) (dt eb:List α) (A:Option Addr) (c:Nat) (l:List α):Prop :=
 R.aH e by_ w B (aa.aj b1) b1 bo (dt++l++eb)∧A=eB b1 bo dt.length R.size∧c=bo - dt.length
section
variable {α:Type} {R:aa α} {e by_ B bo c:Nat} {w w':World} {b1 A:Option Addr} {dt eb l:List α}
theorem gp.has (h:gp R e by_ w B b1 bo dt eb A c l):R.aG by_ w A c l:=by
 obtain ⟨τ,rfl,rfl⟩:=h;have:=τ.has.sub dt.length (dt.length+l.length) (by omega) (by rw [aTE,aTE];omega)
 rwa [aTX,aWu,show dt.length+l.length - dt.length=l.length by omega,aVC] at this
theorem gp.lt (h:gp R e by_ w B b1 bo dt eb A c l):∀ q∈aa.aj b1,B≤q∧q<w.heap.size:=h.1.lt
theorem gp.later (h:gp R e by_ w B b1 bo dt eb A c l) (x:Ext w w'):gp R e by_ w' B b1 bo dt eb A c l:=⟨h.1.later x,h.2⟩
end
section
variable {P:Program} {n:Nat} {E:List (Nat×Value)} {Q:Exit→Act→World→Prop} {w:World} {ops:Array Oper} {v:Value}
variable {d:Option Nat} {ty:TypeId} {pos:String} {af:Array Edge} {g:Option (Nat×Bool)} {x y z:Operand} {t u:TypeId} {rest:List Oper}
theorem D1 {α:Type} {R:aa α} {e by_ B i bo:Nat} {b1 A:Option Addr} {c:Nat} {dt eb l:List α} {q':α} {p:Addr} {es:List Value} (h:gp R e by_ w B b1 bo dt eb A c l) (hR:R.re) (ar:i<l.length) (hx:ev E x=some (.pointer (some p))) (hp:p=⟨eV A,kz A+i * R.size,none⟩) (aF:ev E y=some v) (hc:v.cells=es.toArray)
  (I:∀ w,R.has w es q') (hs:eK P t es.length)
  (au:∀ aS,Mod (aa.aj b1) w aS→gp R e by_ aS B b1 bo dt eb A c (l.set i q')→cy P n ops Q rest E aS):cy P n ops Q (⟨none, .store t x y,ty,pos,af,none⟩::rest) E w:=by
 obtain ⟨τ,ae,aw⟩:=h;have hlen:(dt++l++eb).length=dt.length+l.length+eb.length:=by rw [aTE,aTE]
 have axD:=τ.has.1;obtain ⟨b,γ⟩:=τ.block (by omega);refine Gn (i:=dt.length+i) τ hR (by omega) hx ?_ aF hc I hs λ aS m aU=>au aS m ⟨?_,ae,aw⟩
 ·rw [hp,ae,γ];unfold eB;rw [aTL (by omega)];simp only [eV,kz,Addr.add,aU6,aU9];simp
  constructor<;>split<;>simp_all
 ·have e:(dt++l++eb).set (dt.length+i) q'=dt++l.set i q'++eb:=by
   rw [aTX,aVs _ _ (by omega),show dt.length+i - dt.length=i by omega,aYu _ _ ar,aTX]
  rw [e] at aU;exact aU
theorem Wo {aT:Nat→Nat} {bV:List Nat} {w0:World} {i:Nat} {d:Nat} {f:FuncId} {xs:Array Operand} {ts:Array TypeId} {args xb:List Value} (ar:ops[i]? =some ⟨some d, .call {callee:= .value x,args:=xs,argTypes:=ts},ty,pos,af,none⟩) (au:aT i=0) (hf:Enters P f) (hx:ev E x=some (.func (.func f) #[] xb.toArray)) (he:gX E xs.toList=some args)
  (hr:∀ w,Ext w0 w→Calls P f (args++xb).toArray w λ e w'=>e= .returned v∧Ext w w') (hd:Nat.blt d n=true)
  (h:fM P n ops Q aT bV ((d,v)::E) w0):fM P n ops Q aT (i::bV) E w0:=λ a ha =>
 ⟨_,ar, .inl ⟨au,v, .inl ⟨Aj rfl,λ w hw=>by rw [ZP hf ha hx he];exact ⟨rfl,hr w hw⟩⟩,h _ (ha.put hd v)⟩⟩
theorem avB {aT:Nat→Nat} {bV:List Nat} {w0:World} {i:Nat} {d:Nat} {f:FuncId} {xs:Array Operand} {ts:Array TypeId} {args xb:List Value} {j:Nat} {q b c:Bool} {dc:Oper} {ik:Nat} (ar:ops[i]? =some ⟨some d, .call {callee:= .value x,args:=xs,argTypes:=ts},ty,pos,af,some (j,q)⟩) (au:aT i=0) (aA:ops[j]? =some dc) (mb:dc.dst=some ik) (γ:look E ik=some (.bool b)) (hc:(b == q)=c)
  (hf:Enters P f) (hx:c=true→ev E x=some (.func (.func f) #[] xb.toArray)) (he:c=true→gX E xs.toList=some args)
  (hr:c=true→∀ w,Ext w0 w→Calls P f (args++xb).toArray w λ e w'=>e= .returned v∧Ext w w') (hd:Nat.blt d n=true)
  (h:fM P n ops Q aT bV ((d,fO c v)::E) w0):fM P n ops Q aT (i::bV) E w0:=λ a ha=>by
 have hw:=B9 (o:=⟨some d, .call {callee:= .value x,args:=xs,argTypes:=ts},ty,pos,af,some (j,q)⟩) rfl aA mb γ ha;rw [hc] at hw;refine ⟨_,ar, .inl ⟨au,fO c v, ?_,h _ (ha.put hd _)⟩⟩;cases c with
 | true=>exact .inl ⟨hw,λ w o0=>by rw [ZP hf ha (hx rfl) (he rfl)];exact ⟨rfl,hr rfl w o0⟩⟩
 | false=>exact .inr ⟨hw,rfl⟩
theorem C3 {src dst:TypeId} {k k':IntKind} {i r:Int} (hr:∀ w,(convert src dst (.int k i)).run P w= .ok (.int k' (k'.wrap i)) w) (h:k'.wrap i=r) (hx:ev E x=some (.int k i)):
  cQ P E ⟨d, .convert src dst x,ty,pos,af,g⟩ w (.int k' r) w:=λ n a ha=>by
 subst h;simp only [execOp,ha.ev hx,aTQ,hr w,aTJ,aTV]
theorem S5 {i:Int} (h:0≤i) (ae:i<18446744073709551616):IntKind.u64.wrap i=i:=by simp [IntKind.wrap,IntKind.signed,IntKind.bits];omega
theorem Sy {i:Int} {k k':IntKind} (hx:ev E x=some (.int k i)) (aF:ev E y=some (.int k' 1)) (hm:1≤k.bits):cQ P E ⟨d, .binOp .shr t x y u,ty,pos,af,g⟩ w (.int k (i / 2)) w:=oq hx aF (by rfl:binOp .shr t (.int k i) (.int k' 1)=Op.shift .shr k i k' 1) (by
 unfold Op.shift;rw [aTL (by omega)];show (pure (Value.int k (i.fdiv (2 ^ min (1:Int).toNat k.bits))):Sem Value).run _ _=_;rw [show (1:Int).toNat=1 from rfl,aUJ hm,aXY _ (by decide)];rfl)
def ab6 (n:Nat) (iz:List (Nat×Value)→World→Prop):Act→World→Prop:=λ a w=>∃ cO,iz cO w∧eD n cO a
theorem SC {x y:Code} (iz:List (Nat×Value)→World→Prop) (τ:W P n x (Exit.then (ab6 n iz) Q) E w) (ae:∀ E w,iz E w→W P n y Q E w):W P n (.seq x y) Q E w:=λ a ha=>wp_seq (aYA (τ a ha) λ e a w h=>by
 cases e with
 | normal=>obtain ⟨cO,oU,hA⟩:=h;exact ae cO w oU a hA
 | _=>exact h)
theorem DS {iz:List (Nat×Value)→World→Prop} (cO:List (Nat×Value)) (h:iz cO w) (hs:Sub cO E):N n (Exit.then (ab6 n iz) Q) E w:=λ a ha=>⟨cO,h,ha.sub hs⟩
end
section
variable {α:Type} {κ:α→Int} {l m r:List α} {a b c i j k p q:Nat}
theorem lK.aFK {x y:Nat} (hx:x=b - a) (aF:y=c - b) (τ:a≤b) (ae:b≤c):lK l l a b c x y:=by subst hx;subst aF;exact lK.start τ ae
theorem lK.awy {x y z:Nat} (h:lK l m a b c i j) (hr:gm m r (pb x y z)) (hx:x=b - i∧y=b∧z=j) (hl:j<i) (hc:b+j≤l.length) {Mg:Nat} (xy:Mg=i - j):lK l r a b c Mg j:=by
 obtain ⟨rfl,rfl,rfl⟩:=hx;subst xy;exact h.gt hr hl hc
theorem lK.YU {x y z:Nat} (h:lK l m a b c i j) (hr:gm m r (pb x y z)) (hx:x=b - i∧y=b+j - i∧z=i) (hl:i<j) (hc:b+j≤l.length) {zE:Nat} (FE:zE=j - i):lK l r a b c i zE:=by
 obtain ⟨rfl,rfl,rfl⟩:=hx;subst FE;exact h.lt hr hl hc
theorem lK.Wp {x y z:Nat} (h:lK l m a b c i i) (hr:gm m r (pb x y z)) (hx:x=b - i) (aF:y=b∧z=i):gm l r (jZ a b c):=by
 obtain ⟨rfl,rfl⟩:=aF;subst hx;exact h.fin hr
theorem hJ.one (h:b=a+1) (γ:a<l.length):hJ κ l a b l:=by
 subst h;refine .bg (Nat.le_succ a) γ ?_;have n:=m1 (l:=l) (a:=a) (b:=a+1) γ
 match hs:b6 l a (a+1),n with
 | [z],_=>exact aWI _ _
 | [],n=>simp at n
 | _::_::_,n=>simp at n
end
section
variable {α:Type} [Inhabited α] {κ:α→Int} {l m r:List α} {a b c i j k p q:Nat}
theorem gm.aF1 (h:gm l m (pb a b i)) (hp:p=a+i) (I:q=b+i) (aA:j=i+1) (xt:a+k≤b) (ar:i<k) (γ:b+k≤l.length):gm l ((m.set p (m.getD q default)).set q (m.getD p default)) (pb a b j):=by
 subst hp;subst I;subst aA;have hm:=h.1;exact h.aF0 xt ar γ (cA (u:=default) (by omega)) (cA (u:=default) (by omega))
theorem qC.aFN {zE:Nat} (h:qC κ l a i j m) (ha:a<j) (ar:i<l.length) (aC:m.length=l.length) (hO:j≤i) (hp:p=j) (I:q+1=j∧zE=q) (bA:κ (m.getD p default) - κ (m.getD q default)<0):qC κ l a i zE ((m.set p (m.getD q default)).set q (m.getD p default)):=by
 obtain ⟨rfl,rfl⟩:=I;subst hp;exact h.step (by omega) ar (cA (u:=default) (by omega)) (cA (u:=default) (by omega)) (by omega)
theorem qC.Wp {a' zE:Int} (h:qC κ l a i j m) (hs:zE≤a'∨0≤κ (m.getD p default) - κ (m.getD q default)) (ha:a≤j∧j≤i) (ar:i<l.length∧m.length=l.length) (I:(zE≤a'→j=a)∧p=j∧(a<j→q+1=j)) (Mg:Nat) (xy:Mg=i+1):hJ κ l a Mg m:=by
 obtain ⟨ar,aC⟩:=ar;obtain ⟨azc,rfl,ahs⟩:=I;subst xy;refine h.fin ha.1 ar ?_;by_cases τ:p=a
 ·exact .inl τ
 ·right;intro x y hx aF;have bA:a<p:=by omega
  have vK:=ahs bA;rcases hs with hs | hs
  ·exact absurd (azc hs) τ
  ·have aY:m.getD p default=x:=by rw [aTB,hx];rfl
   have bb:m.getD q default=y:=by rw [aTB,show q=p - 1 by omega,aF];rfl
   rw [aY,bb] at hs;omega
end
theorem PQ (p q:bI) (w:World):
  Calls prog 17 #[.agg #[J p.kind,J p.o.by_,J p.o.kind,J p.o.aW,J p.o.spot.x,J p.o.spot.y,J p.o.what,J p.by_,J p.sat], .agg #[J q.kind,J q.o.by_,J q.o.kind,J q.o.aW,J q.o.spot.x,J q.o.spot.y,J q.o.what,J q.by_,J q.sat]] w (λ e w'=>e= .returned (J (fR p - fR q))∧Ext w w'):=by
 refine b' (n:=16) func17 Z Z Z ?_;refine ah<|ck Z Z Z Z λ cK bR bq dU ai=> ?_;have ba:=ab (Ext.bg w) bq;refine ck Z Z Z Z λ ea cC br gO ax=> ?_;have bE:=ab ba br;refine va Z<|ag<|ah<|Φ (av VZ Z)<|Φ (av rB Z)<|Φ (ao Z (ax.one a6 Z))<|Φ (mx Z Z)<|Φ (mY Z Z)<|Φ (av VZ Z)<|Φ (av rB Z)<| ?_;have ai:=ai.later br;refine Φ (ao Z (ai.one a6 Z))<|Φ (mx Z Z)<|Φ (mY Z Z)<|Φ (gh Z Z (bf (by omega)))<|va Z<|ag<|rt<|aV (.tmp Z .nil)<| ?_;exact ⟨by rw [show fR p - fR q=(min (max q.o.by_ (-1)) 9) - (min (max p.o.by_ (-1)) 9) by unfold fR;omega];rfl,bE⟩
theorem aag (b1 A:Option Addr) (bo c n aE:Nat) (dt eb l:List bI) (a b k:Int) (w:World) (aX:gp bI.rep 71 72 w aE b1 bo dt eb A c (l)) (hn:l.length=n) (ha:0≤a) (au:0≤k) (xt:a+k≤b) (γ:b+k≤(n:Int)):
  Calls prog 147 #[.slice A n c,J a,J b,J k, .func (.func 17) #[] #[]] w (λ e w'=>∃ m:List bI,e= .returned (.tuple #[])∧gm l m (pb a.toNat b.toNat k.toNat)∧gp bI.rep 71 72 w' aE b1 bo dt eb A c (m)∧Mod (aa.aj b1) w w'):=by
 have LP:=aX.has.eZ;have Q8:=aX.has.2.2.1;refine b' (n:=38) func147 Z Z Z ?_;refine ah<|va Z<|ag<|bu<| ?_;refine dx (λ bZ bS aL=>∃ dy:List bI,∃ i:Int,bS= [(0, .slice A n c),(1,J a),(2,J b),(3,J k),(10,J i)]∧bZ=(k - i).toNat∧Mod (aa.aj b1) w aL∧gp bI.rep 71 72 aL aE b1 bo dt eb A c (dy)∧(gm l dy (pb a.toNat b.toNat i.toNat))∧(0≤i)∧(i≤k)) _ _ ⟨l,0,Z,Z,(Mod.bg (aa.aj b1) w),aX,gm.bg λ _=>aF2,by omega,by omega⟩ (hB Z) ?_;rintro r3 rf iH ⟨dy,i,rfl,rfl,b9,oG,hR,X6,X7⟩;have FF:=hR.1;have FJ:=bI.k_ oG.has;refine ay<|ah<|vm Z<|vm Z<|Φ (blt Z Z)<|ag<| ?_;refine df Z (λ ud=> ?_) (λ ud=> ?_)
 ·refine bl<|ay<|bu<| ?_;refine cR [(13,0),(19,0),(21,3),(23,3)] [0,1,2,3,4,5,6,7,8,9,10,11,12,13,14,15,16,17,18,19,20,21,22,23] ?_;refine a1 Z Z<|a1 Z Z<|a1 Z Z<|aB Z (λ _=>bad Z Z (bf (by omega)))<|a1 Z Z<|a1 Z Z<|a1 Z Z<|aB Z (λ _=>bad Z Z (bf (by omega)))<|a1 Z Z<|a1 Z Z<|a1 Z Z<|aB Z (λ _=>bad Z Z (bf (by omega)))<|aB Z (λ _=>bT ((b+i).toNat) underlying29 dR Z Z (oG.has.bs (aO ((b+i).toNat))) (by omega) (by omega))<|bx Z (λ _ x=>ao Z (aa.aG.er nw ((oG.later x).has.cg (aO ((b+i).toNat))) (cA (l:=dy) (u:=default) (by omega)) l' dR))<|a1 Z Z<|a1 Z Z<|a1 Z Z<|aB Z (λ _=>bad Z Z (bf (by omega)))<|aB Z (λ _=>bT ((a+i).toNat) underlying29 dR Z Z (oG.has.bs (aO ((a+i).toNat))) (by omega) (by omega))<|bx Z (λ _ x=>ao Z (aa.aG.er nw ((oG.later x).has.cg (aO ((a+i).toNat))) (cA (l:=dy) (u:=default) (by omega)) l' dR))<|aB Z (λ _=>bT ((a+i).toNat) underlying29 dR Z Z (oG.has.bs (aO ((a+i).toNat))) (by omega) (by omega))<|eg Z Z Z λ ea cZ Q hK=>D1 (q':=dy.getD ((b+i).toNat) default) (i:=((a+i).toNat)) (oG.later cZ) aa.dj (by omega) Z Z Z Z (λ _=>⟨Z,FJ _ (gP (by omega))⟩) dR λ NJ ajP O5=>hK _ _ ?_;have bE:=b9.trans (Mod.bt cZ);have tB:=bE.md ajP (λ q I=> .inl I);refine aB Z (λ _=>bT ((b+i).toNat) underlying29 dR Z Z (O5.has.bs (aO ((b+i).toNat) (by first | omega | (rw [aTH];omega)))) (by omega) (by first | omega | (rw [aTH];omega)))<|eg Z Z Z λ wk cI Q hK=>D1 (q':=dy.getD ((a+i).toNat) default) (i:=((b+i).toNat)) (O5.later cI) aa.dj (by first | omega | (rw [aTH];omega)) Z Z Z Z (λ _=>⟨Z,FJ _ (gP (by omega))⟩) dR λ ow o6 UD=>hK _ _ ?_;have km:=tB.trans (Mod.bt cI);have fD:=km.md o6 (λ q I=> .inl I);refine fn λ q2 gS=> ?_;have iM:=fD.trans (Mod.bt gS);refine bU<|aP<|rg<|vm Z<|Φ (bad Z Z (bf (by omega)))<|va Z<|nl<| ?_;have UD:=UD.later gS;exact cD _ _ ⟨((dy).set ((a+i).toNat) (dy.getD ((b+i).toNat) default)).set ((b+i).toNat) (dy.getD ((a+i).toNat) default),i+1,Z,Z,iM,UD,hR.aF1 (k:=k.toNat) (by omega) (by omega) (by omega) (by omega) (by omega) (by omega),by omega,by omega⟩ (by omega) (.cons Z (.cons Z (.cons Z (.cons Z (.cons (bH Z) .nil)))))
 ·refine cV<|cU<|c'<|cT<|ne<|aV .nil<| ?_;have Ff:i=k:=by omega
  rw [Ff] at hR;exact ⟨_,Z,hR,oG,b9⟩
theorem aEu (b1 A:Option Addr) (bo c n aE:Nat) (dt eb l:List bI) (a x b:Int) (w:World) (aX:gp bI.rep 71 72 w aE b1 bo dt eb A c (l)) (hn:l.length=n) (ha:0≤a) (ug:a<x) (IB:x<b) (γ:b≤(n:Int)):
  Calls prog 114 #[.slice A n c,J a,J x,J b, .func (.func 17) #[] #[]] w (λ e w'=>∃ m:List bI,e= .returned (.tuple #[])∧m=kY l a.toNat x.toNat b.toNat∧gp bI.rep 71 72 w' aE b1 bo dt eb A c (m)∧Mod (aa.aj b1) w w'):=by
 have LP:=aX.has.eZ;have Q8:=aX.has.2.2.1;refine b' (n:=58) func114 Z Z Z ?_;refine ah<|vm Z<|vm Z<|Φ (gh Z Z (bf (by omega)))<|va Z<|ag<|ah<|vm Z<|vm Z<|Φ (gh Z Z (bf (by omega)))<|va Z<|ag<|ay<|bu<| ?_;refine dx (λ bZ bS aL=>∃ dy:List bI,∃ i:Int,∃ j:Int,bS= [(0, .slice A n c),(2,J x),(4, .func (.func 17) #[] #[]),(10,J i),(11,J j)]∧bZ=(i+j).toNat∧Mod (aa.aj b1) w aL∧gp bI.rep 71 72 aL aE b1 bo dt eb A c (dy)∧(lK l dy a.toNat x.toNat b.toNat i.toNat j.toNat)∧(1≤i)∧(1≤j)∧(a≤x - i)∧(x+j≤b)) _ _ ⟨l,x - a,b - x,Z,Z,(Mod.bg (aa.aj b1) w),aX,lK.aFK (by omega) (by omega) (by omega) (by omega),by omega,by omega,by omega,by omega⟩ (.cons Z (.cons Z (.cons Z (.cons (bH Z) (.cons (bH Z) .nil))))) ?_;rintro r3 rf iH ⟨dy,i,j,rfl,rfl,b9,oG,hR,X6,X7,ay5,aN5⟩;have FF:=hR.1;refine ay<|ah<|vm Z<|vm Z<|Φ (bne Z Z)<|ag<| ?_;refine ee Z (λ ud=> ?_) (λ ud=> ?_)
 ·refine bl<|bu<|ah<|vm Z<|vm Z<|Φ (hM Z Z)<|ag<| ?_;refine df Z (λ oW=> ?_) (λ oW=> ?_)
  ·refine ah<|vm Z<|vm Z<|vm Z<|Φ (gh Z Z (bf (by omega)))<|vm Z<|vm Z<|vm Z<|ca V3 Z Z ((aag b1 A bo c n aE dt eb dy (x - i) x j _ oG (by first | omega | (simp only [aTH];omega)) (by omega) (by omega) (by omega) (by omega)).mono ?_);rintro e td ⟨aBs,rfl,aEd,apn,MR⟩;refine ⟨_,Z, ?_⟩;have jA:=b9.md MR (λ q I=> .inl I);refine ag<|rg<|vm Z<|vm Z<|Φ (gh Z Z (bf (by omega)))<|va Z<|nl<|bU<| ?_;exact cD _ _ ⟨aBs,i - j,j,Z,Z,jA,apn,hR.awy aEd (by omega) (by omega) (by omega) (by omega),by omega,by omega,by omega,by omega⟩ (by omega) (.cons Z (.cons Z (.cons Z (.cons (bH Z) (hB Z)))))
  ·refine ah<|vm Z<|vm Z<|vm Z<|Φ (gh Z Z (bf (by omega)))<|vm Z<|vm Z<|Φ (bad Z Z (bf (by omega)))<|vm Z<|Φ (gh Z Z (bf (by omega)))<|vm Z<|vm Z<|ca V3 Z Z ((aag b1 A bo c n aE dt eb dy (x - i) ((x+j) - i) i _ oG (by first | omega | (simp only [aTH];omega)) (by omega) (by omega) (by omega) (by omega)).mono ?_);rintro e gJ ⟨aBp,rfl,aEa,api,MU⟩;refine ⟨_,Z, ?_⟩;have cJ:=b9.md MU (λ q I=> .inl I);refine ag<|rg<|vm Z<|vm Z<|Φ (gh Z Z (bf (by omega)))<|va Z<|nl<|bU<| ?_;exact cD _ _ ⟨aBp,i,j - i,Z,Z,cJ,api,hR.YU aEa (by omega) (by omega) (by omega) (by omega),by omega,by omega,by omega,by omega⟩ (by omega) (.cons Z (.cons Z (.cons Z (.cons Z (.cons (bH Z) .nil)))))
 ·refine cV<|cU<|c'<|cT<|aP<|rg<|vm Z<|vm Z<|vm Z<|Φ (gh Z Z (bf (by omega)))<|vm Z<|vm Z<|vm Z<|ca V3 Z Z ((aag b1 A bo c n aE dt eb dy (x - i) x i _ oG (by first | omega | (simp only [aTH];omega)) (by omega) (by omega) (by omega) (by omega)).mono ?_);rintro e B6 ⟨aPR,rfl,aEb,apj,BG⟩;refine ⟨_,Z, ?_⟩;have oA:=b9.md BG (λ q I=> .inl I);refine nl<|ne<|aV .nil<| ?_;have Ff:j=i:=by omega
  subst Ff;exact ⟨_,Z,((hR.Wp aEb (by omega) (by omega)).ZM (by omega) (by omega) (by omega)),apj,oA⟩
theorem ahR (b1 A:Option Addr) (bo c n aE:Nat) (dt eb l:List bI) (a b:Int) (w:World) (aX:gp bI.rep 71 72 w aE b1 bo dt eb A c (l)) (hn:l.length=n) (ha:0≤a) (xt:a≤b) (γ:b≤(n:Int)):
  Calls prog 68 #[.slice A n c,J a,J b, .func (.func 17) #[] #[]] w (λ e w'=>∃ m:List bI,e= .returned (.tuple #[])∧hJ fR l a.toNat b.toNat m∧gp bI.rep 71 72 w' aE b1 bo dt eb A c (m)∧Mod (aa.aj b1) w w'):=by
 have LP:=aX.has.eZ;have Q8:=aX.has.2.2.1;refine b' (n:=53) func68 Z Z Z ?_;refine ah<|vm Z<|Φ (bad Z Z (bf (by omega)))<|va Z<|ag<|bu<| ?_;refine dx (λ bZ bS aL=>∃ dy:List bI,∃ i:Int,bS= [(0, .slice A n c),(1,J a),(2,J b),(3, .func (.func 17) #[] #[]),(8,J i)]∧bZ=(b - i).toNat∧Mod (aa.aj b1) w aL∧gp bI.rep 71 72 aL aE b1 bo dt eb A c (dy)∧(i≤b→hJ fR l a.toNat i.toNat dy)∧(a=b→dy=l)∧(a+1≤i)∧(i≤b∨a=b)) _ _ ⟨l,a+1,Z,Z,(Mod.bg (aa.aj b1) w),aX,λ _=>hJ.one (by omega) (by omega),λ _=>Z,by omega,by omega⟩ (.cons Z (.cons Z (.cons Z (.cons Z (.cons (bH Z) .nil))))) ?_;rintro r3 rf iH ⟨dy,i,rfl,rfl,b9,oG,hR,jV,X6,X7⟩;refine ay<|ah<|vm Z<|vm Z<|Φ (blt Z Z)<|ag<| ?_;refine df Z (λ ud=> ?_) (λ ud=> ?_)
 ·have af2:=hR (by omega);have FF:=af2.len (by omega) (by omega);refine bl<|ay<|bu<|ah<|vm Z<|va Z<|ag<|bu<| ?_;refine dx (λ bZ bS aL=>∃ p6:List bI,∃ j:Int,bS= [(0, .slice A n c),(1,J a),(2,J b),(3, .func (.func 17) #[] #[]),(8,J i),(9,J j),(12,J i),(13,J b),(14, .bool (decide (i<b))),(17,J i)]∧bZ=(j - a).toNat∧Mod (aa.aj b1) w aL∧gp bI.rep 71 72 aL aE b1 bo dt eb A c (p6)∧(qC fR l a.toNat i.toNat j.toNat p6)∧(a≤j)∧(j≤i)) _ _ ⟨dy,i,Z,Z,b9,oG,qC.start af2 (by omega) (by omega),by omega,by omega⟩ (hB Z) ?_;rintro MR aoh tk ⟨p6,j,rfl,rfl,jC,pD,sR,aNY,aN2⟩;have aNv:=sR.len (by omega) (by omega);have ahd:=bI.k_ pD.has;refine ay<|ay<| ?_;refine cR [(8,0),(13,0),(14,0)] [0,1,2,3,4,5,6,7,8,9,10,11,12,13,14,15,16] ?_;refine a1 Z Z<|a1 Z Z<|aB Z (λ _=>hM Z Z)<|a1 Z Z<|eS Z Z Z<|eS Z Z Z<|eS Z Z Z<|cd Z Z (λ hc _=>bT j.toNat underlying29 dR (gt hc Z) (gt hc Z) (pD.has.bs (aO j.toNat (by (try simp only [ch] at hc);omega))) (by (try simp only [ch] at hc);omega) (by (try simp only [ch] at hc);omega))<|dT Z Z (λ hc _ x=>ao (gt hc Z) (aa.aG.er nw ((pD.later x).has.cg (aO j.toNat (by (try simp only [ch] at hc);omega))) (cA (l:=p6) (u:=default) (by (try simp only [ch] at hc);omega)) l' dR))<|eS Z Z Z<|eS Z Z Z<|cd Z Z (λ hc _=>gh (gt hc Z) Z (bf (by (try simp only [ch] at hc);omega)))<|cd Z Z (λ hc _=>bT ((j - 1).toNat) underlying29 dR (gt hc Z) (gt hc Z) (pD.has.bs (aO ((j - 1).toNat) (by (try simp only [ch] at hc);omega))) (by (try simp only [ch] at hc);omega) (by (try simp only [ch] at hc);omega))<|dT Z Z (λ hc _ x=>ao (gt hc Z) (aa.aG.er nw ((pD.later x).has.cg (aO ((j - 1).toNat) (by (try simp only [ch] at hc);omega))) (cA (l:=p6) (u:=default) (by (try simp only [ch] at hc);omega)) l' dR))<|avB Z Z Z Z Z Z Qb (λ hc=>(gt hc Z)) (λ hc=>ez (gt hc Z) (ez (gt hc Z) Z)) (λ hc _ x=>PQ (p6.getD j.toNat default) (p6.getD ((j - 1).toNat) default) _) Z<|cd Z Z (λ hc _=>blt (gt hc Z) Z)<|aB Z (λ _=>dv Z Z Z Z)<|fn λ B5 qm=> ?_;have m_:=jC.trans (Mod.bt qm);refine aP<| ?_;refine dn Z (λ Fp=> ?_) (λ Fp=> ?_)
  ·simp only [ch] at Fp;refine bl<|ay<|bu<| ?_;refine cR [(9,0),(13,0),(15,3),(17,3)] [0,1,2,3,4,5,6,7,8,9,10,11,12,13,14,15,16,17] ?_;refine a1 Z Z<|a1 Z Z<|a1 Z Z<|a1 Z Z<|aB Z (λ _=>gh Z Z (bf (by omega)))<|a1 Z Z<|a1 Z Z<|aB Z (λ _=>gh Z Z (bf (by omega)))<| ?_;have pD:=pD.later qm;refine aB Z (λ _=>bT ((j - 1).toNat) underlying29 dR Z Z (pD.has.bs (aO ((j - 1).toNat))) (by omega) (by omega))<|bx Z (λ _ x=>ao Z (aa.aG.er nw ((pD.later x).has.cg (aO ((j - 1).toNat))) (cA (l:=p6) (u:=default) (by omega)) l' dR))<|a1 Z Z<|a1 Z Z<|aB Z (λ _=>bT j.toNat underlying29 dR Z Z (pD.has.bs (aO j.toNat)) (by omega) (by omega))<|bx Z (λ _ x=>ao Z (aa.aG.er nw ((pD.later x).has.cg (aO j.toNat)) (cA (l:=p6) (u:=default) (by omega)) l' dR))<|aB Z (λ _=>bT j.toNat underlying29 dR Z Z (pD.has.bs (aO j.toNat)) (by omega) (by omega))<|eg Z Z Z λ ow gD Q hK=>D1 (q':=p6.getD ((j - 1).toNat) default) (i:=j.toNat) (pD.later gD) aa.dj (by omega) Z Z Z Z (λ _=>⟨Z,ahd _ (gP (by omega))⟩) dR λ yj BH O'=>hK _ _ ?_;have fD:=m_.trans (Mod.bt gD);have l3:=fD.md BH (λ q I=> .inl I);refine aB Z (λ _=>bT ((j - 1).toNat) underlying29 dR Z Z (O'.has.bs (aO ((j - 1).toNat) (by first | omega | (rw [aTH];omega)))) (by omega) (by first | omega | (rw [aTH];omega)))<|eg Z Z Z λ Ag j2 Q hK=>D1 (q':=p6.getD j.toNat default) (i:=((j - 1).toNat)) (O'.later j2) aa.dj (by first | omega | (rw [aTH];omega)) Z Z Z Z (λ _=>⟨Z,ahd _ (gP (by omega))⟩) dR λ Ah o8 Ku=>hK _ _ ?_;have oB:=l3.trans (Mod.bt j2);have kG:=oB.md o8 (λ q I=> .inl I);refine fn λ Eb j4=> ?_;have pw:=kG.trans (Mod.bt j4);refine bU<|aP<|rg<|vm Z<|Φ (gh Z Z (bf (by omega)))<|va Z<|nl<| ?_;have Ku:=Ku.later j4;exact cD _ _ ⟨((p6).set j.toNat (p6.getD ((j - 1).toNat) default)).set ((j - 1).toNat) (p6.getD j.toNat default),j - 1,Z,Z,pw,Ku,sR.aFN (by omega) (by omega) (by omega) (by omega) (by omega) (by omega) Fp.2,by omega,by omega⟩ (by omega) (.cons Z (.cons Z (.cons Z (.cons Z (.cons Z (.cons (bH Z) (hB Z)))))))
  ·simp only [ch] at Fp;have hF:=sR.Wp Fp (by omega) (by omega) (by omega);refine cV<|cU<|c'<|cT<|bU<|aP<|rg<|vm Z<|Φ (bad Z Z (bf (by omega)))<|va Z<|nl<| ?_;have pD:=pD.later qm;exact cD _ _ ⟨p6,i+1,Z,Z,m_,pD,λ _=>hF _ (by omega),λ h=>by omega,by omega,by omega⟩ (by omega) (.cons Z (.cons Z (.cons Z (.cons Z (.cons (bH Z) .nil)))))
 ·refine cV<|cU<|c'<|cT<|ne<|aV .nil<| ?_;have awG:hJ fR l a.toNat b.toNat dy:=by
   by_cases af8:a=b
   ·rw [jV af8,af8];exact hJ.bg (aTK _) (by omega) (by rw [Jg (aTK _)];exact List.Pairwise.nil)
   ·have Ff:i=b:=by omega
    rw [← Ff];exact hR (by omega)
  exact ⟨_,Z,awG,oG,b9⟩
end
section
open Go.Proofs.YtmeeljmapailnaaGreat.ey
open Classical in
noncomputable def wa (y:cx×List ByteArray) (c:bI):cx×List ByteArray:=if ze y.1 c then (xg y.1 c,if c.kind=2 then y.2++ [zf y.1 c] else y.2) else y
theorem aDe (y:cx×List ByteArray×List aN) (c:bI):((BR y c).1,(BR y c).2.1)=wa (y.1,y.2.1) c:=by
 unfold BR wa;split<;>rfl
theorem Wy:∀ (l:List bI) (y:cx×List ByteArray×List aN),((l.foldl BR y).1,(l.foldl BR y).2.1)=l.foldl wa (y.1,y.2.1)
 | [],_=>rfl
 | c::l,y=>by rw [aVx,aVx,Wy l,aDe]
def m0 (p:Nat) (s:cj) (o:aN):cj:=if o.bn=0∧o.by_=(p:Int)∧s.gone=false∧s.waits.length≠50 then ⟨s.waits++ [o],s.late,s.gone⟩ else s
theorem aE4 (p:Nat) (s:cj) (o:aN):(m0 p s o).gone=s.gone:=by unfold m0;split<;>rfl
theorem aE5 {p:Nat} {s:cj} {o:aN} (h:s.waits.length≤50∧s.qY (p:Int)=true):(m0 p s o).waits.length≤50∧(m0 p s o).qY (p:Int)=true:=by
 unfold m0;split
 ·rename_i hc
  obtain ⟨τ,ae,aw,aU⟩:=hc;obtain ⟨bz,cb⟩:=h;refine ⟨by show (s.waits++ [o]).length≤50;rw [aTE,aUq];omega, ?_⟩;unfold cj.qY at cb ⊢;simp only [aTM,aUT,aUl,aw,aXZ,and_true] at cb ⊢;refine ⟨cb.1, ?_⟩;rw [List.any_append,cb.2];simp [τ,ae]
 ·exact h
theorem aE1 {S:List cj} {o:aN} (h:u_ S):(Nn S o→Gk S o=S.mapIdx λ p s=>m0 p s o)∧(¬ Nn S o→S=S.mapIdx λ p s=>m0 p s o):=by
 constructor
 ·rintro ⟨_,τ,s,ae,aw,aU⟩;obtain ⟨hL,dH⟩:=adn τ;rw [alj ae];apply aUS;intro i;rw [aVY];by_cases ar:o.by_.toNat=i
  ·subst ar;rw [aT2 (aTC.1 ae).1,ae];show _=some (m0 _ s o);unfold m0;rw [aTO ⟨τ,by omega,aw,aU⟩]
  ·rw [aT9 ar];cases hS:S[i]? with
   | none=>rfl
   | some s' =>
    show _=some (m0 i s' o);unfold m0;rw [aTL (λ k=>ar (by have:=k.2.1;omega))]
 ·intro hn;apply aUS;intro i;rw [aVY];cases hS:S[i]? with
  | none=>rfl
  | some s' =>
   show _=some (m0 i s' o);unfold m0;rw [aTL];rintro ⟨d',eu,kg,Mn⟩;exact hn ⟨h,d',s',by rw [eu,aUx];exact hS,kg,Mn⟩
def Jf (cs:List bI) (S:List cj):List cj:=S.mapIdx λ p s=>cs.foldl (λ s c=>m0 p s c.o) s
theorem aE0 {x:cx} {f:Nat→cj→cj} (h:tK x) (hf:∀ p s,(s.waits.length≤50∧s.qY (p:Int)=true→(f p s).waits.length≤50∧(f p s).qY (p:Int)=true)∧(f p s).gone=s.gone):tK {x with S:=x.S.mapIdx f}:=by
 obtain ⟨τ,⟨ae,aw,aU⟩,bz,cb,ej,fq,vC⟩:=h;have aC:(x.S.mapIdx f).length=x.S.length:=List.length_mapIdx;have aM:∀ (i:Nat) (s:cj),(x.S.mapIdx f)[i]? =some s→∃ s',x.S[i]? =some s'∧s=f i s':=λ i s hs=>by
  rw [aVY] at hs;cases hS:x.S[i]? with
  | none=>rw [hS] at hs;cases hs
  | some s'=>rw [hS] at hs;exact ⟨s',Z,(aTA hs).symm⟩
 refine ⟨τ,⟨by show 1≤(x.S.mapIdx f).length;omega,by show (x.S.mapIdx f).length≤8;omega,λ i s hs=> ?_⟩,bz,cb,aC.trans ej,by show x.fS / 2 ^ (x.S.mapIdx f).length=0;rw [aC];exact fq,λ i s hs=> ?_⟩
 ·obtain ⟨s',Dd,rfl⟩:=aM i s hs;exact (hf i s').1 (aU i s' Dd)
 ·obtain ⟨s',Dd,rfl⟩:=aM i s hs;rw [(hf i s').2];exact vC i s' Dd
theorem aDf {y:cx×List ByteArray} {c:bI} (h:tK y.1) (au:c.kind=1):wa y c=({y.1 with S:=y.1.S.mapIdx λ p s=>m0 p s c.o},y.2):=by
 obtain ⟨dy,qU⟩:=aE1 (o:=c.o) h.2.1;unfold wa;split
 ·rename_i hd
  rw [aTL (by omega),VI au,dy (aek au hd)]
 ·rename_i hd
  rw [← qU λ k=>hd ⟨h, .inl ⟨au,k⟩⟩]
theorem ZZ:∀ (cs:List bI) (y:cx×List ByteArray),tK y.1→(∀ c∈cs,c.kind=1)→cs.foldl wa y=({y.1 with S:=Jf cs y.1.S},y.2)
 | [],y,_,_=>by
  unfold Jf;rw [show (y.1.S.mapIdx λ p s=>([]:List bI).foldl (λ s c=>m0 p s c.o) s)=y.1.S from List.mapIdx_eq_iff.2 λ i=>by cases y.1.S[i]? <;>rfl];rfl
 | c::cs,y,h,au=>by
  have τ:=aDf h (au c aT1);rw [aVx,τ,ZZ cs _ (aE0 h λ p s=>⟨aE5,aE4 p s c.o⟩) λ d hd=>au d (aTS _ hd)];unfold Jf;simp only [List.mapIdx_mapIdx,aVx];rfl
theorem Y_:∀ (cs:List bI) (y:cx×List ByteArray),¬ tK y.1→cs.foldl wa y=y
 | [],_,_=>rfl
 | c::cs,y,h=>by
  have:wa y c=y:=aTL λ k=>h k.1;rw [aVx,this,Y_ cs y h]
theorem Qs {α β:Type} {f:β→α→β} {q:α→Bool} (h:∀ s a,q a=false→f s a=s):∀ (l:List α) (s:β),l.foldl f s=(l.filter q).foldl f s
 | [],_=>rfl
 | a::l,s=>by
  rw [aUP];cases ha:q a with
  | true=>rw [aTO rfl,aVx,aVx,Qs h l]
  | false=>rw [aTL (by simp),aVx,h s a ha,Qs h l]
theorem avU {p:Nat} (hp:p<8) {cs ds:List bI} (h:gG fR cs ds) (s:cj):ds.foldl (λ s c=>m0 p s c.o) s=cs.foldl (λ s c=>m0 p s c.o) s:=by
 have I:∀ (s:cj) (c:bI),(λ c=>decide (fR c= -(p:Int))) c=false→(λ (s:cj) (c:bI)=>m0 p s c.o) s c=s:=λ s c hc=>by
  have hc:=aVH hc;show m0 p s c.o=s;unfold m0;rw [aTL λ k=>hc (by have:=k.2.1;unfold fR;omega)]
 have aY:=Qs I ds s;have bb:=Qs I cs s;rw [aY,bb,h]
theorem aEH {cs ds:List bI} (au:∀ c∈cs,c.kind=1) (h:gG fR cs ds) (y:cx×List ByteArray):ds.foldl wa y=cs.foldl wa y:=by
 by_cases aF:tK y.1
 ·rw [ZZ cs y aF au,ZZ ds y aF λ c hc=>au c (h.mem hc)];have e:Jf ds y.1.S=Jf cs y.1.S:=by
   have fq:=aF.2.1.2.1;unfold Jf;apply aUS;intro p;rw [aVY,aVY];cases hS:y.1.S[p]? with
   | none=>rfl
   | some s =>
    have hp:=(aTC.1 hS).1;exact aUF some (avU (by omega) h s)
  rw [e]
 ·rw [Y_ _ y aF,Y_ _ y aF]
structure Aq (l m:List bI) (f:Nat):Prop where
 len:m.length=l.length
 drop:m.drop f=l.drop f
 fold:∀ y,(m.take f).foldl wa y=(l.take f).foldl wa y
theorem Aq.start (l:List bI):Aq l l 0:=⟨rfl,rfl,λ _=>rfl⟩
theorem Aq.next {l m M:List bI} {f t:Nat} (h:Aq l m f) (ax1:f≤t) (aJ:t≤l.length) (au:∀ q,f≤q→q<t→(m.getD q default).kind=1) (hs:gG fR (b6 m f t) M) (n2:M.length=t - f):Aq l (m.take f++M++m.drop t) (t+1):=by
 obtain ⟨τ,ae,aw⟩:=h;have qa:(m.take f).length=f:=by rw [aTD];omega
 obtain ⟨_,_,cP,jq,_⟩:=DZ (A:=m.take f) (B:=M) (C:=m.drop t) (a:=f) (b:=t) qa (by omega);have hd:m.drop t=l.drop t:=by
  have:=aUF (List.drop (t - f)) ae
  rwa [aUZ,aUZ,show f+(t - f)=t by omega] at this
 have uj:b6 m f t=b6 l f t:=Jh ae (aTK _);refine ⟨by rw [aTE,aTE,aTW,qa,n2];omega, ?_,λ y=> ?_⟩
 ·have KY:∀ z:List bI,z.drop (t+1)=(z.drop t).drop 1:=λ z=>by rw [aUZ]
  rw [KY,cP,hd,← KY]
 ·have E6:(m.take f++M++m.drop t).take (t+1)=m.take f++M++(l.drop t).take 1:=by
   rw [aXg,jq,cP,hd]
  have E7:l.take (t+1)=l.take f++b6 l f t++(l.drop t).take 1:=by rw [aXg,aah ax1]
  rw [E6,E7,aUR,aUR,aUR,aUR,aw,← uj];congr 1;refine aEH (λ c hc=> ?_) hs _;obtain ⟨q,gR,ia,sb⟩:=BV hc;have:=au q gR ia
  rwa [aTB,sb] at this
theorem Aq.fin {l m:List bI} {f:Nat} (h:Aq l m f) (hf:l.length≤f) {x d_ eU:cx} {t1 t2:List ByteArray} (τ:∃ q,oi x l=(d_,t1,q)) (ae:∃ q,oi x m=(eU,t2,q)):eU=d_∧t2=t1:=by
 obtain ⟨gR,τ⟩:=τ;obtain ⟨ia,ae⟩:=ae;have:=h.fold (x, []);rw [aT0 (by rw [h.len];exact hf),aT0 hf,← Wy m (x, [], []),← Wy l (x, [], [])] at this;unfold oi at τ ae;rw [τ,ae] at this;simpa using this
end
section
open Go.Proofs.YtmeeljmapailnaaGreat.ey
section
variable {α:Type} {κ:α→Int} {l m r:List α} {a b c i j k p q x h:Nat} {K:Int}
theorem gm.aEs (h:gm l m (jZ a (a+1) (k+1))) (τ:x=a+1) (ae:j=k+1) (aw:a≤k) (aU:k<l.length):m=kY l a x j:=by subst τ;subst ae;exact h.ZM (by omega) (by omega) (by omega)
theorem gm.aEt (h:gm l m (jZ k b (b+1))) (τ:x=b+1) (ae:j=k) (aw:k≤b) (aU:b<l.length):m=kY l j b x:=by subst τ;subst ae;exact h.ZM aw (by omega) (by omega)
theorem aEv (h:m=kY l a k b) (he:b=c):m=kY l a k c:=he ▸ h
theorem aEy (τ:a≤k) (ae:k≤b) (h:k≤a∨b≤k):l=kY l a k b:=by
 rcases h with h | h
 ·obtain rfl:k=a:=by omega
  exact (aEx ae).symm
 ·obtain rfl:k=b:=by omega
  exact (aEw τ).symm
theorem af9 (v1:dh κ (b6 l a i)) (v2:dh κ (b6 l i k)) (h:i=a∨i=k):dh κ (b6 l a k):=by
 rcases h with h | h
 ·subst h;exact v2
 ·subst h;exact v1
theorem Jj (v:dh κ (b6 l a b)) (ha:i=a) (γ:j=b):dh κ (b6 l i j):=by subst ha;subst γ;exact v
end
section
variable {α:Type} [Inhabited α] {κ:α→Int} {l m r:List α} {a b c i j k p q x h:Nat} {K:Int}
theorem arj (hR:dh κ (b6 l x b)) (γ:b≤l.length) (τ:x≤h) (ae:h<b) (aC:κ (l.getD h default) - K<0) {e:Nat} (he:e=h+1):∀ (q:Nat) (y:α),x≤q→q<e→l[q]? =some y→κ y<K:=λ q y gR ia aF=>by
 have:=hR.at_ gR (show q≤h by omega) ae aF (cA (u:=default) (by omega));omega
theorem arf (hR:dh κ (b6 l x b)) (γ:b≤l.length) (τ:x≤h) (ae:h<b) (aC:0≤κ (l.getD h default) - K):∀ (q:Nat) (y:α),h≤q→q<b→l[q]? =some y→K≤κ y:=λ q y gR ia aF=>by
 have:=hR.at_ τ gR ia (cA (u:=default) (by omega)) aF;omega
theorem ari (hR:dh κ (b6 l x b)) (γ:b≤l.length) (τ:x≤h) (ae:h<b) (aC:0≤K - κ (l.getD h default)) {e:Nat} (he:e=h+1):∀ (q:Nat) (y:α),x≤q→q<e→l[q]? =some y→κ y≤K:=λ q y gR ia aF=>by
 have:=hR.at_ gR (show q≤h by omega) ae aF (cA (u:=default) (by omega));omega
theorem arh (hR:dh κ (b6 l x b)) (γ:b≤l.length) (τ:x≤h) (ae:h<b) (aC:K - κ (l.getD h default)<0):∀ (q:Nat) (y:α),h≤q→q<b→l[q]? =some y→K<κ y:=λ q y gR ia aF=>by
 have:=hR.at_ τ gR ia (cA (u:=default) (by omega)) aF;omega
theorem awj {s0 e:Nat} (du:dh κ (b6 l a x)) (hR:dh κ (b6 l x b)) (γ:b≤l.length) (τ:a≤s0) (ae:s0≤c) (aw:c<x) (aU:x+c≤p∧p<b+s0) (I:p=c+q) (aC:0≤κ (l.getD q default) - κ (l.getD c default)) (he:e=c+1):∀ bX,s0≤bX→bX<e→EA κ l p bX:=λ bX d' eu =>
 EA.mono du hR γ (c:=c) (λ u v hu hv=>by
  rw [show p - c=q by omega] at hv;have aY:l.getD c default=u:=by rw [aTB,hu];rfl
  have bb:l.getD q default=v:=by rw [aTB,hv];rfl
  rw [aY,bb] at aC;omega) (by omega) (by omega) aw aU.1 (by omega)
theorem aq1 {r0 bo:Nat} (du:dh κ (b6 l a x)) (hR:dh κ (b6 l x b)) (γ:b≤l.length) (τ:a≤c) (ae:c<r0) (aw:r0≤x) (aU:x+r0≤p+1∧p<b+c) (I:p=c+q) (aC:κ (l.getD q default) - κ (l.getD c default)<0) (he:bo=c):∀ bX,bo≤bX→bX<r0→Ex κ l p bX:=λ bX d' eu =>
 Ex.mono du hR γ (c:=c) (λ u v hu hv=>by
  rw [show p - c=q by omega] at hv;have aY:l.getD c default=u:=by rw [aTB,hu];rfl
  have bb:l.getD q default=v:=by rw [aTB,hv];rfl
  rw [aY,bb] at aC;omega) τ (by omega) (by omega) (by omega) (by omega)
theorem gm.aGK {k':Nat} (h:gm l m (jZ a (a+1) (k+1))) (ha:a≤k) (au:k+1<l.length) (hp:p=k) (I:q=k+1) (LO:k'=k+1):gm l ((m.set p (m.getD q default)).set q (m.getD p default)) (jZ a (a+1) (k'+1)):=by
 subst hp;subst I;subst LO;have hm:=h.1;exact h.up ha au (cA (u:=default) (by omega)) (cA (u:=default) (by omega))
theorem gm.as9 (h:gm l m (jZ k b (b+1))) (γ:k≤b) (aC:b<l.length) (hp:p=k) (I:q+1=k) {k':Nat} (LO:k'=q):gm l ((m.set p (m.getD q default)).set q (m.getD p default)) (jZ k' b (b+1)):=by
 subst LO;subst hp;subst I;have hm:=h.1;exact h.as8 (by omega) aC (cA (u:=default) (by omega)) (cA (u:=default) (by omega))
end
theorem aF3 (b1 A:Option Addr) (bo c n aE:Nat) (dt eb l:List bI) (a md b:Int) (N:Nat) (w:World) (ahC:∀ (l:List bI) (a md b:Int) (w:World),(b - a).toNat<N→gp bI.rep 71 72 w aE b1 bo dt eb A c (l)→l.length=n→0≤a→a<md→md<b→b≤(n:Int)→dh fR (b6 l a.toNat md.toNat)→dh fR (b6 l md.toNat b.toNat)→Calls prog 69 #[.slice A n c,J a,J md,J b, .func (.func 17) #[] #[]] w (λ e w'=>∃ m:List bI,e= .returned (.tuple #[])∧hJ fR l a.toNat b.toNat m∧gp bI.rep 71 72 w' aE b1 bo dt eb A c (m)∧Mod (aa.aj b1) w w')) (aX:gp bI.rep 71 72 w aE b1 bo dt eb A c (l)) (hn:l.length=n) (ha:0≤a) (ug:a<md) (IB:md<b) (γ:b≤(n:Int)) (du:dh fR (b6 l a.toNat md.toNat)) (xp:dh fR (b6 l md.toNat b.toNat)) (afX:(b - a).toNat≤N):
  Calls prog 69 #[.slice A n c,J a,J md,J b, .func (.func 17) #[] #[]] w (λ e w'=>∃ m:List bI,e= .returned (.tuple #[])∧hJ fR l a.toNat b.toNat m∧gp bI.rep 71 72 w' aE b1 bo dt eb A c (m)∧Mod (aa.aj b1) w w'):=by
 have LP:=aX.has.eZ;have Q8:=aX.has.2.2.1;refine b' (n:=220) func69 Z Z Z ?_;refine ay<|ah<|vm Z<|vm Z<|Φ (gh Z Z (bf (by omega)))<|Φ (beq Z Z)<|ag<| ?_;refine jo Z (λ gA=> ?_) (λ gA=> ?_)
 ·refine ah<|vm Z<|va Z<|ag<|ah<|vm Z<|va Z<|ag<|ay<|bu<| ?_;refine dx (λ bZ bS aL=>∃ i:Int,∃ j:Int,bS= [(0, .slice A n c),(1,J a),(2,J md),(3,J b),(4, .func (.func 17) #[] #[]),(10,J i),(11,J j)]∧bZ=(j - i).toNat∧Mod (aa.aj b1) w aL∧gp bI.rep 71 72 aL aE b1 bo dt eb A c (l)∧(md≤i)∧(i≤j)∧(j≤b)∧(∀ (q:Nat) (y:bI),md.toNat≤q→q<i.toNat→l[q]? =some y→fR y<fR (l.getD a.toNat default))∧(∀ (q:Nat) (y:bI),j.toNat≤q→q<b.toNat→l[q]? =some y→fR (l.getD a.toNat default)≤fR y)) _ _ ⟨md,b,Z,Z,(Mod.bg (aa.aj b1) w),aX,by omega,by omega,by omega,λ q y τ ae=>by omega,λ q y τ ae=>by omega⟩ (hB Z) ?_;rintro r3 rf iH ⟨i,j,rfl,rfl,b9,aX,xz,hl,ayj,bz,cb⟩;refine ay<|ah<|vm Z<|vm Z<|Φ (blt Z Z)<|ag<| ?_;refine df Z (λ ud=> ?_) (λ ud=> ?_)
  ·refine bl<|bu<|ah<|vm Z<|vm Z<|Φ (bad Z Z (bf (by omega)))<|Φ (C3 (r:=(i+j)) (λ _=>by kernel_rfl) (S5 (by omega) (by omega)) Z)<|Φ (Sy (k:= .u64) Z Z (by decide))<|Φ (C3 (r:=((i+j) / 2)) (λ _=>by kernel_rfl) (bf (by omega)) Z)<|va Z<|ag<|ay<| ?_;refine cR [(4,0),(8,0),(9,0)] [0,1,2,3,4,5,6,7,8,9,10] ?_;refine a1 Z Z<|a1 Z Z<|a1 Z Z<|aB Z (λ _=>bT (((i+j) / 2).toNat) underlying29 dR Z Z (aX.has.bs (aO (((i+j) / 2).toNat))) (by omega) (by omega))<|bx Z (λ _ x=>ao Z (aa.aG.er nw ((aX.later x).has.cg (aO (((i+j) / 2).toNat))) (cA (l:=l) (u:=default) (by omega)) l' dR))<|a1 Z Z<|a1 Z Z<|aB Z (λ _=>bT a.toNat underlying29 dR Z Z (aX.has.bs (aO a.toNat)) (by omega) (by omega))<|bx Z (λ _ x=>ao Z (aa.aG.er nw ((aX.later x).has.cg (aO a.toNat)) (cA (l:=l) (u:=default) (by omega)) l' dR))<|Wo Z Z Qb Z Z (λ _ x=>PQ (l.getD (((i+j) / 2).toNat) default) (l.getD a.toNat default) _) Z<|aB Z (λ _=>blt Z Z)<|fn λ ea cZ=> ?_;have bE:=b9.trans (Mod.bt cZ);refine aP<| ?_;refine df Z (λ kf=> ?_) (λ kf=> ?_)
   ·refine rg<|vm Z<|Φ (bad Z Z (bf (by omega)))<|va Z<|nl<|bU<| ?_;have aX:=aX.later cZ;exact cD _ _ ⟨((i+j) / 2)+1,j,Z,Z,bE,aX,by omega,by omega,by omega,arj xp (by omega) (h:=((i+j) / 2).toNat) (by omega) (by omega) (by omega) (by omega),cb⟩ (by omega) (.cons Z (.cons Z (.cons Z (.cons Z (.cons Z (.cons (bH Z) (hB Z)))))))
   ·refine rg<|vm Z<|va Z<|nl<|bU<| ?_;have aX:=aX.later cZ;exact cD _ _ ⟨i,(i+j) / 2,Z,Z,bE,aX,by omega,by omega,by omega,bz,arf xp (by omega) (h:=((i+j) / 2).toNat) (by omega) (by omega) (by omega)⟩ (by omega) (.cons Z (.cons Z (.cons Z (.cons Z (.cons Z (.cons Z (.cons (bH Z) .nil)))))))
  ·have Wf:j=i:=by omega
   rw [Wf] at cb;refine cV<|cU<|c'<|cT<|aP<|ay<|ah<|vm Z<|va Z<|ag<|bu<| ?_;refine dx (λ bZ bS aL=>∃ vO:List bI,∃ k:Int,bS= [(0, .slice A n c),(1,J a),(2,J md),(3,J b),(4, .func (.func 17) #[] #[]),(10,J i),(13,J k)]∧bZ=(i - k).toNat∧Mod (aa.aj b1) w aL∧gp bI.rep 71 72 aL aE b1 bo dt eb A c (vO)∧(gm l vO (jZ a.toNat (a.toNat+1) (k.toNat+1)))∧(a≤k)∧(k≤i - 1)) _ _ ⟨l,a,Z,Z,b9,aX,gm.bg λ _=>aEE,by omega,by omega⟩ (hB Z) ?_;rintro MU aoi Af ⟨vO,k,rfl,rfl,iL,CG,hR,aNU,aNZ⟩;have FF:=hR.1;have ahb:=bI.k_ CG.has;refine ay<|ah<|vm Z<|vm Z<|Φ (gh Z Z (bf (by omega)))<|Φ (blt Z Z)<|ag<| ?_;refine df Z (λ lf=> ?_) (λ lf=> ?_)
   ·refine bl<|ay<|bu<| ?_;refine cR [(9,0),(13,0),(15,3),(17,3)] [0,1,2,3,4,5,6,7,8,9,10,11,12,13,14,15,16,17] ?_;refine a1 Z Z<|a1 Z Z<|a1 Z Z<|a1 Z Z<|aB Z (λ _=>bad Z Z (bf (by omega)))<|a1 Z Z<|a1 Z Z<|aB Z (λ _=>bad Z Z (bf (by omega)))<|aB Z (λ _=>bT ((k+1).toNat) underlying29 dR Z Z (CG.has.bs (aO ((k+1).toNat))) (by omega) (by omega))<|bx Z (λ _ x=>ao Z (aa.aG.er nw ((CG.later x).has.cg (aO ((k+1).toNat))) (cA (l:=vO) (u:=default) (by omega)) l' dR))<|a1 Z Z<|a1 Z Z<|aB Z (λ _=>bT k.toNat underlying29 dR Z Z (CG.has.bs (aO k.toNat)) (by omega) (by omega))<|bx Z (λ _ x=>ao Z (aa.aG.er nw ((CG.later x).has.cg (aO k.toNat)) (cA (l:=vO) (u:=default) (by omega)) l' dR))<|aB Z (λ _=>bT k.toNat underlying29 dR Z Z (CG.has.bs (aO k.toNat)) (by omega) (by omega))<|eg Z Z Z λ B6 pj Q hK=>D1 (q':=vO.getD ((k+1).toNat) default) (i:=k.toNat) (CG.later pj) aa.dj (by omega) Z Z Z Z (λ _=>⟨Z,ahb _ (gP (by omega))⟩) dR λ wm p8 ack=>hK _ _ ?_;have oA:=iL.trans (Mod.bt pj);have jB:=oA.md p8 (λ q I=> .inl I);refine aB Z (λ _=>bT ((k+1).toNat) underlying29 dR Z Z (ack.has.bs (aO ((k+1).toNat) (by first | omega | (rw [aTH];omega)))) (by omega) (by first | omega | (rw [aTH];omega)))<|eg Z Z Z λ Jw nO Q hK=>D1 (q':=vO.getD k.toNat default) (i:=((k+1).toNat)) (ack.later nO) aa.dj (by first | omega | (rw [aTH];omega)) Z Z Z Z (λ _=>⟨Z,ahb _ (gP (by omega))⟩) dR λ sj xP UF=>hK _ _ ?_;have tC:=jB.trans (Mod.bt nO);have hU:=tC.md xP (λ q I=> .inl I);refine fn λ Jx lq=> ?_;have qu:=hU.trans (Mod.bt lq);refine bU<|aP<|rg<|vm Z<|Φ (bad Z Z (bf (by omega)))<|va Z<|nl<| ?_;have UF:=UF.later lq;exact cD _ _ ⟨((vO).set k.toNat (vO.getD ((k+1).toNat) default)).set ((k+1).toNat) (vO.getD k.toNat default),k+1,Z,Z,qu,UF,hR.aGK (by omega) (by omega) (by omega) (by omega) (by omega),by omega,by omega⟩ (by omega) (.cons Z (.cons Z (.cons Z (.cons Z (.cons Z (.cons Z (.cons (bH Z) .nil)))))))
   ·refine cV<|cU<|c'<|cT<|aP<|rt<|bP<|aV .nil<| ?_;exact ⟨_,Z,aBS xp (by omega) (by omega) (by omega) (by omega) (by omega) (cA (u:=default) (by omega)) bz cb (hR.aEs (by omega) (by omega) (by omega) (by omega)),CG,iL⟩
 ·refine bl<|ay<|ah<|vm Z<|vm Z<|Φ (gh Z Z (bf (by omega)))<|Φ (beq Z Z)<|ag<| ?_;refine jo Z (λ pR=> ?_) (λ pR=> ?_)
  ·refine ah<|vm Z<|va Z<|ag<|ah<|vm Z<|va Z<|ag<|ay<|bu<| ?_;refine dx (λ bZ bS aL=>∃ i:Int,∃ j:Int,bS= [(0, .slice A n c),(1,J a),(2,J md),(3,J b),(4, .func (.func 17) #[] #[]),(14,J i),(15,J j)]∧bZ=(j - i).toNat∧Mod (aa.aj b1) w aL∧gp bI.rep 71 72 aL aE b1 bo dt eb A c (l)∧(a≤i)∧(i≤j)∧(j≤md)∧(∀ (q:Nat) (y:bI),a.toNat≤q→q<i.toNat→l[q]? =some y→fR y≤fR (l.getD md.toNat default))∧(∀ (q:Nat) (y:bI),j.toNat≤q→q<md.toNat→l[q]? =some y→fR (l.getD md.toNat default)<fR y)) _ _ ⟨a,md,Z,Z,(Mod.bg (aa.aj b1) w),aX,by omega,by omega,by omega,λ q y τ ae=>by omega,λ q y τ ae=>by omega⟩ (hB Z) ?_;rintro lS aJX tj ⟨i,j,rfl,rfl,kn,aX,xz,hl,ayj,bz,cb⟩;refine ay<|ah<|vm Z<|vm Z<|Φ (blt Z Z)<|ag<| ?_;refine df Z (λ Fq=> ?_) (λ Fq=> ?_)
   ·refine bl<|bu<|ah<|vm Z<|vm Z<|Φ (bad Z Z (bf (by omega)))<|Φ (C3 (r:=(i+j)) (λ _=>by kernel_rfl) (S5 (by omega) (by omega)) Z)<|Φ (Sy (k:= .u64) Z Z (by decide))<|Φ (C3 (r:=((i+j) / 2)) (λ _=>by kernel_rfl) (bf (by omega)) Z)<|va Z<|ag<|ay<| ?_;refine cR [(4,0),(8,0),(9,0)] [0,1,2,3,4,5,6,7,8,9,10,11] ?_;refine a1 Z Z<|a1 Z Z<|a1 Z Z<|aB Z (λ _=>bT md.toNat underlying29 dR Z Z (aX.has.bs (aO md.toNat)) (by omega) (by omega))<|bx Z (λ _ x=>ao Z (aa.aG.er nw ((aX.later x).has.cg (aO md.toNat)) (cA (l:=l) (u:=default) (by omega)) l' dR))<|a1 Z Z<|a1 Z Z<|aB Z (λ _=>bT (((i+j) / 2).toNat) underlying29 dR Z Z (aX.has.bs (aO (((i+j) / 2).toNat))) (by omega) (by omega))<|bx Z (λ _ x=>ao Z (aa.aG.er nw ((aX.later x).has.cg (aO (((i+j) / 2).toNat))) (cA (l:=l) (u:=default) (by omega)) l' dR))<|Wo Z Z Qb Z Z (λ _ x=>PQ (l.getD md.toNat default) (l.getD (((i+j) / 2).toNat) default) _) Z<|aB Z (λ _=>blt Z Z)<|aB Z (λ _=>ek Z)<|fn λ Gz qo=> ?_;have q7:=kn.trans (Mod.bt qo);refine aP<| ?_;refine dn Z (λ Xm=> ?_) (λ Xm=> ?_)
    ·simp only [ch] at Xm;refine rg<|vm Z<|Φ (bad Z Z (bf (by omega)))<|va Z<|nl<|bU<| ?_;have aX:=aX.later qo;exact cD _ _ ⟨((i+j) / 2)+1,j,Z,Z,q7,aX,by omega,by omega,by omega,ari du (by omega) (h:=((i+j) / 2).toNat) (by omega) (by omega) (by omega) (by omega),cb⟩ (by omega) (.cons Z (.cons Z (.cons Z (.cons Z (.cons Z (.cons (bH Z) (hB Z)))))))
    ·simp only [ch] at Xm;refine rg<|vm Z<|va Z<|nl<|bU<| ?_;have aX:=aX.later qo;exact cD _ _ ⟨i,(i+j) / 2,Z,Z,q7,aX,by omega,by omega,by omega,bz,arh du (by omega) (h:=((i+j) / 2).toNat) (by omega) (by omega) (by omega)⟩ (by omega) (.cons Z (.cons Z (.cons Z (.cons Z (.cons Z (.cons Z (.cons (bH Z) .nil)))))))
   ·have Wf:j=i:=by omega
    rw [Wf] at cb;refine cV<|cU<|c'<|cT<|aP<|ay<|ah<|vm Z<|va Z<|ag<|bu<| ?_;refine dx (λ bZ bS aL=>∃ zI:List bI,∃ k:Int,bS= [(0, .slice A n c),(1,J a),(2,J md),(3,J b),(4, .func (.func 17) #[] #[]),(14,J i),(17,J k)]∧bZ=(k - i).toNat∧Mod (aa.aj b1) w aL∧gp bI.rep 71 72 aL aE b1 bo dt eb A c (zI)∧(gm l zI (jZ k.toNat md.toNat (md.toNat+1)))∧(i≤k)∧(k≤md)) _ _ ⟨l,md,Z,Z,kn,aX,gm.bg λ _=>aED,by omega,by omega⟩ (hB Z) ?_;rintro aBD aol Ai ⟨zI,k,rfl,rfl,kH,CH,hR,aNX,aN1⟩;have FF:=hR.1;have ahc:=bI.k_ CH.has;refine ay<|ah<|vm Z<|vm Z<|Φ (hM Z Z)<|ag<| ?_;refine df Z (λ axe=> ?_) (λ axe=> ?_)
    ·refine bl<|ay<|bu<| ?_;refine cR [(9,0),(13,0),(15,3),(17,3)] [0,1,2,3,4,5,6,7,8,9,10,11,12,13,14,15,16,17] ?_;refine a1 Z Z<|a1 Z Z<|a1 Z Z<|a1 Z Z<|aB Z (λ _=>gh Z Z (bf (by omega)))<|a1 Z Z<|a1 Z Z<|aB Z (λ _=>gh Z Z (bf (by omega)))<|aB Z (λ _=>bT ((k - 1).toNat) underlying29 dR Z Z (CH.has.bs (aO ((k - 1).toNat))) (by omega) (by omega))<|bx Z (λ _ x=>ao Z (aa.aG.er nw ((CH.later x).has.cg (aO ((k - 1).toNat))) (cA (l:=zI) (u:=default) (by omega)) l' dR))<|a1 Z Z<|a1 Z Z<|aB Z (λ _=>bT k.toNat underlying29 dR Z Z (CH.has.bs (aO k.toNat)) (by omega) (by omega))<|bx Z (λ _ x=>ao Z (aa.aG.er nw ((CH.later x).has.cg (aO k.toNat)) (cA (l:=zI) (u:=default) (by omega)) l' dR))<|aB Z (λ _=>bT k.toNat underlying29 dR Z Z (CH.has.bs (aO k.toNat)) (by omega) (by omega))<|eg Z Z Z λ amM tx Q hK=>D1 (q':=zI.getD ((k - 1).toNat) default) (i:=k.toNat) (CH.later tx) aa.dj (by omega) Z Z Z Z (λ _=>⟨Z,ahc _ (gP (by omega))⟩) dR λ Ta s3 acn=>hK _ _ ?_;have Oe:=kH.trans (Mod.bt tx);have Cj:=Oe.md s3 (λ q I=> .inl I);refine aB Z (λ _=>bT ((k - 1).toNat) underlying29 dR Z Z (acn.has.bs (aO ((k - 1).toNat) (by first | omega | (rw [aTH];omega)))) (by omega) (by first | omega | (rw [aTH];omega)))<|eg Z Z Z λ NM j5 Q hK=>D1 (q':=zI.getD k.toNat default) (i:=((k - 1).toNat)) (acn.later j5) aa.dj (by first | omega | (rw [aTH];omega)) Z Z Z Z (λ _=>⟨Z,ahc _ (gP (by omega))⟩) dR λ GC IW UK=>hK _ _ ?_;have q9:=Cj.trans (Mod.bt j5);have yA:=q9.md IW (λ q I=> .inl I);refine fn λ NP Em=> ?_;have yC:=yA.trans (Mod.bt Em);refine bU<|aP<|rg<|vm Z<|Φ (gh Z Z (bf (by omega)))<|va Z<|nl<| ?_;have UK:=UK.later Em;exact cD _ _ ⟨((zI).set k.toNat (zI.getD ((k - 1).toNat) default)).set ((k - 1).toNat) (zI.getD k.toNat default),k - 1,Z,Z,yC,UK,hR.as9 (by omega) (by omega) (by omega) (by omega) (by omega),by omega,by omega⟩ (by omega) (.cons Z (.cons Z (.cons Z (.cons Z (.cons Z (.cons Z (.cons (bH Z) .nil)))))))
    ·refine cV<|cU<|c'<|cT<|aP<|rt<|bP<|aV .nil<| ?_;exact ⟨_,Z,aBR du (by omega) (by omega) (by omega) (by omega) (by omega) (cA (u:=default) (by omega)) bz cb (hR.aEt (by omega) (by omega) (by omega) (by omega)),CH,kH⟩
  ·refine bl<|ah<|vm Z<|vm Z<|Φ (bad Z Z (bf (by omega)))<|Φ (C3 (r:=(a+b)) (λ _=>by kernel_rfl) (S5 (by omega) (by omega)) Z)<|Φ (Sy (k:= .u64) Z Z (by decide))<|Φ (C3 (r:=((a+b) / 2)) (λ _=>by kernel_rfl) (bf (by omega)) Z)<|va Z<|ag<|ah<|vm Z<|vm Z<|Φ (bad Z Z (bf (by omega)))<|va Z<|ag<|ah<|va Z<| ?_;refine va Z<|ag<| ?_;refine SC (λ bS aL=>∃ s0:Int,∃ r0:Int,bS= [(0, .slice A n c),(1,J a),(2,J md),(3,J b),(4, .func (.func 17) #[] #[]),(18,J ((a+b) / 2)),(19,J (((a+b) / 2)+md)),(20,J s0),(21,J r0)]∧Mod (aa.aj b1) w aL∧gp bI.rep 71 72 aL aE b1 bo dt eb A c (l)∧(((a+b) / 2<md∧s0=(a+b) / 2+md - b∧r0=(a+b) / 2)∨(md≤(a+b) / 2∧s0=a∧r0=md))) ?_ ?_
   ·refine ah<|vm Z<|vm Z<|Φ (hM Z Z)<|ag<| ?_;refine df Z (λ sT=> ?_) (λ sT=> ?_)
    ·refine ah<|vm Z<|vm Z<|Φ (gh Z Z (bf (by omega)))<|va Z<|ag<|rg<|vm Z<|va Z<|nl<| ?_;exact DS _ ⟨(((a+b) / 2)+md) - b,(a+b) / 2,Z,(Mod.bg (aa.aj b1) w),aX,by omega⟩ (.cons Z (.cons Z (.cons Z (.cons Z (.cons Z (.cons Z (.cons Z (.cons (bH Z) (.cons (bH Z) .nil)))))))))
    ·refine ah<|vm Z<|va Z<|ag<|rg<|vm Z<|va Z<|nl<| ?_;exact DS _ ⟨a,md,Z,(Mod.bg (aa.aj b1) w),aX,by omega⟩ (hB Z)
   rintro aoo Td ⟨s0,r0,rfl,Ck,aX,aK⟩;refine ah<|vm Z<|Φ (gh Z Z (bf (by omega)))<|va Z<|ag<|ay<|bu<| ?_;refine dx (λ bZ bS aL=>∃ st:Int,∃ r:Int,bS= [(0, .slice A n c),(1,J a),(2,J md),(3,J b),(4, .func (.func 17) #[] #[]),(18,J ((a+b) / 2)),(19,J (((a+b) / 2)+md)),(20,J st),(21,J r),(22,J ((((a+b) / 2)+md) - 1))]∧bZ=(r - st).toNat∧Mod (aa.aj b1) w aL∧gp bI.rep 71 72 aL aE b1 bo dt eb A c (l)∧(s0≤st)∧(st≤r)∧(r≤r0)∧(∀ c,s0.toNat≤c→c<st.toNat→EA fR l (((a+b) / 2).toNat+md.toNat - 1) c)∧(∀ c,r.toNat≤c→c<r0.toNat→Ex fR l (((a+b) / 2).toNat+md.toNat - 1) c)) _ _ ⟨s0,r0,Z,Z,Ck,aX,by omega,by omega,by omega,λ c τ ae=>by omega,λ c τ ae=>by omega⟩ (hB Z) ?_;rintro il aJ8 B8 ⟨st,r,rfl,rfl,nc,aX,Rm,Mb,aOc,aM,hd⟩;refine ay<|ah<|vm Z<|vm Z<|Φ (blt Z Z)<|ag<| ?_;refine df Z (λ axm=> ?_) (λ axm=> ?_)
   ·refine bl<|bu<|ah<|vm Z<|vm Z<|Φ (bad Z Z (bf (by omega)))<|Φ (C3 (r:=(st+r)) (λ _=>by kernel_rfl) (S5 (by omega) (by omega)) Z)<|Φ (Sy (k:= .u64) Z Z (by decide))<|Φ (C3 (r:=((st+r) / 2)) (λ _=>by kernel_rfl) (bf (by omega)) Z)<|va Z<|ag<|ay<| ?_;refine cR [(6,0),(10,0),(11,0)] [0,1,2,3,4,5,6,7,8,9,10,11,12,13] ?_;refine a1 Z Z<|a1 Z Z<|a1 Z Z<|a1 Z Z<|aB Z (λ _=>gh Z Z (bf (by omega)))<|aB Z (λ _=>bT ((((((a+b) / 2)+md) - 1) - ((st+r) / 2)).toNat) underlying29 dR Z Z (aX.has.bs (aO ((((((a+b) / 2)+md) - 1) - ((st+r) / 2)).toNat))) (by omega) (by omega))<|bx Z (λ _ x=>ao Z (aa.aG.er nw ((aX.later x).has.cg (aO ((((((a+b) / 2)+md) - 1) - ((st+r) / 2)).toNat))) (cA (l:=l) (u:=default) (by omega)) l' dR))<|a1 Z Z<|a1 Z Z<|aB Z (λ _=>bT (((st+r) / 2).toNat) underlying29 dR Z Z (aX.has.bs (aO (((st+r) / 2).toNat))) (by omega) (by omega))<|bx Z (λ _ x=>ao Z (aa.aG.er nw ((aX.later x).has.cg (aO (((st+r) / 2).toNat))) (cA (l:=l) (u:=default) (by omega)) l' dR))<|Wo Z Z Qb Z Z (λ _ x=>PQ (l.getD ((((((a+b) / 2)+md) - 1) - ((st+r) / 2)).toNat) default) (l.getD (((st+r) / 2).toNat) default) _) Z<|aB Z (λ _=>blt Z Z)<|aB Z (λ _=>ek Z)<|fn λ NQ yv=> ?_;have uN:=nc.trans (Mod.bt yv);refine aP<| ?_;refine dn Z (λ zz=> ?_) (λ zz=> ?_)
    ·simp only [ch] at zz;refine rg<|vm Z<|Φ (bad Z Z (bf (by omega)))<|va Z<|nl<|bU<| ?_;have aX:=aX.later yv;exact cD _ _ ⟨((st+r) / 2)+1,r,Z,Z,uN,aX,by omega,by omega,by omega,awj du xp (by omega) (c:=((st+r) / 2).toNat) (by omega) (by omega) (by omega) (by omega) (by omega) zz (by omega),hd⟩ (by omega) (.cons Z (.cons Z (.cons Z (.cons Z (.cons Z (.cons Z (.cons Z (.cons (bH Z) (hB Z)))))))))
    ·simp only [ch] at zz;refine rg<|vm Z<|va Z<|nl<|bU<| ?_;have aX:=aX.later yv;exact cD _ _ ⟨st,(st+r) / 2,Z,Z,uN,aX,by omega,by omega,by omega,aM,aq1 du xp (by omega) (c:=((st+r) / 2).toNat) (by omega) (by omega) (by omega) (by omega) (by omega) zz (by omega)⟩ (by omega) (.cons Z (.cons Z (.cons Z (.cons Z (.cons Z (.cons Z (.cons Z (.cons Z (.cons (bH Z) (hB Z))))))))))
   ·have kb:r=st:=by omega
    rw [kb] at hd;have cq:=aC4 (mid:=((a+b) / 2).toNat) (s0:=s0.toNat) (r0:=r0.toNat) du xp (by omega) (by omega) (by omega) (by omega) (by omega) (by omega) (by omega) aM hd;obtain ⟨eH,fa,mh,v_,aCZ,_,_⟩:=id cq;refine cV<|cU<|c'<|cT<|aP<|ah<|vm Z<|vm Z<|Φ (gh Z Z (bf (by omega)))<|va Z<|ag<| ?_;refine SC (λ bS aL=>∃ dy:List bI,bS= [(0, .slice A n c),(1,J a),(3,J b),(4, .func (.func 17) #[] #[]),(18,J ((a+b) / 2)),(20,J st),(24,J ((((a+b) / 2)+md) - st))]∧Mod (aa.aj b1) w aL∧gp bI.rep 71 72 aL aE b1 bo dt eb A c (dy)∧(dy=kY l st.toNat md.toNat (((a+b) / 2).toNat+md.toNat - st.toNat))) ?_ ?_
    ·refine ah<|vm Z<|vm Z<|Φ (blt Z Z)<|vm Z<|eN Z Z<|eN Z Z<|bh Z (λ hc=>blt (gt hc Z) (gt hc Z))<|Φ (dv Z Z Z Z)<|ag<| ?_;refine dn Z (λ xr=> ?_) (λ xr=> ?_)
     ·simp only [ch] at xr;refine rg<|vm Z<|vm Z<|vm Z<|vm Z<|vm Z<|ca auO Z Z ((aEu b1 A bo c n aE dt eb l st md ((((a+b) / 2)+md) - st) _ aX (by first | omega | (simp only [aTH];omega)) (by omega) (by omega) (by omega) (by omega)).mono ?_);rintro e Ti ⟨aBt,rfl,aEe,apo,vV⟩;refine ⟨_,Z, ?_⟩;have Cm:=nc.md vV (λ q I=> .inl I);refine nl<| ?_;exact DS _ ⟨aBt,Z,Cm,apo,aEv aEe (by omega)⟩ (hB Z)
     ·simp only [ch] at xr;refine ei<| ?_;exact DS _ ⟨l,Z,nc,aX,aEy (by omega) (by omega) (by omega)⟩ (hB Z)
    rintro aKa Tj ⟨dy,rfl,An,acd,Ix⟩;obtain ⟨v1,v2,v3,v4,v5⟩:=cq.Xr du xp (k:=((a+b) / 2).toNat) (by omega) Ix;refine SC (λ bS aL=>∃ qU:List bI,bS= [(0, .slice A n c),(3,J b),(4, .func (.func 17) #[] #[]),(18,J ((a+b) / 2)),(24,J ((((a+b) / 2)+md) - st))]∧Mod (aa.aj b1) w aL∧gp bI.rep 71 72 aL aE b1 bo dt eb A c (qU)∧(hJ fR dy a.toNat ((a+b) / 2).toNat qU)) ?_ ?_
    ·refine ah<|vm Z<|vm Z<|Φ (blt Z Z)<|vm Z<|eN Z Z<|eN Z Z<|bh Z (λ hc=>blt (gt hc Z) (gt hc Z))<|Φ (dv Z Z Z Z)<|ag<| ?_;refine dn Z (λ Xp=> ?_) (λ Xp=> ?_)
     ·simp only [ch] at Xp;refine rg<|vm Z<|vm Z<|vm Z<|vm Z<|vm Z<|ca Qc Z Z ((ahC dy a st ((a+b) / 2) _ (by omega) acd (by first | omega | (simp only [aTH];omega)) (by omega) (by omega) (by omega) (by omega) v1 v2).mono ?_);rintro e amC ⟨aBo,rfl,aD8,apf,aBx⟩;refine ⟨_,Z, ?_⟩;have N8:=An.md aBx (λ q I=> .inl I);refine nl<| ?_;exact DS _ ⟨aBo,Z,N8,apf,aD8⟩ (hB Z)
     ·simp only [ch] at Xp;refine ei<| ?_;exact DS _ ⟨dy,Z,An,acd,hJ.bg (by omega) (by omega) (af9 v1 v2 (by omega))⟩ (hB Z)
    rintro aJG aSs ⟨qU,rfl,ane,ace,Dy⟩;have kO:=Dy.len (by omega) (by omega);have hdr:=(Dy.parts (by omega) (by omega)).2.1;have amq:dh fR (b6 qU ((a+b) / 2).toNat (((a+b) / 2).toNat+md.toNat - st.toNat)):=by rw [Jh hdr (aTK _)];exact v3
    have amr:dh fR (b6 qU (((a+b) / 2).toNat+md.toNat - st.toNat) b.toNat):=by rw [Jh hdr (by omega)];exact v4
    refine ah<|vm Z<|vm Z<|Φ (blt Z Z)<|vm Z<|eN Z Z<|eN Z Z<|bh Z (λ hc=>blt (gt hc Z) (gt hc Z))<|Φ (dv Z Z Z Z)<|ag<| ?_;refine dn Z (λ Xe=> ?_) (λ Xe=> ?_)
    ·simp only [ch] at Xe;refine rg<|vm Z<|vm Z<|vm Z<|vm Z<|vm Z<|ca Qc Z Z ((ahC qU ((a+b) / 2) ((((a+b) / 2)+md) - st) b _ (by omega) ace (by first | omega | (simp only [aTH];omega)) (by omega) (by omega) (by omega) (by omega) (Jj amq (by omega) (by omega)) (Jj amr (by omega) (by omega))).mono ?_);rintro e aSu ⟨aPQ,rfl,aD9,apg,mV⟩;refine ⟨_,Z, ?_⟩;have aIi:=ane.md mV (λ q I=> .inl I);refine nl<|ne<|aV .nil<| ?_;exact ⟨_,Z,cq.merge du xp (k:=((a+b) / 2).toNat) (by omega) Ix Dy aD9,apg,aIi⟩
    ·simp only [ch] at Xe;refine ei<|ne<|aV .nil<| ?_;exact ⟨_,Z,cq.merge du xp (k:=((a+b) / 2).toNat) (by omega) Ix Dy (hJ.bg (by omega) (by omega) (af9 amq amr (by omega))),ace,ane⟩
theorem al2 (b1 A:Option Addr) (bo c n aE:Nat) (dt eb:List bI):∀ (N:Nat) (l:List bI) (a md b:Int) (w:World),(b - a).toNat<N→gp bI.rep 71 72 w aE b1 bo dt eb A c (l)→l.length=n→0≤a→a<md→md<b→b≤(n:Int)→dh fR (b6 l a.toNat md.toNat)→dh fR (b6 l md.toNat b.toNat)→Calls prog 69 #[.slice A n c,J a,J md,J b, .func (.func 17) #[] #[]] w (λ e w'=>∃ m:List bI,e= .returned (.tuple #[])∧hJ fR l a.toNat b.toNat m∧gp bI.rep 71 72 w' aE b1 bo dt eb A c (m)∧Mod (aa.aj b1) w w'):=by
 intro N;induction N with
 | zero=>intro l a md b w h;exact absurd h (Nat.not_lt_zero _)
 | succ N bK=>intro l a md b w h aX hn ha ug IB γ du xp;exact aF3 b1 A bo c n aE dt eb l a md b N w bK aX hn ha ug IB γ du xp (by omega)
end
end Go.Proofs.YtmeeljmapailnaaGreat
