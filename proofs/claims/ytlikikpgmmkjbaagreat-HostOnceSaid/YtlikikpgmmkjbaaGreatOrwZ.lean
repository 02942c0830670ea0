import Derived.Test.YtlikikpgmmkjbaaGreatHitL
set_option linter.unusedVariables false
set_option linter.unusedSimpArgs false
set_option maxRecDepth 100000
set_option maxHeartbeats 4000000
open Go.RowKit
namespace Go.Proofs.YtlikikpgmmkjbaaGreat
open Tryz
abbrev aUQ:=@Bool.eq_iff_iff
section
def Bc (W:ah) (l:List dk):List bf:=(List.range W.ak.length).map (xT W.ak (fB W l))
structure J' (W:ah) (l:List dk):Prop where
 jM:Good W
 bV:gG W l= {W with ak:=(Bc W l).filter λ t=>decide (0<t.c0)}
 bB:tG W l=((Bc W l).filter λ t=> !decide (0<t.c0)).map bf.id
 avy:∀ k,0≤(fB W l).getD k 0
 az:(fB W l).length=W.ak.length
theorem alh {W:ah} {l:List dk} (h:ml W l=0):J' W l :=
 ⟨Good.Bx (O5 h).1,(Zf h rfl).1,(Zf h rfl).2,λ k=>((Wq h).2 k).1,(Wq h).1⟩
theorem QV (W:ah) (l:List dk):(Bc W l).length=W.ak.length:=by simp [Bc]
theorem QU {W:ah} {l:List dk} {k:Nat} {t:bf} (h:W.ak[k]? =some t):(Bc W l)[k]? =some {t with c0:=t.c0 - (fB W l).getD k 0}:=by
 have ar:=(aRC.1 h).1;unfold Bc;rw [aRU,aU8 ar,aS5];unfold xT;rw [VM h]
theorem axH {W:ah} {l:List dk} {x:bf} (h:x∈Bc W l):∃ (k:Nat) (t:bf),W.ak[k]? =some t∧x= {t with c0:=t.c0 - (fB W l).getD k 0}:=by
 obtain ⟨k,ar⟩:=aTM.1 h;have bw:=(aRC.1 ar).1;rw [QV] at bw;obtain ⟨t,aG⟩:=iN bw;rw [QU aG] at ar;injection ar with ar
 exact ⟨k,t,aG,ar.symm⟩
theorem J'.IH {W:ah} {l:List dk} (h:J' W l):(Bc W l).Pairwise DZ:=by
 rw [aSx];intro i j aq ay jC;rw [QV] at aq ay;obtain ⟨s,hs⟩:=iN aq;obtain ⟨t,aG⟩:=iN ay;have a_:=(aRC.1 (QU (l:=l) hs)).2;have bj:=(aRC.1 (QU (l:=l) aG)).2;rw [a_,bj];have:=(aSx.1 h.jM.IH) i j aq ay jC;rw [(aRC.1 hs).2,(aRC.1 aG).2] at this;exact this
theorem J'.right {W:ah} {l:List dk} (h:J' W l):Good (gG W l):=by
 rw [h.bV];refine Good.ajE h.jM Z Z Z Z Z h.jM.now ?_ (h.IH.filter _) λ t aG=> ?_
 ·exact aR5 (aTN _ _) (by rw [QV];exact h.jM.dZ)
 ·obtain ⟨aG,hp⟩:=aT3.1 aG;obtain ⟨k,s,hs,rfl⟩:=axH aG;have τ:=h.jM.each (aSc hs);have aa:=h.avy k;have aw:=aST hp;refine ⟨τ.1,τ.2.1,⟨τ.2.2.kind,τ.2.2.owner,τ.2.2.ground, ?_,τ.2.2.load⟩⟩;have a1:=τ.2.2.c0;show 1≤s.c0 - _∧s.c0 - _≤ah.j_ s.kind;have bK:0<s.c0 - (fB W l).getD k 0:=aw;omega
theorem aDb {l:List Int} (h:l.Pairwise (· < ·)):M4 l=true:=by
 refine aDc λ i aq=> ?_;have:=(aSx.1 h) i (i+1) (by omega) aq (by omega);rw [aRB,aRB,aRD aq,aRD (by omega:i<l.length)];show ¬ l[i+1]<l[i];omega
end
section
section
variable {f:aE} {a b c x y:ax} {d D:Int}
theorem aBt (hf:f.bo=0) (ha:f.ground a=true) (td:0≤cM f a b c) (afN:0≤cM f a x c):lG f (cM f a b) c=lG f (cM f a x) c:=by
 have key:∀ t n,n∈dU c→0≤cM f a t c→((f.ground n && decide (0≤cM f a t n) && decide (cM f a t n+f.gD c=cM f a t c))=true↔∃ e,sN f a n e∧sN f a c (e+f.gD c)):=by
  intro t n hn aG;have hs:=Vy (b:=t) hf ha;have af4:=KJ hf ha aG;constructor
  ·intro h;simp only [aRI,aR6] at h;exact ⟨_,KJ hf ha h.1.2,by rw [h.2];exact af4⟩
  ·rintro ⟨e,τ,aa⟩;have he:=af4.uniq aa;have QI:cM f a t n=e:=hs.known n e τ λ D vZ=>by
    have:=(hs.oP c aG).2 D vZ;have aw:=aE.Vl t (aE.Y6 hn);have ar:=f.p5 (c:=c);omega
   rw [QI,mF.ground ha τ.1,aSe (mF.q6 τ.1),aSe he.symm];rfl
 unfold lG;congr 1;apply find_congr;intro n hn;rw [aUQ,key b n hn td,key x n hn afN]
where
 find_congr {p q:ax→Bool}:∀ {l:List ax},(∀ n∈l,p n=q n)→l.find? p=l.find? q
  | [],_=>rfl
  | n::l,h=>by
   rw [List.find?_cons,List.find?_cons,h n aRZ,find_congr λ m hm=>h m (aRQ _ hm)]
theorem aE0 (hf:f.bo=0) (ha:f.ground a=true) (Φ:0≤cM f a b b) (hx:0≤cM f a x x):∀ (n:Nat) (c:ax),0≤cM f a b c→0≤cM f a x c→(cM f a b c).toNat=n→fP f (cM f a b) a c=fP f (cM f a x) a c:=by
 have Tp:=KK hf ha Φ;have Tq:=KK hf ha hx;intro n;induction n using Nat.strongRecOn with
 | ind n bD =>
  intro c τ aa hn;by_cases e:c=a
  ·subst e;rw [BO Tp,BO Tq]
  ·have hp:=aBt (b:=b) (x:=x) hf ha τ aa;obtain ⟨eQ,fo,mW,x9⟩:=Tp.prev τ e;obtain ⟨lH,mY,ya,II⟩:=Tq.prev aa e;have ar:=f.p5 (c:=c);rw [BP Tp τ e,BP Tq aa e,← hp];congr 1;exact bD _ (by omega) _ mW (by rw [hp];exact ya) Z
theorem aE1 {aB:ax→Int} (h:oH f a aB):∀ (n:Nat) (c:ax),0≤aB c→(aB c).toNat=n→∀ i,(aq:i<(fP f aB a c).length)→(fP f aB a c).drop i=fP f aB a ((fP f aB a c)[i])∧mF f ((fP f aB a c)[i]) c (aB c - aB ((fP f aB a c)[i])):=by
 intro n;induction n using Nat.strongRecOn with
 | ind n bD =>
  intro c hc hn i aq;by_cases e:c=a
  ·subst e;rw [BO h] at aq;have:i=0:=by simpa using aq
   subst this;simp only [BO h,aUc,aUH];exact ⟨by first | trivial | rfl,by rw [aVp];exact .start rfl⟩
  ·have hP:=BP h hc e;obtain ⟨eQ,fo,mW,x9⟩:=h.prev hc e;have ar:=f.p5 (c:=c);cases i with
   | zero =>
    have e0:(fP f aB a c)[0]=c:=by simp only [hP,aUH]
    rw [e0,aUc,aVp];exact ⟨Z, .start Z⟩
   | succ i =>
    have E':i<(fP f aB a (lG f aB c)).length:=by rw [hP] at aq;simpa using aq
    obtain ⟨dO,dY⟩:=bD _ (by omega) _ mW rfl i E';have a_:(fP f aB a c)[i+1]=(fP f aB a (lG f aB c))[i]:=by simp only [hP,aUI]
    rw [a_];refine ⟨by rw [← dO,hP,aWr], ?_⟩;have r:mF f _ c (aB (lG f aB c) - aB ((fP f aB a (lG f aB c))[i])+f.gD c):= .step dY (aE.MC.2 ⟨aE.Y6 eQ,h.gr c hc⟩);rw [show aB c - aB ((fP f aB a (lG f aB c))[i])=aB (lG f aB c) - aB ((fP f aB a (lG f aB c))[i])+f.gD c by omega];exact r
theorem aE4 (he:g_ f a b=0) {n:Nat} (hn:n<(fS f a b).length) {x:ax} (hx:(fS f a b).getD n default=x):g_ f a x=0∧g_ f x b=0∧fS f a x=(fS f a b).take (n+1)∧oT f a x+oT f x b=oT f a b:=by
 obtain ⟨hf,ha,Φ,aH,ar,hp⟩:=Vq he;have F:=KK hf ha aH;have az:(fS f a b).length=(fP f (cM f a b) a b).length:=by rw [hp,aTY]
 have aq:(fP f (cM f a b) a b).length - 1 - n<(fP f (cM f a b) a b).length:=by omega
 obtain ⟨s1,s2⟩:=aE1 F _ b aH rfl _ aq;have ex:(fP f (cM f a b) a b)[(fP f (cM f a b) a b).length - 1 - n]=x:=by
  rw [mn hn] at hx;rw [← hx];simp only [hp,aWg]
 rw [ex] at s1 s2;have LQ:x∈fP f (cM f a b) a b:=by rw [← ex];exact aSO aq
 obtain ⟨fw,fa,iR⟩:=aEZ F _ b aH rfl x LQ;have af5:=KJ hf ha fw;have a_:=aeT hf ha af5;have hQ:0≤cM f a x x:=by rw [a_];exact fw
 have A5:=Vr hf ha iR hQ;have r2:=aug hf iR s2;have ag7:=Vr hf iR Φ r2.1;refine ⟨A5,ag7, ?_, ?_⟩
 ·have QO:fS f a x=(fP f (cM f a x) a x).reverse:=by unfold fS;rw [aRP A5]
  rw [QO,← aE0 hf ha aH hQ _ x fw hQ rfl,← s1,hp,List.reverse_drop,az.symm.trans az];congr 1;have:(fP f (cM f a b) a b).reverse.length=(fP f (cM f a b) a b).length:=aTY;omega
 ·have dO:oT f a x=cM f a x x:=by unfold oT;rw [aRP A5]
  have dY:oT f x b=cM f x b b:=by unfold oT;rw [aRP ag7]
  rw [dO,dY,ar,a_];have aw:=(KJ hf ha aH).2 _ (mF.tH af5.1 (KJ hf iR r2.1).1);omega
end
end
section
theorem alb {f:aE} {l:List dm} {T:List bf} {k:Nat} {c:ax} (h:q_ f l T k=some c):
  0≤eD l (T.getD k default).id∧g_ f (T.getD k default).spot (l.getD (eD l (T.getD k default).id).toNat default).bn=0∧2≤(fS f (T.getD k default).spot (l.getD (eD l (T.getD k default).id).toNat default).bn).length∧
  c=(fS f (T.getD k default).spot (l.getD (eD l (T.getD k default).id).toNat default).bn).getD 1 default∧jf T c≤0:=by
 unfold q_ at h;split at h
 ·exact nomatch h
 ·split at h
  ·exact nomatch h
  ·split at h
   ·exact nomatch h
   ·split at h
    ·exact nomatch h
    ·rename_i τ aa aw a1
     injection h with h
     subst h;exact ⟨by omega,by simpa using aa,by omega,rfl,by omega⟩
theorem amf {f:aE} {a:ax} {aB:ax→Int} (h:oH f a aB) {c:ax} (hc:0≤aB c):∃ r,fP f aB a c=c::r∧(r= []↔c=a):=by
 by_cases e:c=a
 ·subst e;exact ⟨[],BO h,by simp⟩
 ·obtain ⟨eQ,fo,mW,x9⟩:=h.prev hc e;refine ⟨_,BP h hc e,⟨λ hr=> ?_,λ h=>absurd h e⟩⟩;by_cases bj:lG f aB c=a
  ·rw [bj,BO h] at hr;exact nomatch hr
  ·rw [BP h mW bj] at hr;exact nomatch hr
theorem amg {f:aE} {a b x:ax} (he:g_ f a b=0) (hn:2≤(fS f a b).length) (hx:(fS f a b).getD 1 default=x):
  g_ f a x=0∧g_ f x b=0∧oT f a x+oT f x b=oT f a b∧a∈dU x∧f.ground x=true∧x≠a∧fS f a x= [a,x]:=by
 obtain ⟨τ,aa,aw,a1⟩:=aE4 he (n:=1) (by omega) hx;obtain ⟨hf,ha,Φ,aH,ar,hp⟩:=Vq he;obtain ⟨_,_,auN,hQ,_,QO⟩:=Vq τ;have F:=KK hf ha aH;have Oi:=KK hf ha hQ;have az:(fS f a x).length=2:=by rw [aw,aRE];omega
 rw [QO,aTY] at az;have Xv:x≠a:=by
  intro e;obtain ⟨r,a_,bj⟩:=amf Oi hQ;rw [a_,bj.2 e] at az;simp at az
 have hP:=BP Oi hQ Xv;obtain ⟨eQ,fo,mW,x9⟩:=Oi.prev hQ Xv;obtain ⟨r,a_,bj⟩:=amf Oi mW;rw [hP,a_] at az;have hr:r= []:=aSb (by simpa using az);have agS:=bj.1 hr;refine ⟨τ,aa,a1,by rw [← agS];exact eQ,auN,Xv, ?_⟩;rw [QO,hP,a_,hr,agS];rfl
theorem aCY {T:List bf} {k:Nat} {c:ax} (ck:T.Pairwise DZ) (ar:k<T.length) (hc:jf T c≤0):(T.set k ((T.getD k default).bn c)).Pairwise DZ:=by
 have jc:∀ t∈T,t.spot≠c:=λ t aG e=>by have:=aAt.2 ⟨t,aG,e⟩;omega
 have af8:T.getD k default=T[k]:=by rw [aRB,aRD ar];rfl
 rw [aSx] at ck ⊢;intro i j aq ay jC;rw [aRK] at aq ay;have h:=ck i j aq ay jC;rw [List.getElem_set,List.getElem_set];split<;>split
 ·omega
 ·rename_i a_ bj
  subst a_;exact ⟨by have ar3:=aSI bf.id af8;have zh:=h.1;show (T.getD k default).id<_;omega,λ e=>jc _ (aSO ay) e.symm⟩
 ·rename_i a_ bj
  subst bj;exact ⟨by have ar3:=aSI bf.id af8;have zh:=h.1;show _<(T.getD k default).id;omega,jc _ (aSO aq)⟩
 ·exact h
theorem ak9 {f:aE} {l:List dm} {T:List bf} {Q:bf→Prop} (gy:∀ t c,Q t→f.ground c=true→Q (t.bn c)) (ck:T.Pairwise DZ) (b8:∀ t∈T,Q t):∀ k,k≤T.length→(jR f l T k).1.Pairwise DZ∧∀ t∈(jR f l T k).1,Q t
 | 0,_=>⟨ck,b8⟩
 | k+1,ar=>by
  obtain ⟨ahd,Xx⟩:=ak9 (l:=l) gy ck b8 k (by omega);have az:=(R4 (f:=f) (l:=l) (T:=T) k).1;cases hs:q_ f l (jR f l T k).1 k with
  | none=>rw [F0 rfl hs];exact ⟨ahd,Xx⟩
  | some c =>
   rw [M7 rfl hs];obtain ⟨d1,d2,d3,d4,d5⟩:=alb hs;obtain ⟨_,_,_,_,g,_⟩:=amg d2 d3 d4.symm;refine ⟨aCY ahd (by omega) d5,λ t aG=> ?_⟩;rcases aTo aG with aG | rfl
   ·exact Xx t aG
   ·exact gy _ _ (Xx _ (ih (by omega))) g
noncomputable def FK (f:aE) (l:List dm) (T:List bf) (i:Nat):Option ax:=q_ f l (jR f l T i).1 i
theorem aDK {T:List bf} {k:Nat} {t:bf} (h:k<T.length):(T.set k t).getD k default=t:=by rw [aRB,aRY h];rfl
theorem aDJ {T:List bf} {k i:Nat} {t:bf} (h:k≠i):(T.set k t).getD i default=T.getD i default:=by rw [aRB,aR4 h,aRB]
theorem R3 {f:aE} {l:List dm} {T:List bf}:∀ k,k≤T.length→∀ i,i<T.length→(jR f l T k).1.getD i default=if i<k then (match FK f l T i with | some c=>(T.getD i default).bn c | none=>T.getD i default) else T.getD i default
 | 0,_,i,aq=>by rw [aRL (by omega)];rfl
 | k+1,ar,i,aq=>by
  have bD:=R3 (f:=f) (l:=l) (T:=T) k (by omega);have az:=(R4 (f:=f) (l:=l) (T:=T) k).1;have p2:=bD k (by omega);rw [aRL (by omega)] at p2;cases hs:FK f l T k with
  | none =>
   rw [F0 rfl hs,bD i aq];by_cases e:i=k
   ·subst e;rw [aRL (by omega),aRP (by omega),hs]
   ·by_cases bj:i<k
    ·rw [aRP bj,aRP (by omega)]
    ·rw [aRL bj,aRL (by omega)]
  | some c =>
   rw [M7 rfl hs];by_cases e:i=k
   ·subst e;rw [aDK (by omega),aRP (by omega),hs,p2]
   ·rw [aDJ (λ h=>e h.symm),bD i aq];by_cases bj:i<k
    ·rw [aRP bj,aRP (by omega)]
    ·rw [aRL bj,aRL (by omega)]
theorem ak8 {f:aE} {l:List dm} {T:List bf}:∀ k,k≤T.length→(jR f l T k).2=((List.range k).filter λ i=>(FK f l T i).isSome).map λ i=>(T.getD i default).id
 | 0,_=>rfl
 | k+1,ar=>by
  have bD:=ak8 (f:=f) (l:=l) (T:=T) k (by omega);have p2:=R3 (f:=f) (l:=l) (T:=T) k (by omega) k (by omega);rw [aRL (by omega)] at p2;rw [aTg,aS2,aR3,aSP];cases hs:FK f l T k with
  | none=>rw [F0 rfl hs,bD];simp
  | some c=>rw [M7 rfl hs,bD,p2];simp
theorem azK {W:ah} {l:List dm} (h:sm W l=0):W.bo=0∧hk W l=(W.l6 l).1∧o8 W l=(W.l6 l).2:=by
 have hc:W.bo=0:=by
  apply aS6;intro hn;rw [(ajf (l:=l) hn).1] at h;exact hn h
 by_cases az:(l.length:Int)≤200
 ·have:=Rk (l:=l) hc az;exact ⟨hc,this.2⟩
 ·rw [(ajg (l:=l) hc (by omega)).1] at h;exact nomatch h
theorem azJ {W:ah} {l:List dm} (h:sm W l=0):
  Good (hk W l)∧(hk W l).ak.length=W.ak.length∧M4 (o8 W l)=true∧hk W l= {W with ak:=(hk W l).ak}∧
  ∀ k,k<W.ak.length→((o8 W l).any (λ y=>(W.ak.getD k default).id == y)=false∧(hk W l).ak.getD k default=W.ak.getD k default)∨
   ∃ c:ax,(o8 W l).any (λ y=>(W.ak.getD k default).id == y)=true∧(hk W l).ak.getD k default=(W.ak.getD k default).bn c∧0≤eD l (W.ak.getD k default).id∧
    g_ W.field (W.ak.getD k default).spot (l.getD (eD l (W.ak.getD k default).id).toNat default).bn=0∧g_ W.field c (l.getD (eD l (W.ak.getD k default).id).toNat default).bn=0∧g_ W.field (W.ak.getD k default).spot c=0∧
    oT W.field (W.ak.getD k default).spot (l.getD (eD l (W.ak.getD k default).id).toNat default).bn=oT W.field c (l.getD (eD l (W.ak.getD k default).id).toNat default).bn+oT W.field (W.ak.getD k default).spot c∧
    (W.ak.getD k default).spot∈dU c:=by
 obtain ⟨hc,atD,atC⟩:=azK h;have bB:=Good.Bx hc;rw [atD,atC];have de:=ak9 (f:=W.field) (l:=l) (T:=W.ak) (Q:=λ t=>0<t.id∧t.id<W.next∧OM W.field W.aW.length t)
  (λ t c I aK=>⟨I.1,I.2.1,⟨I.2.2.kind,I.2.2.owner,aK,I.2.2.c0,I.2.2.load⟩⟩) bB.IH (λ t aG=>bB.each aG) W.ak.length (aRN _)
 have hlen:=Ze W l;have pS:=ak8 (f:=W.field) (l:=l) (T:=W.ak) W.ak.length (aRN _);have H3:=bB.IH;refine ⟨Good.ajE bB Z Z Z Z Z bB.now (by rw [hlen];exact bB.dZ) de.1 de.2,hlen, ?_,Z,λ k ar=> ?_⟩
 ·show M4 (jR W.field l W.ak W.ak.length).2=true;rw [pS];refine aDb ?_;rw [List.pairwise_map];have hr:((List.range W.ak.length).filter λ i=>(FK W.field l W.ak i).isSome).Pairwise (· < ·):=List.Pairwise.filter _ List.pairwise_lt_range;refine List.Pairwise.imp_of_mem (fun {i j} aq ay jC=> ?_) hr;have aq:=aSj.1 (aT3.1 aq).1;have ay:=aSj.1 (aT3.1 ay).1;rw [mn aq,mn ay];exact ((aSx.1 H3) i j aq ay jC).1
 ·have fL:=R3 (f:=W.field) (l:=l) (T:=W.ak) W.ak.length (aRN _) k ar;rw [aRP ar] at fL;have p2:=R3 (f:=W.field) (l:=l) (T:=W.ak) k (by omega) k ar;rw [aRL (by omega)] at p2;have pX:((W.l6 l).2).any (λ y=>(W.ak.getD k default).id == y)=(FK W.field l W.ak k).isSome:=by
   show (jR W.field l W.ak W.ak.length).2.any _=_;rw [pS,aUQ,aSX];constructor
   ·rintro ⟨y,aL,e⟩;obtain ⟨i,aq,rfl⟩:=aSh.1 aL;obtain ⟨A8,Fa⟩:=aT3.1 aq;have A8:=aSj.1 A8;have e:(W.ak.getD k default).id=(W.ak.getD i default).id:=by simpa using e
    have:i=k:=by
     rw [mn ar,mn A8] at e;rcases aWD i k with q | q | q
     ·have:=((aSx.1 H3) i k A8 ar q).1;omega
     ·exact q
     ·have:=((aSx.1 H3) k i ar A8 q).1;omega
    rw [← this];exact Fa
   ·intro hs;exact ⟨_,aSh.2 ⟨k,aT3.2 ⟨aSj.2 ar,hs⟩,Z⟩,by simp⟩
  cases hs:FK W.field l W.ak k with
  | none =>
   rw [hs] at fL pX;exact .inl ⟨pX,fL⟩
  | some c =>
   rw [hs] at fL pX;obtain ⟨d1,d2,d3,d4,d5⟩:=alb hs;rw [p2] at d1 d2 d3 d4;obtain ⟨f1,f2,f3,f4,f5,f6,f7⟩:=amg d2 d3 d4.symm;exact .inr ⟨c,pX,fL,d1,d2,f2,f1,by omega,f4⟩
end
section
structure aF where
 by_:Int
 kind:Int
 aQ:Int
 spot:ax
 what:Int
 deriving DecidableEq,Inhabited
namespace aF
def cells (a:aF):List Value:= [.int .i64 (a.by_), .int .i64 (a.kind), .int .i64 (a.aQ), .int .i64 (a.spot.x), .int .i64 (a.spot.y), .int .i64 (a.what)]
def ok (a:aF):Prop:=(Lit.int .i64 a.by_).wf=true∧(Lit.int .i64 a.kind).wf=true∧(Lit.int .i64 a.aQ).wf=true∧(Lit.int .i64 a.spot.x).wf=true∧(Lit.int .i64 a.spot.y).wf=true∧(Lit.int .i64 a.what).wf=true
def raw (j:Nat) (u:Value):Prop:=match j with
 | 0=>∃ n:Int,u= .int .i64 n
 | 1=>∃ n:Int,u= .int .i64 n
 | 2=>∃ n:Int,u= .int .i64 n
 | 3=>∃ n:Int,u= .int .i64 n
 | 4=>∃ n:Int,u= .int .i64 n
 | 5=>∃ n:Int,u= .int .i64 n
 | _=>True
theorem rJ (a:aF):∀ (j:Nat) u,a.cells[j]? =some u→raw j u:=by
 intro j u hu
 match j,hu with
 | 0,hu=>exact ⟨_,(aRA hu).symm⟩
 | 1,hu=>exact ⟨_,(aRA hu).symm⟩
 | 2,hu=>exact ⟨_,(aRA hu).symm⟩
 | 3,hu=>exact ⟨_,(aRA hu).symm⟩
 | 4,hu=>exact ⟨_,(aRA hu).symm⟩
 | 5,hu=>exact ⟨_,(aRA hu).symm⟩
 | j+6,hu=>exact trivial
theorem rI (a:aF):∀ u∈a.cells,u.oneCell'=true:=by
 intro u hu;unfold cells at hu;simp only [aRW,aS3,aTR] at hu;rcases hu with rfl | rfl | rfl | rfl | rfl | rfl<;>rfl
def rep:κ aF:=κ.flat 6 cells ok raw (λ _=>rfl) rI rJ
theorem plain:rep.Plain:=κ.oU
def zero:Value:= .agg #[.int .i64 0, .int .i64 0, .int .i64 0, .int .i64 0, .int .i64 0, .int .i64 0]
theorem h8:∀ (j:Nat) u,zero.cells[j]? =some u→rep.raw j u:=by
 intro j u hu;have hu:(#[(.int .i64 0:Value),(.int .i64 0:Value),(.int .i64 0:Value),(.int .i64 0:Value),(.int .i64 0:Value),(.int .i64 0:Value)]:Array Value)[j]? =some u:=hu
 match j,hu with
 | 0,hu=>exact ⟨_,(aRA hu).symm⟩
 | 1,hu=>exact ⟨_,(aRA hu).symm⟩
 | 2,hu=>exact ⟨_,(aRA hu).symm⟩
 | 3,hu=>exact ⟨_,(aRA hu).symm⟩
 | 4,hu=>exact ⟨_,(aRA hu).symm⟩
 | 5,hu=>exact ⟨_,(aRA hu).symm⟩
 | j+6,hu=>cases hu
theorem info:(prog.info? 51).map (λ i=>(i.zero,i.size,i.bytes))=some (some zero,6,48):=by kernel_rfl
theorem mj {by_:Nat} {w:World} {A:Option Addr} {c:Nat} {l:List aF} (h:rep.aJ by_ w A c l):∀ a∈l,a.ok:=κ.aJ.y0 (R:=rep) (Q:=ok) (fun {w cs a} (h:rep.has w cs a)=>(show cs=a.cells∧a.ok from h).2) h
def sh:gK:=(.cons (.int .i64) (.cons (.int .i64) (.cons (.int .i64) (.cons (.cons (.int .i64) (.cons (.int .i64) .nil)) (.cons (.int .i64) .nil)))))
end aF
end
section
theorem aoo:Oh prog aF.cells 51 :=by
 intro a b w;obtain ⟨a0,cd,a2,⟨a3,a4⟩,a5⟩:=a;obtain ⟨OV,mI,fz,⟨gR,AB⟩,Cu⟩:=b;simp only [aF.cells,aF.mk.injEq,ax.mk.injEq];constructor
 ·go_simp
  repeat' split
  all_goals simp_all
 ·go_simp
  repeat' split
  all_goals simp_all
theorem aon:(prog).eqGuardType (prog).depth 51 =false:=by kernel_rfl
theorem CX {w:World} {cs:List Value} {a:aF} (h:aF.rep.has w cs a):cs=a.cells:=aTI (show cs=a.cells∧a.ok from h)
def aF.bare (o:aF):aF:=⟨o.by_,o.kind,if o.kind=5 then 0 else o.aQ,if o.kind≠2∧o.kind≠3 then ⟨0,0⟩ else o.spot,if o.kind≠1∧o.kind≠5 then 0 else o.what⟩
def aF.Dn (o:aF):Bool:= !cO o.by_ 0 7 || !cO o.kind 1 5 || !cO o.aQ 0 1000000 || !cO o.spot.x (-1000) 1000 || !cO o.spot.y (-1000) 1000 || !cO o.what 0 1000000
def aF.bo (o:aF):Int:=if o.Dn=true then 1 else if (!decide (o.bare=o))=true then 4 else 0
theorem aF.Uz {o:aF} (h:o.Dn=true):o.bo=1:=by unfold aF.bo;rw [aRP h]
theorem aF.aqv {o:aF} (h:o.Dn=false) (aa:(!decide (o.bare=o))=true):o.bo=4:=by unfold aF.bo;rw [aRL (by rw [h];decide),aRP aa]
theorem aF.aqw {o:aF} (h:o.Dn=false) (aa:(!decide (o.bare=o))=false):o.bo=0:=by unfold aF.bo;rw [aRL (by rw [h];decide),aRL (by rw [aa];decide)]
def hC (l:List aF):Int:=if 100<l.length then 2 else match l.find? (λ o=>o.bo != 0) with | some o=>o.bo | none=>0
theorem aAR {l:List aF} (h:100<l.length):hC l=2:=by unfold hC;rw [aRP h]
theorem aAS {l:List aF} (h:l.length≤100) (aK:∀ i,i<l.length→(l.getD i default).bo=0):hC l=0:=by
 unfold hC;rw [aRL (by omega)];have:l.find? (λ o=>o.bo != 0)=none:=aS1.2 λ x hx=>by
  obtain ⟨i,aq,rfl⟩:=aSw.1 hx;have:=aK i aq;rw [mn aq] at this;simp [this]
 rw [this]
theorem aAQ {l:List aF} {k:Nat} (h:l.length≤100) (ar:k<l.length) (aK:∀ i,i<k→(l.getD i default).bo=0) (Φ:¬ (l.getD k default).bo=0):hC l=(l.getD k default).bo:=by
 unfold hC;rw [aRL (by omega)];have:l.find? (λ o=>o.bo != 0)=some (l.getD k default):=by
  rw [aUh];refine ⟨by simpa using Φ,k,ar,(mn ar).symm,λ j ay=> ?_⟩;have:=aK j ay;rw [mn (by omega)] at this;simp [this]
 rw [this]
theorem IC (n lo aq:Int) (w:World):
  Calls prog 145 #[.int .i64 n, .int .i64 lo, .int .i64 aq] w (λ e w'=>e= .returned (.bool (cO n lo aq))∧Ext w w'):=by
 refine ch (n:=15) func145 Z Z Z ?_;refine aj<|va Z<|ai<|aj<|vm Z<|vm Z<|J (j4 Z Z)<|vm Z<|bp Z Z Z Z (λ hc=>aM Z) Z<|bp Z Z Z Z (λ hc=>aM Z) Z<|bp Z Z Z Z (λ hc=>ble (gt hc Z) (gt hc Z)) Z<|J (e3 Z Z Z Z)<|va Z<|ai<|rt<|bb (.tmp Z .nil)<| ?_;exact ⟨Z,(Ext.bF w)⟩
theorem aAs (o:aF) (w:World):
  Calls prog 146 #[.agg #[.int .i64 o.by_, .int .i64 o.kind, .int .i64 o.aQ, .int .i64 o.spot.x, .int .i64 o.spot.y, .int .i64 o.what]] w (λ e w'=>e= .returned (.agg (aF.bare o).cells.toArray)∧Ext w w'):=by
 refine ch (n:=27) func146 Z Z Z ?_;refine aj<|cB Z Z Z Z λ cv bJ a7 ee ab=> ?_;have:=a7.size;have bg:=γ (Ext.bF w) a7;have ei:=ab.lt;refine al Z KA Z Z λ eK cw bl ie ag=> ?_;have:=bl.size;have bQ:=γ bg bl;have h3:=ag.lt;refine ai<|aA<|aj<|J (av pP Z)<| ?_;have ab:=ab.later bl;refine J (ao Z (ab.one bc Z))<|J (beq Z Z)<|ai<| ?_;refine i' Z (λ ix=> ?_) (λ ix=> ?_)
 ·refine rg<|J (av CH Z)<|st (new:= [.int .i64 o.by_, .int .i64 o.kind, .int .i64 0, .int .i64 o.spot.x, .int .i64 o.spot.y, .int .i64 o.what]) Z Z ab Z dK Z Z Z λ u' p7 ab=> ?_;have:=p7.size;have jW:=Ext.mod bQ p7 bu;refine ai<|aA<|aj<|J (av pP Z)<|J (ao Z (ab.one bc Z))<|J (bne Z Z)<|vm Z<|bp Z Z Z Z (λ hc=>av pP Z) Z<|bp Z Z Z Z (λ hc=>ao (gt hc Z) (ab.one bc Z)) Z<|bp Z Z Z Z (λ hc=>bne (gt hc Z) Z) Z<|J (e3 Z Z Z Z)<|ai<| ?_;refine dJ Z (λ A3=> ?_) (λ A3=> ?_)
  ·simp only [cC] at A3;refine rg<|J (v:= .agg #[.int .i64 0, .int .i64 0]) (cK Z (by kernel_rfl))<|J (av CI Z)<|st (new:= [.int .i64 o.by_, .int .i64 o.kind, .int .i64 0, .int .i64 0, .int .i64 0, .int .i64 o.what]) Z Z ab Z bU Z Z Z λ BH p8 ab=> ?_;have:=p8.size;have ma:=Ext.mod jW p8 bu;refine ai<|aA<|aj<|J (av pP Z)<|J (ao Z (ab.one bc Z))<|J (bne Z Z)<|vm Z<|bp Z Z Z Z (λ hc=>av pP Z) Z<|bp Z Z Z Z (λ hc=>ao (gt hc Z) (ab.one bc Z)) Z<|bp Z Z Z Z (λ hc=>bne (gt hc Z) Z) Z<|J (e3 Z Z Z Z)<|ai<| ?_;refine dJ Z (λ oW=> ?_) (λ oW=> ?_)
   ·simp only [cC] at oW;refine rg<|J (av CJ Z)<|st (new:= [.int .i64 o.by_, .int .i64 o.kind, .int .i64 0, .int .i64 0, .int .i64 0, .int .i64 0]) Z Z ab Z dK Z Z Z λ BI hj ab=> ?_;have:=hj.size;have qu:=Ext.mod ma hj bu;refine ai<|aj<|J (ao Z (ab.all hN dN))<| ?_;have ag:=ag.mod p7 aO;have ag:=ag.mod p8 aO;have ag:=ag.mod hj aO;refine st (new:= [.int .i64 o.by_, .int .i64 o.kind, .int .i64 0, .int .i64 0, .int .i64 0, .int .i64 0]) Z Z ag Z dN Z Z Z λ BK x1 ag=> ?_;have:=x1.size;have ph:=Ext.mod qu x1 bu;refine ai<|rt<|bb (.cell Z (ag.all hN dN) .nil)<| ?_;exact ⟨by rw [show aF.bare o=(⟨o.by_,o.kind,0,⟨0,0⟩,0⟩:aF) from by unfold aF.bare;congr 1<;>(first | rfl | (split<;>first | rfl | omega))];rfl,ph⟩
   ·simp only [cC] at oW;refine bt<|aj<|J (ao Z (ab.all hN dN))<| ?_;have ag:=ag.mod p7 aO;have ag:=ag.mod p8 aO;refine st (new:= [.int .i64 o.by_, .int .i64 o.kind, .int .i64 0, .int .i64 0, .int .i64 0, .int .i64 o.what]) Z Z ag Z dN Z Z Z λ F9 j' ag=> ?_;have:=j'.size;have rk:=Ext.mod ma j' bu;refine ai<|rt<|bb (.cell Z (ag.all hN dN) .nil)<| ?_;exact ⟨by rw [show aF.bare o=(⟨o.by_,o.kind,0,⟨0,0⟩,o.what⟩:aF) from by unfold aF.bare;congr 1<;>(first | rfl | (split<;>first | rfl | omega))];rfl,rk⟩
  ·simp only [cC] at A3;refine bt<|aA<|aj<|J (av pP Z)<|J (ao Z (ab.one bc Z))<|J (bne Z Z)<|vm Z<|bp Z Z Z Z (λ hc=>av pP Z) Z<|bp Z Z Z Z (λ hc=>ao (gt hc Z) (ab.one bc Z)) Z<|bp Z Z Z Z (λ hc=>bne (gt hc Z) Z) Z<|J (e3 Z Z Z Z)<|ai<| ?_;refine dJ Z (λ rV=> ?_) (λ rV=> ?_)
   ·simp only [cC] at rV;refine rg<|J (av CJ Z)<|st (new:= [.int .i64 o.by_, .int .i64 o.kind, .int .i64 0, .int .i64 o.spot.x, .int .i64 o.spot.y, .int .i64 0]) Z Z ab Z dK Z Z Z λ wN k_ ab=> ?_;have:=k_.size;have mb:=Ext.mod jW k_ bu;refine ai<|aj<|J (ao Z (ab.all hN dN))<| ?_;have ag:=ag.mod p7 aO;have ag:=ag.mod k_ aO;refine st (new:= [.int .i64 o.by_, .int .i64 o.kind, .int .i64 0, .int .i64 o.spot.x, .int .i64 o.spot.y, .int .i64 0]) Z Z ag Z dN Z Z Z λ yl l2 ag=> ?_;have:=l2.size;have jX:=Ext.mod mb l2 bu;refine ai<|rt<|bb (.cell Z (ag.all hN dN) .nil)<| ?_;exact ⟨by rw [show aF.bare o=(⟨o.by_,o.kind,0,⟨o.spot.x,o.spot.y⟩,0⟩:aF) from by unfold aF.bare;congr 1<;>(first | rfl | (split<;>first | rfl | omega))];rfl,jX⟩
   ·simp only [cC] at rV;refine bt<|aj<|J (ao Z (ab.all hN dN))<| ?_;have ag:=ag.mod p7 aO;refine st (new:= [.int .i64 o.by_, .int .i64 o.kind, .int .i64 0, .int .i64 o.spot.x, .int .i64 o.spot.y, .int .i64 o.what]) Z Z ag Z dN Z Z Z λ F_ FG ag=> ?_;have:=FG.size;have tX:=Ext.mod jW FG bu;refine ai<|rt<|bb (.cell Z (ag.all hN dN) .nil)<| ?_;exact ⟨by rw [show aF.bare o=(⟨o.by_,o.kind,0,⟨o.spot.x,o.spot.y⟩,o.what⟩:aF) from by unfold aF.bare;congr 1<;>(first | rfl | (split<;>first | rfl | omega))];rfl,tX⟩
 ·refine bt<|aA<|aj<|J (av pP Z)<|J (ao Z (ab.one bc Z))<|J (bne Z Z)<|vm Z<|bp Z Z Z Z (λ hc=>av pP Z) Z<|bp Z Z Z Z (λ hc=>ao (gt hc Z) (ab.one bc Z)) Z<|bp Z Z Z Z (λ hc=>bne (gt hc Z) Z) Z<|J (e3 Z Z Z Z)<|ai<| ?_;refine dJ Z (λ xE=> ?_) (λ xE=> ?_)
  ·simp only [cC] at xE;refine rg<|J (v:= .agg #[.int .i64 0, .int .i64 0]) (cK Z (by kernel_rfl))<|J (av CI Z)<|st (new:= [.int .i64 o.by_, .int .i64 o.kind, .int .i64 o.aQ, .int .i64 0, .int .i64 0, .int .i64 o.what]) Z Z ab Z bU Z Z Z λ F' gO ab=> ?_;have:=gO.size;have oD:=Ext.mod bQ gO bu;refine ai<|aA<|aj<|J (av pP Z)<|J (ao Z (ab.one bc Z))<|J (bne Z Z)<|vm Z<|bp Z Z Z Z (λ hc=>av pP Z) Z<|bp Z Z Z Z (λ hc=>ao (gt hc Z) (ab.one bc Z)) Z<|bp Z Z Z Z (λ hc=>bne (gt hc Z) Z) Z<|J (e3 Z Z Z Z)<|ai<| ?_;refine dJ Z (λ K_=> ?_) (λ K_=> ?_)
   ·simp only [cC] at K_;refine rg<|J (av CJ Z)<|st (new:= [.int .i64 o.by_, .int .i64 o.kind, .int .i64 o.aQ, .int .i64 0, .int .i64 0, .int .i64 0]) Z Z ab Z dK Z Z Z λ qk la ab=> ?_;have:=la.size;have hH:=Ext.mod oD la bu;refine ai<|aj<|J (ao Z (ab.all hN dN))<| ?_;have ag:=ag.mod gO aO;have ag:=ag.mod la aO;refine st (new:= [.int .i64 o.by_, .int .i64 o.kind, .int .i64 o.aQ, .int .i64 0, .int .i64 0, .int .i64 0]) Z Z ag Z dN Z Z Z λ Ns nI ag=> ?_;have:=nI.size;have sH:=Ext.mod hH nI bu;refine ai<|rt<|bb (.cell Z (ag.all hN dN) .nil)<| ?_;exact ⟨by rw [show aF.bare o=(⟨o.by_,o.kind,o.aQ,⟨0,0⟩,0⟩:aF) from by unfold aF.bare;congr 1<;>(first | rfl | (split<;>first | rfl | omega))];rfl,sH⟩
   ·simp only [cC] at K_;refine bt<|aj<|J (ao Z (ab.all hN dN))<| ?_;have ag:=ag.mod gO aO;refine st (new:= [.int .i64 o.by_, .int .i64 o.kind, .int .i64 o.aQ, .int .i64 0, .int .i64 0, .int .i64 o.what]) Z Z ag Z dN Z Z Z λ Jb X_ ag=> ?_;have:=X_.size;have qy:=Ext.mod oD X_ bu;refine ai<|rt<|bb (.cell Z (ag.all hN dN) .nil)<| ?_;exact ⟨by rw [show aF.bare o=(⟨o.by_,o.kind,o.aQ,⟨0,0⟩,o.what⟩:aF) from by unfold aF.bare;congr 1<;>(first | rfl | (split<;>first | rfl | omega))];rfl,qy⟩
  ·simp only [cC] at xE;refine bt<|aA<|aj<|J (av pP Z)<|J (ao Z (ab.one bc Z))<|J (bne Z Z)<|vm Z<|bp Z Z Z Z (λ hc=>av pP Z) Z<|bp Z Z Z Z (λ hc=>ao (gt hc Z) (ab.one bc Z)) Z<|bp Z Z Z Z (λ hc=>bne (gt hc Z) Z) Z<|J (e3 Z Z Z Z)<|ai<| ?_;refine dJ Z (λ K'=> ?_) (λ K'=> ?_)
   ·simp only [cC] at K';refine rg<|J (av CJ Z)<|st (new:= [.int .i64 o.by_, .int .i64 o.kind, .int .i64 o.aQ, .int .i64 o.spot.x, .int .i64 o.spot.y, .int .i64 0]) Z Z ab Z dK Z Z Z λ Nv ko ab=> ?_;have:=ko.size;have yB:=Ext.mod bQ ko bu;refine ai<|aj<|J (ao Z (ab.all hN dN))<| ?_;have ag:=ag.mod ko aO;refine st (new:= [.int .i64 o.by_, .int .i64 o.kind, .int .i64 o.aQ, .int .i64 o.spot.x, .int .i64 o.spot.y, .int .i64 0]) Z Z ag Z dN Z Z Z λ Jd p_ ag=> ?_;have:=p_.size;have sJ:=Ext.mod yB p_ bu;refine ai<|rt<|bb (.cell Z (ag.all hN dN) .nil)<| ?_;exact ⟨by rw [show aF.bare o=(⟨o.by_,o.kind,o.aQ,⟨o.spot.x,o.spot.y⟩,0⟩:aF) from by unfold aF.bare;congr 1<;>(first | rfl | (split<;>first | rfl | omega))];rfl,sJ⟩
   ·simp only [cC] at K';refine bt<|aj<|J (ao Z (ab.all hN dN))<|st (new:= [.int .i64 o.by_, .int .i64 o.kind, .int .i64 o.aQ, .int .i64 o.spot.x, .int .i64 o.spot.y, .int .i64 o.what]) Z Z ag Z dN Z Z Z λ amc ajc ag=> ?_;have:=ajc.size;have NS:=Ext.mod bQ ajc bu;refine ai<|rt<|bb (.cell Z (ag.all hN dN) .nil)<| ?_;exact ⟨by rw [show aF.bare o=(⟨o.by_,o.kind,o.aQ,⟨o.spot.x,o.spot.y⟩,o.what⟩:aF) from by unfold aF.bare;congr 1<;>(first | rfl | (split<;>first | rfl | omega))];rfl,NS⟩
theorem Ym (o:aF) (w:World):
  Calls prog 104 #[.agg #[.int .i64 o.by_, .int .i64 o.kind, .int .i64 o.aQ, .int .i64 o.spot.x, .int .i64 o.spot.y, .int .i64 o.what]] w (λ e w'=>e= .returned (.int .i64 o.bo)∧Ext w w'):=by
 refine ch (n:=43) func104 Z Z Z ?_;refine aj<|cB Z Z Z Z λ cv bJ a7 ee ab=> ?_;have:=a7.size;have bg:=γ (Ext.bF w) a7;have ei:=ab.lt;refine va Z<|ai<|aA<|aj<|J (av s3 Z)<|J (ao Z (ab.one bc Z))<|ca Hh Z Z ((IC o.by_ 0 7 _).mono ?_);rintro e eK ⟨rfl,cG⟩;refine ⟨_,Z, ?_⟩;have:=cG.size;have bQ:=γ bg cG;refine J (dZ Z)<|vm Z<|bp Z Z Z Z (λ hc=>av pP Z) Z<| ?_;have ab:=ab.later cG;refine bp Z Z Z Z (λ hc=>ao (gt hc Z) (ab.one bc Z)) Z<|zT Z Z Z Z Hh (λ hc=>h1 (gt hc Z) (h1 Z (h1 Z Z))) (λ hc=>IC o.kind 1 5 _) Z λ tK lJ=> ?_;have:=lJ.size;have jj:=γ bQ lJ;refine bp Z Z Z Z (λ hc=>dZ (gt hc Z)) Z<|J (fv Z Z Z Z)<|vm Z<|bp Z Z Z Z (λ hc=>av CH Z) Z<| ?_;have ab:=ab.later lJ;refine bp Z Z Z Z (λ hc=>ao (gt hc Z) (ab.one bc Z)) Z<|zT Z Z Z Z Hh (λ hc=>h1 (gt hc Z) (h1 Z (h1 Z Z))) (λ hc=>IC o.aQ 0 1000000 _) Z λ I6 qp=> ?_;have:=qp.size;have wT:=γ jj qp;refine bp Z Z Z Z (λ hc=>dZ (gt hc Z)) Z<|J (fv Z Z Z Z)<|vm Z<|bp Z Z Z Z (λ hc=>av CI Z) Z<|bp Z Z Z Z (λ hc=>av iL (gt hc Z)) Z<| ?_;have ab:=ab.later qp;refine bp Z Z Z Z (λ hc=>ao (gt hc Z) (ab.one bc Z)) Z<|zT Z Z Z Z Hh (λ hc=>h1 (gt hc Z) (h1 Z (h1 Z Z))) (λ hc=>IC o.spot.x (-1000) 1000 _) Z λ Nh l8=> ?_;have:=l8.size;have tW:=γ wT l8;refine bp Z Z Z Z (λ hc=>dZ (gt hc Z)) Z<|J (fv Z Z Z Z)<|vm Z<|bp Z Z Z Z (λ hc=>av CI Z) Z<|bp Z Z Z Z (λ hc=>av iM (gt hc Z)) Z<| ?_;have ab:=ab.later l8;refine bp Z Z Z Z (λ hc=>ao (gt hc Z) (ab.one bc Z)) Z<|zT Z Z Z Z Hh (λ hc=>h1 (gt hc Z) (h1 Z (h1 Z Z))) (λ hc=>IC o.spot.y (-1000) 1000 _) Z λ yj hD=> ?_;have:=hD.size;have kB:=γ tW hD;refine bp Z Z Z Z (λ hc=>dZ (gt hc Z)) Z<|J (fv Z Z Z Z)<|vm Z<|bp Z Z Z Z (λ hc=>av CJ Z) Z<| ?_;have ab:=ab.later hD;refine bp Z Z Z Z (λ hc=>ao (gt hc Z) (ab.one bc Z)) Z<|zT Z Z Z Z Hh (λ hc=>h1 (gt hc Z) (h1 Z (h1 Z Z))) (λ hc=>IC o.what 0 1000000 _) Z λ yk dW=> ?_;have:=dW.size;have ke:=γ kB dW;refine bp Z Z Z Z (λ hc=>dZ (gt hc Z)) Z<|J (fv Z Z Z Z)<|ai<| ?_;refine dJ Z (λ rU=> ?_) (λ rU=> ?_)
 ·refine aj<|va Z<|ai<|rt<|bT<|bb (.tmp Z .nil)<| ?_;exact ⟨by rw [aF.Uz rU];rfl,ke⟩
 ·refine bt<|aA<|aA<| ?_;refine rd [(0,0),(1,0),(2,0)] [0,1,2,3] (by kernel_rfl) (by kernel_rfl) ?_;have ab:=ab.later dW;refine bH Z (λ _ x=>ao Z ((ab.later x).all hN dN))<|pR Z Z aso Z (λ _ x=>aAs o _) Z<|bH Z (λ _ x=>ao Z ((ab.later x).all hN dN))<|au Z (λ _=>Uk aoo aon (p:=aF.bare o) (q:=o) Z Z)<|fn λ Sy sC=> ?_;have:=sC.size;have z1:=γ ke sC;refine aV<| ?_;refine dJ Z (λ K6=> ?_) (λ K6=> ?_)
  ·refine aj<|va Z<|ai<|rt<|bT<|bb (.tmp Z .nil)<| ?_;exact ⟨by rw [aF.aqv rU K6];rfl,z1⟩
  ·refine bt<|aj<|va Z<|ai<|rt<|bb (.tmp Z .nil)<| ?_;exact ⟨by rw [aF.aqw rU K6];rfl,z1⟩
theorem Yl (A:Option Addr) (c:Nat) (l:List aF) (w:World) (az:aF.rep.aJ 48 w A c l):
  Calls prog 87 #[.slice A l.length c] w (λ e w'=>e= .returned (.int .i64 (hC l))∧Ext w w'):=by
 have oc:=az.ez;refine ch (n:=21) func87 Z Z Z ?_;refine aj<|va Z<|ai<|aA<|aj<|vm Z<|J (cA underlying44 Z)<|J (iw Z Z)<|ai<| ?_;refine eg Z (λ mo=> ?_) (λ mo=> ?_)
 ·refine aj<|va Z<|ai<|rt<|bT<|bb (.tmp Z .nil)<| ?_;exact ⟨by rw [aAR (by omega)];rfl,(Ext.bF w)⟩
 ·refine bt<|aA<|aj<|vm Z<|J (cA underlying44 Z)<|vm Z<|ai<|bM<| ?_;refine e8 (λ cm cl aU=>∃ k:Nat,cl= [(9, .slice A l.length c),(10, .int .i64 (l.length:Int)),(11, .int .i64 (k:Int))]∧cm=l.length - k∧Ext w aU∧(k≤l.length)∧(∀ i,i<k→(l.getD i default).bo=0)) _ _ ⟨0,Z,Z,(Ext.bF w),by omega,λ i aq=>by omega⟩ (.cons Z (.cons Z (.cons (bZ Z (by first | omega | rfl | (simp<;>omega))) .nil))) ?_;rintro X8 Tl lg ⟨k,rfl,rfl,eB,ar,aK⟩;have:=eB.size;refine aj<|J (blt Z Z)<|ai<|aA<| ?_;refine eg Z (λ pV=> ?_) (λ pV=> ?_)
  ·refine bt<|aA<|bM<|aj<|J (b' k underlying44 dN Z Z ((az.keep eB).bR (ba k)) Z (by omega))<|J (ao Z (κ.aJ.ho CX ((az.keep eB).cu (ba k)) (dv (l:=l) (u:=default) (by omega)) hN dN))<|al Z KA Z Z λ Nu OZ cG ayL mB=> ?_;have:=cG.size;have vw:=γ eB cG;have aBP:=mB.lt;refine st (new:= [.int .i64 ((l.getD k default).by_), .int .i64 ((l.getD k default).kind), .int .i64 ((l.getD k default).aQ), .int .i64 ((l.getD k default).spot.x), .int .i64 ((l.getD k default).spot.y), .int .i64 ((l.getD k default).what)]) Z Z mB Z dN Z Z Z λ I6 q4 mB=> ?_;have:=q4.size;have wT:=Ext.mod vw q4 bu;refine ai<|aj<|J (ao Z (mB.all hN dN))<|ca US Z Z ((Ym (l.getD k default) _).mono ?_);rintro e vd ⟨rfl,iB⟩;refine ⟨_,Z, ?_⟩;have:=iB.size;have ik:=γ wT iB;refine va Z<|ai<|aj<|vm Z<|J (bne Z Z)<|ai<| ?_;refine e1 Z (λ v7=> ?_) (λ v7=> ?_)
   ·refine aj<|vm Z<|va Z<|ai<|rt<|e_<|bT<|nR<|e_<|bT<|bb (.tmp Z .nil)<| ?_;exact ⟨by rw [aAQ (by omega) (show k<l.length by omega) aK (by simpa using v7)];rfl,ik⟩
   ·refine e9<|b0<|aV<|rg<|J (bad Z Z (bE (by omega)))<|vm Z<|nl<| ?_;exact c6 _ _ ⟨k+1,Z,Z,ik,by omega,wk aK (by simpa using v7)⟩ (by omega) (.cons Z (.cons Z (.cons (bZ Z (by first | omega | rfl | (simp<;>omega))) .nil)))
  ·refine dH<|dG<|ef<|dF<|aV<|aj<|va Z<|ai<|rt<|bb (.tmp Z .nil)<| ?_;exact ⟨by rw [aAS (by omega) (λ i aq=>aK i (by omega))];rfl,eB⟩
end
section
theorem aoG:eC prog dk.rep 123 223 16:=eC.kT (z:=dk.zero) (k:=2) underlying123 dk.info rfl rfl (by decide) dk.h8
theorem aoH:eC prog dm.rep 124 225 24:=eC.kT (z:=dm.zero) (k:=3) underlying124 dm.info rfl rfl (by decide) dm.h8
theorem TT:eC prog cn.rep 125 178 40:=eC.kT (z:=cn.zero) (k:=5) underlying125 cn.info rfl rfl (by decide) cn.h8
def nN (o:aF):List dk:=if o.kind=1 then [⟨o.aQ,o.what⟩] else []
def nP (o:aF):List dm:=if o.kind=2 then [⟨o.aQ,⟨o.spot.x,o.spot.y⟩⟩] else []
def nO (o:aF):List cn:=if o.kind=3 then [⟨1,o.aQ,⟨o.spot.x,o.spot.y⟩,0⟩] else if o.kind=4 then [⟨2,o.aQ,⟨0,0⟩,0⟩] else if o.kind=5 then [⟨3,o.by_,⟨0,0⟩,o.what⟩] else []
theorem ab3 (o:aF) (w0:World) (uu:Nat) (A B C:Option Addr) (a b c:Nat) (tE:List dk) (yc:List dm) (zE:List cn) (w:World) (hQ:Ext w0 w) (eh:o.ok) (hS:aR w uu [.slice A tE.length a, .slice B yc.length b, .slice C zE.length c] 169 (0,0)) (hA:dk.rep.aD 223 16 w w0.heap.size (κ.ae A) A a tE) (aX:dm.rep.aD 225 24 w w0.heap.size (κ.ae B) B b yc) (dM:cn.rep.aD 178 40 w w0.heap.size (κ.ae C) C c zE) (vQ:∀ q∈κ.ae A,q=uu→False) (vR:∀ q∈κ.ae B,q=uu→False) (sZ:∀ q∈κ.ae C,q=uu→False) (CC:∀ q∈κ.ae B,q∈κ.ae A→False) (y7:∀ q∈κ.ae C,q∈κ.ae A→False) (y8:∀ q∈κ.ae C,q∈κ.ae B→False) (FL:tE.length≤100) (uY:yc.length≤100) (qa:zE.length≤100):
  Calls prog 94 #[.pointer (some ⟨uu,0,none⟩), .agg #[.int .i64 o.by_, .int .i64 o.kind, .int .i64 o.aQ, .int .i64 o.spot.x, .int .i64 o.spot.y, .int .i64 o.what]] w (λ e w'=>∃ bG a' rv rH D4 b4,e= .returned (.tuple #[])∧aR w' uu [.slice bG (tE++nN o).length a', .slice rv (yc++nP o).length rH, .slice D4 (zE++nO o).length b4] 169 (0,0)∧dk.rep.aD 223 16 w' w0.heap.size (κ.ae bG) bG a' (tE++nN o)∧dm.rep.aD 225 24 w' w0.heap.size (κ.ae rv) rv rH (yc++nP o)∧cn.rep.aD 178 40 w' w0.heap.size (κ.ae D4) D4 b4 (zE++nO o)∧(∀ q∈κ.ae bG,q=uu→False)∧(∀ q∈κ.ae rv,q=uu→False)∧(∀ q∈κ.ae D4,q=uu→False)∧(∀ q∈κ.ae rv,q∈κ.ae bG→False)∧(∀ q∈κ.ae D4,q∈κ.ae bG→False)∧(∀ q∈κ.ae D4,q∈κ.ae rv→False)∧(∀ q∈κ.ae bG,q∈κ.ae A∨w.heap.size≤q)∧(∀ q∈κ.ae rv,q∈κ.ae B∨w.heap.size≤q)∧(∀ q∈κ.ae D4,q∈κ.ae C∨w.heap.size≤q)∧Mod (uu::(κ.ae A++(κ.ae B++κ.ae C))) w w'):=by
 have axR:=hQ.size;have kV:=hS.lt;have IY:=λ q I=>(hA.lt q I).2;have R9:=λ q I=>(aX.lt q I).2;have alw:=λ q I=>(dM.lt q I).2;have Q6:∀ q∈κ.ae A,w0.heap.size≤q:=λ q I=>(hA.lt q I).1;have XM:∀ q∈κ.ae B,w0.heap.size≤q:=λ q I=>(aX.lt q I).1;have aLF:∀ q∈κ.ae C,w0.heap.size≤q:=λ q I=>(dM.lt q I).1;refine ch (n:=84) func94 Z Z Z ?_;refine aj<|cB Z Z Z Z λ cv bJ a7 ee ab=> ?_;have:=a7.size;have bg:=(Mod.bF (uu::(κ.ae A++(κ.ae B++κ.ae C))) w).trans (Mod.bC a7);have ei:=ab.lt;refine ai<|aj<|J (av pP Z)<|J (ao Z (ab.one bc Z))<|ai<|bM<|aj<|J (beq Z Z)<|va Z<|ai<| ?_;refine i' Z (λ qT=> ?_) (λ qT=> ?_)
 ·refine rd [(4,0),(6,0),(8,0),(10,2),(11,3),(14,3)] [0,1,2,3,4,5,6,7,8,9,10,11,12,13,14] (by kernel_rfl) (by kernel_rfl) ?_;refine au Z (λ _=>aM Z)<|au Z (λ _=>aM Z)<|au Z (λ _=>b3 Z)<|au Z (λ _=>av UT Z)<| ?_;have hS:=hS.later a7;refine bH Z (λ _ x=>ao Z ((hS.later x).one ad3 Z))<|au Z (λ _=>av CH Z)<|bH Z (λ _ x=>ao Z ((ab.later x).one bc Z))<|au Z (λ _=>av CJ Z)<|bH Z (λ _ x=>ao Z ((ab.later x).one bc Z))<|rS (v:= .agg #[.int .i64 o.aQ, .int .i64 o.what]) Z Z (λ _=>cK Z (by kernel_rfl)) Z<|gm Z Z Z λ vg bl Q hK=>cX (e:= 223) (cs:= [.int .i64 o.aQ, .int .i64 o.what]) Z (λ _=>by kernel_rfl) Z λ tK xh c' H' eV=>hK _ _ ⟨γ bl c', ?_⟩;have:=bl.size;have jY:=bg.trans (Mod.bC bl);have:=c'.size;have jj:=jY.trans (Mod.bC c');have akc:=eV.lt;have hA:=hA.later (γ a7 (γ bl c'));refine eP Z Z Z λ F7 vo Q hK=>ap aoG κ.di (hA.later vo) ((aR.gB (R:=dk.rep) (by_:=16) (q:=(⟨o.aQ,o.what⟩:dk)) eV ⟨Z,(by obtain ⟨FN,o_,l3,nM,oi,qc⟩:=eh;exact ⟨l3,qc⟩)⟩ (by decide)).keep vo) Z Z (by simp only [aRG,aRM];omega) (by simp only [aRG,aRM];omega) (by have:=vo.size;omega) Z λ BH DX Uw lD uk Hy aAa=>hK _ _ ?_;have:=vo.size;have sF:=jj.trans (Mod.bC vo);have:=lD.size;have ma:=sF.md lD (λ q I=> .inl (aRQ _ (aRR.2 (.inl I))));have aD2:=λ q I=>(uk.lt q I).2;have:=lD.size;refine au Z (λ _=>b3 Z)<|au Z (λ _=>av UT Z)<| ?_;have hS:=hS.later (γ bl (γ c' vo));have hS:=hS.mod lD (λ I=>vQ _ I rfl);refine eP Z Z Z λ zV hT Q hK=>st (new:= [.slice DX ((tE++ [(⟨o.aQ,o.what⟩:dk)]).length) Uw, .slice B yc.length b, .slice C zE.length c]) Z Z (hS.later hT) Z asp Z Z Z λ F9 j' hS=>hK _ _ ?_;have:=hT.size;have my:=ma.trans (Mod.bC hT);have:=j'.size;have rk:=my.md j' (λ q I=> .inl (by rw [aRz.1 I];exact aRZ));refine fn λ wN eS=> ?_;have:=eS.size;have mb:=rk.trans (Mod.bC eS);refine b0<|ne<|bb .nil<| ?_;have hS:=hS.later eS;have uk:=uk.later hT;have uk:=uk.mod j' (λ q I h=>by have Φ:=aRz.1 h;exfalso;(exact aRO (Hy q I) (λ Me=>by (exact vQ q Me Φ)) (λ Me=>by omega)));have uk:=uk.later eS;have aX:=aX.later (γ a7 (γ bl (γ c' vo)));have aX:=aX.mod lD (λ q I h=>by exfalso;(exact CC q I h));have aX:=aX.later hT;have aX:=aX.mod j' (λ q I h=>by have Φ:=aRz.1 h;exfalso;(exact vR q I Φ));have aX:=aX.later eS;have dM:=dM.later (γ a7 (γ bl (γ c' vo)));have dM:=dM.mod lD (λ q I h=>by exfalso;(exact y7 q I h));have dM:=dM.later hT;have dM:=dM.mod j' (λ q I h=>by have Φ:=aRz.1 h;exfalso;(exact sZ q I Φ));have dM:=dM.later eS;have a_:nN o= [(⟨o.aQ,o.what⟩:dk)]:=by unfold nN;simp [*]
  have bj:nP o= []:=by unfold nP;simp [*]
  have cV:nO o= []:=by unfold nO;simp [*]
  rw [a_,bj,cV];simp only [aR7];exact ⟨DX,Uw,B,b,C,c,Z,hS,uk,aX,dM,(λ q I Φ=>by (exact aRO (Hy q I) (λ ail=>by (exact vQ q ail Φ)) (λ ail=>by omega))),(λ q I Φ=>by (exact vR q I Φ)),(λ q I Φ=>by (exact sZ q I Φ)),(λ q I Φ=>by (exact aRO (Hy q Φ) (λ aim=>by (exact CC q I aim)) (λ aim=>by (have:=R9 q I;omega)))),(λ q I Φ=>by (exact aRO (Hy q Φ) (λ Q3=>by (exact y7 q I Q3)) (λ Q3=>by (have:=alw q I;omega)))),(λ q I Φ=>by (exact y8 q I Φ)),(λ q I=>(Hy q I).imp id λ h=>by omega),(λ q I=> .inl I),(λ q I=> .inl I),mb⟩
 ·refine aj<|J (beq Z Z)<|va Z<|ai<| ?_;refine i' Z (λ K9=> ?_) (λ K9=> ?_)
  ·refine rd [(4,0),(6,0),(8,0),(10,2),(11,3),(14,3)] [0,1,2,3,4,5,6,7,8,9,10,11,12,13,14] (by kernel_rfl) (by kernel_rfl) ?_;refine au Z (λ _=>aM Z)<|au Z (λ _=>aM Z)<|au Z (λ _=>b3 Z)<|au Z (λ _=>av UU Z)<| ?_;have hS:=hS.later a7;refine bH Z (λ _ x=>ao Z ((hS.later x).one ad4 Z))<|au Z (λ _=>av CH Z)<|bH Z (λ _ x=>ao Z ((ab.later x).one bc Z))<|au Z (λ _=>av CI Z)<|bH Z (λ _ x=>ao Z ((ab.later x).par [.int .i64 o.spot.x, .int .i64 o.spot.y] cj bU Z))<|rS (v:= .agg #[.int .i64 o.aQ, .int .i64 o.spot.x, .int .i64 o.spot.y]) Z Z (λ _=>cK Z (by kernel_rfl)) Z<|gm Z Z Z λ F_ hE Q hK=>cX (e:= 225) (cs:= [.int .i64 o.aQ, .int .i64 o.spot.x, .int .i64 o.spot.y]) Z (λ _=>by kernel_rfl) Z λ I_ AF eU aiT vB=>hK _ _ ⟨γ hE eU, ?_⟩;have:=hE.size;have tX:=bg.trans (Mod.bC hE);have:=eU.size;have vv:=tX.trans (Mod.bC eU);have IJ:=vB.lt;have aX:=aX.later (γ a7 (γ hE eU));refine eP Z Z Z λ qk ek Q hK=>ap aoH κ.di (aX.later ek) ((aR.gB (R:=dm.rep) (by_:=24) (q:=(⟨o.aQ,⟨o.spot.x,o.spot.y⟩⟩:dm)) vB ⟨Z,(by obtain ⟨FN,o_,l3,nM,oi,qc⟩:=eh;exact ⟨l3,nM,oi⟩)⟩ (by decide)).keep ek) Z Z (by simp only [aRG,aRM];omega) (by simp only [aRG,aRM];omega) (by have:=ek.size;omega) Z λ ZC N2 Pd nI xb vX aAb=>hK _ _ ?_;have:=ek.size;have hH:=vv.trans (Mod.bC ek);have:=nI.size;have Gq:=hH.md nI (λ q I=> .inl (aRQ _ (aRR.2 (.inr (aRR.2 (.inl I))))));have Sk:=λ q I=>(xb.lt q I).2;have:=nI.size;refine au Z (λ _=>b3 Z)<|au Z (λ _=>av UU Z)<| ?_;have hS:=hS.later (γ hE (γ eU ek));have hS:=hS.mod nI (λ I=>vR _ I rfl);refine eP Z Z Z λ Nv ri Q hK=>st (new:= [.slice A tE.length a, .slice N2 ((yc++ [(⟨o.aQ,⟨o.spot.x,o.spot.y⟩⟩:dm)]).length) Pd, .slice C zE.length c]) Z Z (hS.later ri) Z asq Z Z Z λ ZF tz hS=>hK _ _ ?_;have:=ri.size;have yB:=Gq.trans (Mod.bC ri);have:=tz.size;have Gs:=yB.md tz (λ q I=> .inl (by rw [aRz.1 I];exact aRZ));refine fn λ Nw dz=> ?_;have:=dz.size;have rp:=Gs.trans (Mod.bC dz);refine b0<|ne<|bb .nil<| ?_;have hS:=hS.later dz;have hA:=hA.later (γ a7 (γ hE (γ eU ek)));have hA:=hA.mod nI (λ q I h=>by exfalso;(exact CC q h I));have hA:=hA.later ri;have hA:=hA.mod tz (λ q I h=>by have Φ:=aRz.1 h;exfalso;(exact vQ q I Φ));have hA:=hA.later dz;have xb:=xb.later ri;have xb:=xb.mod tz (λ q I h=>by have Φ:=aRz.1 h;exfalso;(exact aRO (vX q I) (λ Mh=>by (exact vR q Mh Φ)) (λ Mh=>by omega)));have xb:=xb.later dz;have dM:=dM.later (γ a7 (γ hE (γ eU ek)));have dM:=dM.mod nI (λ q I h=>by exfalso;(exact y8 q I h));have dM:=dM.later ri;have dM:=dM.mod tz (λ q I h=>by have Φ:=aRz.1 h;exfalso;(exact sZ q I Φ));have dM:=dM.later dz;have a_:nN o= []:=by unfold nN;simp [*]
   have bj:nP o= [(⟨o.aQ,⟨o.spot.x,o.spot.y⟩⟩:dm)]:=by unfold nP;simp [*]
   have cV:nO o= []:=by unfold nO;simp [*]
   rw [a_,bj,cV];simp only [aR7];exact ⟨A,a,N2,Pd,C,c,Z,hS,hA,xb,dM,(λ q I Φ=>by (exact vQ q I Φ)),(λ q I Φ=>by (exact aRO (vX q I) (λ Mi=>by (exact vR q Mi Φ)) (λ Mi=>by omega))),(λ q I Φ=>by (exact sZ q I Φ)),(λ q I Φ=>by (exact aRO (vX q I) (λ xV=>by (exact CC q xV Φ)) (λ xV=>by (have:=IY q Φ;omega)))),(λ q I Φ=>by (exact y7 q I Φ)),(λ q I Φ=>by (exact aRO (vX q Φ) (λ Da=>by (exact y8 q I Da)) (λ Da=>by (have:=alw q I;omega)))),(λ q I=> .inl I),(λ q I=>(vX q I).imp id λ h=>by omega),(λ q I=> .inl I),rp⟩
  ·refine aj<|J (beq Z Z)<|va Z<|ai<| ?_;refine i' Z (λ uL=> ?_) (λ uL=> ?_)
   ·refine rd [(4,0),(6,0),(8,0),(10,2),(11,3),(14,3)] [0,1,2,3,4,5,6,7,8,9,10,11,12,13,14] (by kernel_rfl) (by kernel_rfl) ?_;refine au Z (λ _=>aM Z)<|au Z (λ _=>aM Z)<|au Z (λ _=>b3 Z)<|au Z (λ _=>av EI Z)<| ?_;have hS:=hS.later a7;refine bH Z (λ _ x=>ao Z ((hS.later x).one PD Z))<|au Z (λ _=>av CH Z)<|bH Z (λ _ x=>ao Z ((ab.later x).one bc Z))<|au Z (λ _=>av CI Z)<|bH Z (λ _ x=>ao Z ((ab.later x).par [.int .i64 o.spot.x, .int .i64 o.spot.y] cj bU Z))<|rS (v:= .agg #[.int .i64 1, .int .i64 o.aQ, .int .i64 o.spot.x, .int .i64 o.spot.y, .int .i64 0]) Z Z (λ _=>cK Z (by kernel_rfl)) Z<|gm Z Z Z λ SC eL Q hK=>cX (e:= 178) (cs:= [.int .i64 1, .int .i64 o.aQ, .int .i64 o.spot.x, .int .i64 o.spot.y, .int .i64 0]) Z (λ _=>by kernel_rfl) Z λ Gb apg ll ayZ D3=>hK _ _ ⟨γ eL ll, ?_⟩;have:=eL.size;have z6:=bg.trans (Mod.bC eL);have:=ll.size;have kf:=z6.trans (Mod.bC ll);have aPa:=D3.lt;have dM:=dM.later (γ a7 (γ eL ll));refine eP Z Z Z λ SH kA Q hK=>ap TT κ.di (dM.later kA) ((aR.gB (R:=cn.rep) (by_:=40) (q:=(⟨1,o.aQ,⟨o.spot.x,o.spot.y⟩,0⟩:cn)) D3 ⟨Z,(by obtain ⟨FN,o_,l3,nM,oi,qc⟩:=eh;exact ⟨bI.2 (by (try dsimp only);omega),l3,nM,oi,bI.2 (by (try dsimp only);omega)⟩)⟩ (by decide)).keep kA) Z Z (by simp only [aRG,aRM];omega) (by simp only [aRG,aRM];omega) (by have:=kA.size;omega) Z λ ame aai acJ xY Ch KL aNl=>hK _ _ ?_;have:=kA.size;have B3:=kf.trans (Mod.bC kA);have:=xY.size;have NU:=B3.md xY (λ q I=> .inl (aRQ _ (aRR.2 (.inr (aRR.2 (.inr I))))));have aPO:=λ q I=>(Ch.lt q I).2;have:=xY.size;refine au Z (λ _=>b3 Z)<|au Z (λ _=>av EI Z)<| ?_;have hS:=hS.later (γ eL (γ ll kA));have hS:=hS.mod xY (λ I=>sZ _ I rfl);refine eP Z Z Z λ alY jS Q hK=>st (new:= [.slice A tE.length a, .slice B yc.length b, .slice aai ((zE++ [(⟨1,o.aQ,⟨o.spot.x,o.spot.y⟩,0⟩:cn)]).length) acJ]) Z Z (hS.later jS) Z UW Z Z Z λ aEK jE hS=>hK _ _ ?_;have:=jS.size;have NF:=NU.trans (Mod.bC jS);have:=jE.size;have ZV:=NF.md jE (λ q I=> .inl (by rw [aRz.1 I];exact aRZ));refine fn λ Zz vl=> ?_;have:=vl.size;have Gn:=ZV.trans (Mod.bC vl);refine b0<|ne<|bb .nil<| ?_;have hS:=hS.later vl;have hA:=hA.later (γ a7 (γ eL (γ ll kA)));have hA:=hA.mod xY (λ q I h=>by exfalso;(exact y7 q h I));have hA:=hA.later jS;have hA:=hA.mod jE (λ q I h=>by have Φ:=aRz.1 h;exfalso;(exact vQ q I Φ));have hA:=hA.later vl;have aX:=aX.later (γ a7 (γ eL (γ ll kA)));have aX:=aX.mod xY (λ q I h=>by exfalso;(exact y8 q h I));have aX:=aX.later jS;have aX:=aX.mod jE (λ q I h=>by have Φ:=aRz.1 h;exfalso;(exact vR q I Φ));have aX:=aX.later vl;have Ch:=Ch.later jS;have Ch:=Ch.mod jE (λ q I h=>by have Φ:=aRz.1 h;exfalso;(exact aRO (KL q I) (λ C_=>by (exact sZ q C_ Φ)) (λ C_=>by omega)));have Ch:=Ch.later vl;have a_:nN o= []:=by unfold nN;simp [*]
    have bj:nP o= []:=by unfold nP;simp [*]
    have cV:nO o= [(⟨1,o.aQ,⟨o.spot.x,o.spot.y⟩,0⟩:cn)]:=by unfold nO;simp [*]
    rw [a_,bj,cV];simp only [aR7];exact ⟨A,a,B,b,aai,acJ,Z,hS,hA,aX,Ch,(λ q I Φ=>by (exact vQ q I Φ)),(λ q I Φ=>by (exact vR q I Φ)),(λ q I Φ=>by (exact aRO (KL q I) (λ L3=>by (exact sZ q L3 Φ)) (λ L3=>by omega))),(λ q I Φ=>by (exact CC q I Φ)),(λ q I Φ=>by (exact aRO (KL q I) (λ L4=>by (exact y7 q L4 Φ)) (λ L4=>by (have:=IY q Φ;omega)))),(λ q I Φ=>by (exact aRO (KL q I) (λ L5=>by (exact y8 q L5 Φ)) (λ L5=>by (have:=R9 q Φ;omega)))),(λ q I=> .inl I),(λ q I=> .inl I),(λ q I=>(KL q I).imp id λ h=>by omega),Gn⟩
   ·refine aj<|J (beq Z Z)<|va Z<|ai<| ?_;refine i' Z (λ ava=> ?_) (λ ava=> ?_)
    ·refine rd [(4,0),(6,0),(8,2),(9,3),(12,3)] [0,1,2,3,4,5,6,7,8,9,10,11,12] (by kernel_rfl) (by kernel_rfl) ?_;refine au Z (λ _=>aM Z)<|au Z (λ _=>aM Z)<|au Z (λ _=>b3 Z)<|au Z (λ _=>av EI Z)<| ?_;have hS:=hS.later a7;refine bH Z (λ _ x=>ao Z ((hS.later x).one PD Z))<|au Z (λ _=>av CH Z)<|bH Z (λ _ x=>ao Z ((ab.later x).one bc Z))<|rS (v:= .agg #[.int .i64 2, .int .i64 o.aQ, .int .i64 0, .int .i64 0, .int .i64 0]) Z Z (λ _=>cK Z (by kernel_rfl)) Z<|gm Z Z Z λ aEL Gd Q hK=>cX (e:= 178) (cs:= [.int .i64 2, .int .i64 o.aQ, .int .i64 0, .int .i64 0, .int .i64 0]) Z (λ _=>by kernel_rfl) Z λ aQD aH0 Ge aL0 aas=>hK _ _ ⟨γ Gd Ge, ?_⟩;have:=Gd.size;have ZW:=bg.trans (Mod.bC Gd);have:=Ge.size;have aFL:=ZW.trans (Mod.bC Ge);have aOp:=aas.lt;have dM:=dM.later (γ a7 (γ Gd Ge));refine eP Z Z Z λ al3 DM Q hK=>ap TT κ.di (dM.later DM) ((aR.gB (R:=cn.rep) (by_:=40) (q:=(⟨2,o.aQ,⟨0,0⟩,0⟩:cn)) aas ⟨Z,(by obtain ⟨FN,o_,l3,nM,oi,qc⟩:=eh;exact ⟨bI.2 (by (try dsimp only);omega),l3,bI.2 (by (try dsimp only);omega),bI.2 (by (try dsimp only);omega),bI.2 (by (try dsimp only);omega)⟩)⟩ (by decide)).keep DM) Z Z (by simp only [aRG,aRM];omega) (by simp only [aRG,aRM];omega) (by have:=DM.size;omega) Z λ ZA aab acD Ij Ci KN aNt=>hK _ _ ?_;have:=DM.size;have NJ:=aFL.trans (Mod.bC DM);have:=Ij.size;have yv:=NJ.md Ij (λ q I=> .inl (aRQ _ (aRR.2 (.inr (aRR.2 (.inr I))))));have aPV:=λ q I=>(Ci.lt q I).2;have:=Ij.size;refine au Z (λ _=>b3 Z)<|au Z (λ _=>av EI Z)<| ?_;have hS:=hS.later (γ Gd (γ Ge DM));have hS:=hS.mod Ij (λ I=>sZ _ I rfl);refine eP Z Z Z λ aQM Jl Q hK=>st (new:= [.slice A tE.length a, .slice B yc.length b, .slice aab ((zE++ [(⟨2,o.aQ,⟨0,0⟩,0⟩:cn)]).length) acD]) Z Z (hS.later Jl) Z UW Z Z Z λ al5 Bn hS=>hK _ _ ?_;have:=Jl.size;have aFT:=yv.trans (Mod.bC Jl);have:=Bn.size;have Jt:=aFT.md Bn (λ q I=> .inl (by rw [aRz.1 I];exact aRZ));refine fn λ aQP qq=> ?_;have:=qq.size;have aFW:=Jt.trans (Mod.bC qq);refine b0<|ne<|bb .nil<| ?_;have hS:=hS.later qq;have hA:=hA.later (γ a7 (γ Gd (γ Ge DM)));have hA:=hA.mod Ij (λ q I h=>by exfalso;(exact y7 q h I));have hA:=hA.later Jl;have hA:=hA.mod Bn (λ q I h=>by have Φ:=aRz.1 h;exfalso;(exact vQ q I Φ));have hA:=hA.later qq;have aX:=aX.later (γ a7 (γ Gd (γ Ge DM)));have aX:=aX.mod Ij (λ q I h=>by exfalso;(exact y8 q h I));have aX:=aX.later Jl;have aX:=aX.mod Bn (λ q I h=>by have Φ:=aRz.1 h;exfalso;(exact vR q I Φ));have aX:=aX.later qq;have Ci:=Ci.later Jl;have Ci:=Ci.mod Bn (λ q I h=>by have Φ:=aRz.1 h;exfalso;(exact aRO (KN q I) (λ C'=>by (exact sZ q C' Φ)) (λ C'=>by omega)));have Ci:=Ci.later qq;have a_:nN o= []:=by unfold nN;simp [*]
     have bj:nP o= []:=by unfold nP;simp [*]
     have cV:nO o= [(⟨2,o.aQ,⟨0,0⟩,0⟩:cn)]:=by unfold nO;simp [*]
     rw [a_,bj,cV];simp only [aR7];exact ⟨A,a,B,b,aab,acD,Z,hS,hA,aX,Ci,(λ q I Φ=>by (exact vQ q I Φ)),(λ q I Φ=>by (exact vR q I Φ)),(λ q I Φ=>by (exact aRO (KN q I) (λ L8=>by (exact sZ q L8 Φ)) (λ L8=>by omega))),(λ q I Φ=>by (exact CC q I Φ)),(λ q I Φ=>by (exact aRO (KN q I) (λ L9=>by (exact y7 q L9 Φ)) (λ L9=>by (have:=IY q Φ;omega)))),(λ q I Φ=>by (exact aRO (KN q I) (λ L_=>by (exact y8 q L_ Φ)) (λ L_=>by (have:=R9 q Φ;omega)))),(λ q I=> .inl I),(λ q I=> .inl I),(λ q I=>(KN q I).imp id λ h=>by omega),aFW⟩
    ·refine aj<|J (beq Z Z)<|va Z<|ai<| ?_;refine i' Z (λ avg=> ?_) (λ avg=> ?_)
     ·refine rd [(4,0),(6,0),(8,0),(10,2),(11,3),(14,3)] [0,1,2,3,4,5,6,7,8,9,10,11,12,13,14] (by kernel_rfl) (by kernel_rfl) ?_;refine au Z (λ _=>aM Z)<|au Z (λ _=>aM Z)<|au Z (λ _=>b3 Z)<|au Z (λ _=>av EI Z)<| ?_;have hS:=hS.later a7;refine bH Z (λ _ x=>ao Z ((hS.later x).one PD Z))<|au Z (λ _=>av s3 Z)<|bH Z (λ _ x=>ao Z ((ab.later x).one bc Z))<|au Z (λ _=>av CJ Z)<|bH Z (λ _ x=>ao Z ((ab.later x).one bc Z))<|rS (v:= .agg #[.int .i64 3, .int .i64 o.by_, .int .i64 0, .int .i64 0, .int .i64 o.what]) Z Z (λ _=>cK Z (by kernel_rfl)) Z<|gm Z Z Z λ Sx Gi Q hK=>cX (e:= 178) (cs:= [.int .i64 3, .int .i64 o.by_, .int .i64 0, .int .i64 0, .int .i64 o.what]) Z (λ _=>by kernel_rfl) Z λ aER aH8 Gj aL9 aaz=>hK _ _ ⟨γ Gi Gj, ?_⟩;have:=Gi.size;have Z0:=bg.trans (Mod.bC Gi);have:=Gj.size;have Z1:=Z0.trans (Mod.bC Gj);have aOz:=aaz.lt;have dM:=dM.later (γ a7 (γ Gi Gj));refine eP Z Z Z λ aQX DO Q hK=>ap TT κ.di (dM.later DO) ((aR.gB (R:=cn.rep) (by_:=40) (q:=(⟨3,o.by_,⟨0,0⟩,o.what⟩:cn)) aaz ⟨Z,(by obtain ⟨FN,o_,l3,nM,oi,qc⟩:=eh;exact ⟨bI.2 (by (try dsimp only);omega),FN,bI.2 (by (try dsimp only);omega),bI.2 (by (try dsimp only);omega),qc⟩)⟩ (by decide)).keep DO) Z Z (by simp only [aRG,aRM];omega) (by simp only [aRG,aRM];omega) (by have:=DO.size;omega) Z λ aQY aaf acF Io Ck KO aNB=>hK _ _ ?_;have:=DO.size;have aF3:=Z1.trans (Mod.bC DO);have:=Io.size;have aF4:=aF3.md Io (λ q I=> .inl (aRQ _ (aRR.2 (.inr (aRR.2 (.inr I))))));have aP2:=λ q I=>(Ck.lt q I).2;have:=Io.size;refine au Z (λ _=>b3 Z)<|au Z (λ _=>av EI Z)<| ?_;have hS:=hS.later (γ Gi (γ Gj DO));have hS:=hS.mod Io (λ I=>sZ _ I rfl);refine eP Z Z Z λ aQ3 Jn Q hK=>st (new:= [.slice A tE.length a, .slice B yc.length b, .slice aaf ((zE++ [(⟨3,o.by_,⟨0,0⟩,o.what⟩:cn)]).length) acF]) Z Z (hS.later Jn) Z UW Z Z Z λ aQ4 MA hS=>hK _ _ ?_;have:=Jn.size;have aF8:=aF4.trans (Mod.bC Jn);have:=MA.size;have aF9:=aF8.md MA (λ q I=> .inl (by rw [aRz.1 I];exact aRZ));refine fn λ aET rf=> ?_;have:=rf.size;have Z2:=aF9.trans (Mod.bC rf);refine b0<|ne<|bb .nil<| ?_;have hS:=hS.later rf;have hA:=hA.later (γ a7 (γ Gi (γ Gj DO)));have hA:=hA.mod Io (λ q I h=>by exfalso;(exact y7 q h I));have hA:=hA.later Jn;have hA:=hA.mod MA (λ q I h=>by have Φ:=aRz.1 h;exfalso;(exact vQ q I Φ));have hA:=hA.later rf;have aX:=aX.later (γ a7 (γ Gi (γ Gj DO)));have aX:=aX.mod Io (λ q I h=>by exfalso;(exact y8 q h I));have aX:=aX.later Jn;have aX:=aX.mod MA (λ q I h=>by have Φ:=aRz.1 h;exfalso;(exact vR q I Φ));have aX:=aX.later rf;have Ck:=Ck.later Jn;have Ck:=Ck.mod MA (λ q I h=>by have Φ:=aRz.1 h;exfalso;(exact aRO (KO q I) (λ ahQ=>by (exact sZ q ahQ Φ)) (λ ahQ=>by omega)));have Ck:=Ck.later rf;have a_:nN o= []:=by unfold nN;simp [*]
      have bj:nP o= []:=by unfold nP;simp [*]
      have cV:nO o= [(⟨3,o.by_,⟨0,0⟩,o.what⟩:cn)]:=by unfold nO;simp [*]
      rw [a_,bj,cV];simp only [aR7];exact ⟨A,a,B,b,aaf,acF,Z,hS,hA,aX,Ck,(λ q I Φ=>by (exact vQ q I Φ)),(λ q I Φ=>by (exact vR q I Φ)),(λ q I Φ=>by (exact aRO (KO q I) (λ ahR=>by (exact sZ q ahR Φ)) (λ ahR=>by omega))),(λ q I Φ=>by (exact CC q I Φ)),(λ q I Φ=>by (exact aRO (KO q I) (λ Ma=>by (exact y7 q Ma Φ)) (λ Ma=>by (have:=IY q Φ;omega)))),(λ q I Φ=>by (exact aRO (KO q I) (λ ahS=>by (exact y8 q ahS Φ)) (λ ahS=>by (have:=R9 q Φ;omega)))),(λ q I=> .inl I),(λ q I=> .inl I),(λ q I=>(KO q I).imp id λ h=>by omega),Z2⟩
     ·refine e9<|b0<|ne<|bb .nil<| ?_;have hS:=hS.later a7;have hA:=hA.later a7;have aX:=aX.later a7;have dM:=dM.later a7;have a_:nN o= []:=by unfold nN;simp [*]
      have bj:nP o= []:=by unfold nP;simp [*]
      have cV:nO o= []:=by unfold nO;simp [*]
      rw [a_,bj,cV];simp only [aR7];exact ⟨A,a,B,b,C,c,Z,hS,hA,aX,dM,(λ q I Φ=>by (exact vQ q I Φ)),(λ q I Φ=>by (exact vR q I Φ)),(λ q I Φ=>by (exact sZ q I Φ)),(λ q I Φ=>by (exact CC q I Φ)),(λ q I Φ=>by (exact y7 q I Φ)),(λ q I Φ=>by (exact y8 q I Φ)),(λ q I=> .inl I),(λ q I=> .inl I),(λ q I=> .inl I),bg⟩
end
section
theorem FQ {l:List aF} (h:hC l=0):l.length≤100∧∀ o∈l,o.bo=0:=by
 unfold hC at h;split at h
 ·cases h
 ·refine ⟨by omega,λ o bS=> ?_⟩;split at h
  ·rename_i x hx
   have:=aUM hx;rw [h] at this;exact nomatch this
  ·rename_i hx
   have:=aS1.1 hx o bS;simpa using this
end
end Go.Proofs.YtlikikpgmmkjbaaGreat
