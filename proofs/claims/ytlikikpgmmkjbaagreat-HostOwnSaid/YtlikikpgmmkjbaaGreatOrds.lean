import Derived.Test.YtlikikpgmmkjbaaGreatMrQ
set_option linter.unusedVariables false
set_option linter.unusedSimpArgs false
set_option maxRecDepth 100000
set_option maxHeartbeats 4000000
open Go.RowKit
namespace Go.Proofs.YtlikikpgmmkjbaaGreat
open Tryz
abbrev aVa:=@List.pairwise_iff_getElem
abbrev aWT:=@List.drop_zero
abbrev aWV:=@List.mem_iff_getElem?
abbrev aXr:=@List.getElem_cons_zero
abbrev aXs:=@List.getElem_cons_succ
abbrev aXA:=@Bool.eq_iff_iff
abbrev aZi:=@Nat.lt_trichotomy
section
def EG (s t:bd):Prop:=s.id<t.id∧s.spot≠t.spot
theorem WB {α:Type} [Inhabited α] {l:List α} {i:Nat} {t:α} (h:l[i]? =some t):l.getD i default=t:=by rw [aUi,h];rfl
theorem Good.azt {W:aj} (bD:Good W) {i j:Nat} {s t:bd} (jK:i<j) (hs:W.ao[i]? =some s) (aF:W.ao[j]? =some t):s.id<t.id:=by
 induction j generalizing t with
 | zero=>omega
 | succ j bI =>
  have aA:=(aUj.1 aF).1;obtain ⟨u,hu⟩:=hC (l:=W.ao) (i:=j) (by omega);have γ:=(bD.ids (j+1) t aF).1;have aa:W.jR (j+1)=u.id:=by
   unfold aj.jR;rw [aUr (by omega),aXX,WB hu]
  rcases aXh.1 jK with h | rfl
  ·have:=bI h hu;omega
  ·rw [hs] at hu;injection hu with hu;subst hu;omega
theorem Good.Jk {W:aj} (bD:Good W):W.ao.Pairwise EG:=by
 rw [aVa];intro i j aq aA jK;have hs:=aUk aq;have aF:=aUk aA;refine ⟨bD.azt jK hs aF,λ e=> ?_⟩;have γ:=bD.jm j _ aF;rw [← e] at γ;have:(W.jm j).contains (W.ao[i]).spot=true:=by
  rw [aWX];unfold aj.jm;exact aUR.2 ⟨_,aWV.2 ⟨i,by rw [aU2,aUz jK,hs]⟩,Z⟩
 rw [this] at γ;exact nomatch γ
theorem Good.each {W:aj} (bD:Good W) {t:bd} (aF:t∈W.ao):0<t.id∧t.id<W.next∧PB W.field W.aZ.length t:=by
 obtain ⟨i,aq⟩:=aWV.1 aF;have γ:=bD.ids i t aq;exact ⟨by omega,γ.2.1,bD.ao i t aq⟩
theorem Good.akw {W V:aj} (bD:Good W) (hf:V.field=W.field) (Φ:V.aZ=W.aZ) (hs:V.bg=W.bg) (hm:V.bs=W.bs) (hn:V.next=W.next) (b5:0≤V.now∧V.now≤1000000) (aB:V.ao.length≤100) (cn:V.ao.Pairwise EG)
  (dB:∀ t∈V.ao,0<t.id∧t.id<V.next∧PB V.field V.aZ.length t):Good V where
 field:=by rw [hf];exact bD.field
 ks:=by rw [Φ];exact bD.ks
 eF:=aB
 sl:=by rw [hs,Φ];exact bD.sl
 aZ:=by rw [Φ,hf];exact bD.aZ
 bg:=by rw [hs];exact bD.bg
 x5:=by rw [hm,hf];exact bD.x5
 bs:=by rw [hm,hf];exact bD.bs
 ao:=λ i t aF=>(dB t (aUW aF)).2.2
 ids:=λ i t aF=>by
  have γ:=dB t (aUW aF);unfold aj.jR;split
  ·exact ⟨γ.1,γ.2.1,aVR _⟩
  ·rename_i aI
   have aq:=(aUj.1 aF).1;obtain ⟨u,hu⟩:=hC (l:=V.ao) (i:=i - 1) (by omega);rw [WB hu];have aa:=dB u (aUW hu);have av:=(aVa.1 cn) (i - 1) i (by omega) aq (by omega);have a8:V.ao[i - 1]'(by omega)=u:=(aUj.1 hu).2;have bl:V.ao[i]=t:=(aUj.1 aF).2;rw [a8,bl] at av;exact ⟨av.1,γ.2.1,by omega⟩
 jm:=λ i t aF=>by
  rw [aZn];intro hc;rw [aWX] at hc;unfold aj.jm at hc;obtain ⟨s,fg,gI⟩:=aUR.1 hc;obtain ⟨j,aA⟩:=aWV.1 fg;rw [aU2] at aA;split at aA
  ·rename_i hY
   have aq:=(aUj.1 aF).1;have av:=(aVa.1 cn) j i (by omega) aq hY;have a8:V.ao[j]'(by omega)=s:=(aUj.1 aA).2;have bl:V.ao[i]=t:=(aUj.1 aF).2;rw [a8,bl] at av;exact av.2 gI
  ·exact nomatch aA
 next:=by rw [hn];exact bD.next
 now:=b5
end
section
def ama (l:List bd) (x:Int):Option bd:=l.find? λ t=>t.id == x
def aRH (l:List bd) (x:Int):Value:= .tuple #[.agg ((ama l x).getD default).cells.toArray, .bool (ama l x).isSome]
def NV (l:List Int):Bool:=(List.range (l.length - 1)).all λ i=> !decide (l.getD (i+1) 0<l.getD i 0)
theorem aEm {l:List Int} (h:∀ i,i+1<l.length→¬ l.getD (i+1) 0<l.getD i 0):NV l=true:=by
 unfold NV;rw [aU7];intro i aq;have:=h i (by have:=aU0.1 aq;omega);simpa using this
def aRp {α:Type} (l:List α) (k:Nat):List α:=l.mapIdx λ i x=>if i<k∨l.length - k≤i then (l[l.length - 1 - i]?).getD x else x
end
section
def Bj (W:aj) (l:List dy):List bd:=(List.range W.ao.length).map (xU W.ao (fH W l))
structure KS (W:aj) (l:List dy):Prop where
 km:Good W
 bQ:gQ W l= {W with ao:=(Bj W l).filter λ t=>decide (0<t.dc)}
 bD:tB W l=((Bj W l).filter λ t=> !decide (0<t.dc)).map bd.id
 awK:∀ k,0≤(fH W l).getD k 0
 aB:(fH W l).length=W.ao.length
theorem al8 {W:aj} {l:List dy} (h:mh W l=0):KS W l :=
 ⟨Good.BD (PX h).1,(ZZ h rfl).1,(ZZ h rfl).2,λ k=>((Xb h).2 k).1,(Xb h).1⟩
theorem RI (W:aj) (l:List dy):(Bj W l).length=W.ao.length:=by simp [Bj]
theorem RH {W:aj} {l:List dy} {k:Nat} {t:bd} (h:W.ao[k]? =some t):(Bj W l)[k]? =some {t with dc:=t.dc - (fH W l).getD k 0}:=by
 have aw:=(aUj.1 h).1;unfold Bj;rw [aUx,aXS aw,aVL];unfold xU;rw [WB h]
theorem ayW {W:aj} {l:List dy} {x:bd} (h:x∈Bj W l):∃ (k:Nat) (t:bd),W.ao[k]? =some t∧x= {t with dc:=t.dc - (fH W l).getD k 0}:=by
 obtain ⟨k,aw⟩:=aWV.1 h;have bE:=(aUj.1 aw).1;rw [RI] at bE;obtain ⟨t,aF⟩:=hC bE;rw [RH aF] at aw;injection aw with aw
 exact ⟨k,t,aF,aw.symm⟩
theorem KS.Jk {W:aj} {l:List dy} (h:KS W l):(Bj W l).Pairwise EG:=by
 rw [aVa];intro i j aq aA jK;rw [RI] at aq aA;obtain ⟨s,hs⟩:=hC aq;obtain ⟨t,aF⟩:=hC aA;have a8:=(aUj.1 (RH (l:=l) hs)).2;have bl:=(aUj.1 (RH (l:=l) aF)).2;rw [a8,bl];have:=(aVa.1 h.km.Jk) i j aq aA jK;rw [(aUj.1 hs).2,(aUj.1 aF).2] at this;exact this
theorem KS.right {W:aj} {l:List dy} (h:KS W l):Good (gQ W l):=by
 rw [h.bQ];refine Good.akw h.km Z Z Z Z Z h.km.now ?_ (h.Jk.filter _) λ t aF=> ?_
 ·exact aUP (aWW _ _) (by rw [RI];exact h.km.eF)
 ·obtain ⟨aF,hp⟩:=aWK.1 aF;obtain ⟨k,s,hs,rfl⟩:=ayW aF;have γ:=h.km.each (aUW hs);have aa:=h.awK k;have av:=aVz hp;refine ⟨γ.1,γ.2.1,⟨γ.2.2.kind,γ.2.2.owner,γ.2.2.ground, ?_,γ.2.2.load⟩⟩;have aV:=γ.2.2.dc;show 1≤s.dc - _∧s.dc - _≤aj.kb s.kind;have bJ:0<s.dc - (fH W l).getD k 0:=av;omega
theorem aEl {l:List Int} (h:l.Pairwise (· < ·)):NV l=true:=by
 refine aEm λ i aq=> ?_;have:=(aVa.1 h) i (i+1) (by omega) aq (by omega);rw [aUi,aUi,aUk aq,aUk (by omega:i<l.length)];show ¬ l[i+1]<l[i];omega
end
section
section
variable {f:aE} {a b c x y:ay} {d D:Int}
theorem aCH (hf:f.bq=0) (ha:f.ground a=true) (s5:0≤cP f a b c) (agU:0≤cP f a x c):lL f (cP f a b) c=lL f (cP f a x) c:=by
 have key:∀ t n,n∈ec c→0≤cP f a t c→((f.ground n && decide (0≤cP f a t n) && decide (cP f a t n+f.gN c=cP f a t c))=true↔∃ e,sJ f a n e∧sJ f a c (e+f.gN c)):=by
  intro t n hn aF;have hs:=Wn (b:=t) hf ha;have ahb:=Lp hf ha aF;constructor
  ·intro h;simp only [aUp,aUO] at h;exact ⟨_,Lp hf ha h.1.2,by rw [h.2];exact ahb⟩
  ·rintro ⟨e,γ,aa⟩;have he:=ahb.uniq aa;have zk:cP f a t n=e:=hs.known n e γ λ D vX=>by
    have:=(hs.oV c aF).2 D vX;have av:=aE.Wb t (aE.ZO hn);have aw:=f.p5 (c:=c);omega
   rw [zk,mM.ground ha γ.1,aUL (mM.q1 γ.1),aUL he.symm];rfl
 unfold lL;congr 1;apply find_congr;intro n hn;rw [aXA,key b n hn s5,key x n hn agU]
where
 find_congr {p q:ay→Bool}:∀ {l:List ay},(∀ n∈l,p n=q n)→l.find? p=l.find? q
  | [],_=>rfl
  | n::l,h=>by
   rw [List.find?_cons,List.find?_cons,h n aUH,find_congr λ m hm=>h m (aUB _ hm)]
theorem aGz (hf:f.bq=0) (ha:f.ground a=true) (Φ:0≤cP f a b b) (hx:0≤cP f a x x):∀ (n:Nat) (c:ay),0≤cP f a b c→0≤cP f a x c→(cP f a b c).toNat=n→fX f (cP f a b) a c=fX f (cP f a x) a c:=by
 have Ud:=Lq hf ha Φ;have Ue:=Lq hf ha hx;intro n;induction n using Nat.strongRecOn with
 | ind n bI =>
  intro c γ aa hn;by_cases e:c=a
  ·subst e;rw [BZ Ud,BZ Ue]
  ·have hp:=aCH (b:=b) (x:=x) hf ha γ aa;obtain ⟨eX,fL,m_,x'⟩:=Ud.prev γ e;obtain ⟨lM,nQ,yc,Jl⟩:=Ue.prev aa e;have aw:=f.p5 (c:=c);rw [B0 Ud γ e,B0 Ue aa e,← hp];congr 1;exact bI _ (by omega) _ m_ (by rw [hp];exact yc) Z
theorem aGA {aC:ay→Int} (h:oN f a aC):∀ (n:Nat) (c:ay),0≤aC c→(aC c).toNat=n→∀ i,(aq:i<(fX f aC a c).length)→(fX f aC a c).drop i=fX f aC a ((fX f aC a c)[i])∧mM f ((fX f aC a c)[i]) c (aC c - aC ((fX f aC a c)[i])):=by
 intro n;induction n using Nat.strongRecOn with
 | ind n bI =>
  intro c hc hn i aq;by_cases e:c=a
  ·subst e;rw [BZ h] at aq;have:i=0:=by simpa using aq
   subst this;simp only [BZ h,aWT,aXr];exact ⟨by first | trivial | rfl,by rw [aX7];exact .start rfl⟩
  ·have hh:=B0 h hc e;obtain ⟨eX,fL,m_,x'⟩:=h.prev hc e;have aw:=f.p5 (c:=c);cases i with
   | zero =>
    have e0:(fX f aC a c)[0]=c:=by simp only [hh,aXr]
    rw [e0,aWT,aX7];exact ⟨Z, .start Z⟩
   | succ i =>
    have FP:i<(fX f aC a (lL f aC c)).length:=by rw [hh] at aq;simpa using aq
    obtain ⟨dF,dt⟩:=bI _ (by omega) _ m_ rfl i FP;have a8:(fX f aC a c)[i+1]=(fX f aC a (lL f aC c))[i]:=by simp only [hh,aXs]
    rw [a8];refine ⟨by rw [← dF,hh,aY8], ?_⟩;have r:mM f _ c (aC (lL f aC c) - aC ((fX f aC a (lL f aC c))[i])+f.gN c):= .step dt (aE.Nu.2 ⟨aE.ZO eX,h.gr c hc⟩);rw [show aC c - aC ((fX f aC a (lL f aC c))[i])=aC (lL f aC c) - aC ((fX f aC a (lL f aC c))[i])+f.gN c by omega];exact r
theorem aGD (he:hB f a b=0) {n:Nat} (hn:n<(fY f a b).length) {x:ay} (hx:(fY f a b).getD n default=x):hB f a x=0∧hB f x b=0∧fY f a x=(fY f a b).take (n+1)∧oZ f a x+oZ f x b=oZ f a b:=by
 obtain ⟨hf,ha,Φ,aI,aw,hp⟩:=Wi he;have F:=Lq hf ha aI;have aB:(fY f a b).length=(fX f (cP f a b) a b).length:=by rw [hp,aWA]
 have aq:(fX f (cP f a b) a b).length - 1 - n<(fX f (cP f a b) a b).length:=by omega
 obtain ⟨s1,s2⟩:=aGA F _ b aI rfl _ aq;have ex:(fX f (cP f a b) a b)[(fX f (cP f a b) a b).length - 1 - n]=x:=by
  rw [oh hn] at hx;rw [← hx];simp only [hp,aYZ]
 rw [ex] at s1 s2;have Mx:x∈fX f (cP f a b) a b:=by rw [← ex];exact aVv aq
 obtain ⟨eH,e3,iv⟩:=aGy F _ b aI rfl x Mx;have ahc:=Lp hf ha eH;have a8:=afX hf ha ahc;have ji:0≤cP f a x x:=by rw [a8];exact eH
 have Bc:=Wj hf ha iv ji;have r2:=avl hf iv s2;have aie:=Wj hf iv Φ r2.1;refine ⟨Bc,aie, ?_, ?_⟩
 ·have RA:fY f a x=(fX f (cP f a x) a x).reverse:=by unfold fY;rw [aUz Bc]
  rw [RA,← aGz hf ha aI ji _ x eH ji rfl,← s1,hp,List.reverse_drop,aB.symm.trans aB];congr 1;have:(fX f (cP f a b) a b).reverse.length=(fX f (cP f a b) a b).length:=aWA;omega
 ·have dF:oZ f a x=cP f a x x:=by unfold oZ;rw [aUz Bc]
  have dt:oZ f x b=cP f x b b:=by unfold oZ;rw [aUz aie]
  rw [dF,dt,aw,a8];have av:=(Lp hf ha aI).2 _ (mM.qg ahc.1 (Lp hf iv r2.1).1);omega
end
end
section
theorem al4 {f:aE} {l:List dz} {T:List bd} {k:Nat} {c:ay} (h:q5 f l T k=some c):
  0≤eJ l (T.getD k default).id∧hB f (T.getD k default).spot (l.getD (eJ l (T.getD k default).id).toNat default).bp=0∧2≤(fY f (T.getD k default).spot (l.getD (eJ l (T.getD k default).id).toNat default).bp).length∧
  c=(fY f (T.getD k default).spot (l.getD (eJ l (T.getD k default).id).toNat default).bp).getD 1 default∧jl T c≤0:=by
 unfold q5 at h;split at h
 ·exact nomatch h
 ·split at h
  ·exact nomatch h
  ·split at h
   ·exact nomatch h
   ·split at h
    ·exact nomatch h
    ·rename_i γ aa av aV
     injection h with h
     subst h;exact ⟨by omega,by simpa using aa,by omega,rfl,by omega⟩
theorem am3 {f:aE} {a:ay} {aC:ay→Int} (h:oN f a aC) {c:ay} (hc:0≤aC c):∃ r,fX f aC a c=c::r∧(r= []↔c=a):=by
 by_cases e:c=a
 ·subst e;exact ⟨[],BZ h,by simp⟩
 ·obtain ⟨eX,fL,m_,x'⟩:=h.prev hc e;refine ⟨_,B0 h hc e,⟨λ hr=> ?_,λ h=>absurd h e⟩⟩;by_cases bl:lL f aC c=a
  ·rw [bl,BZ h] at hr;exact nomatch hr
  ·rw [B0 h m_ bl] at hr;exact nomatch hr
theorem am4 {f:aE} {a b x:ay} (he:hB f a b=0) (hn:2≤(fY f a b).length) (hx:(fY f a b).getD 1 default=x):
  hB f a x=0∧hB f x b=0∧oZ f a x+oZ f x b=oZ f a b∧a∈ec x∧f.ground x=true∧x≠a∧fY f a x= [a,x]:=by
 obtain ⟨γ,aa,av,aV⟩:=aGD he (n:=1) (by omega) hx;obtain ⟨hf,ha,Φ,aI,aw,hp⟩:=Wi he;obtain ⟨_,_,LB,ji,_,RA⟩:=Wi γ;have F:=Lq hf ha aI;have Pd:=Lq hf ha ji;have aB:(fY f a x).length=2:=by rw [av,aUm];omega
 rw [RA,aWA] at aB;have X_:x≠a:=by
  intro e;obtain ⟨r,a8,bl⟩:=am3 Pd ji;rw [a8,bl.2 e] at aB;simp at aB
 have hh:=B0 Pd ji X_;obtain ⟨eX,fL,m_,x'⟩:=Pd.prev ji X_;obtain ⟨r,a8,bl⟩:=am3 Pd m_;rw [hh,a8] at aB;have hr:r= []:=aUQ (by simpa using aB);have ahY:=bl.1 hr;refine ⟨γ,aa,aV,by rw [← ahY];exact eX,LB,X_, ?_⟩;rw [RA,hh,a8,hr,ahY];rfl
theorem aD8 {T:List bd} {k:Nat} {c:ay} (cn:T.Pairwise EG) (aw:k<T.length) (hc:jl T c≤0):(T.set k ((T.getD k default).bp c)).Pairwise EG:=by
 have kO:∀ t∈T,t.spot≠c:=λ t aF e=>by have:=aBN.2 ⟨t,aF,e⟩;omega
 have ahf:T.getD k default=T[k]:=by rw [aUi,aUk aw];rfl
 rw [aVa] at cn ⊢;intro i j aq aA jK;rw [aUs] at aq aA;have h:=cn i j aq aA jK;rw [List.getElem_set,List.getElem_set];split<;>split
 ·omega
 ·rename_i a8 bl
  subst a8;exact ⟨by have as0:=aVA bd.id ahf;have s3:=h.1;show (T.getD k default).id<_;omega,λ e=>kO _ (aVv aA) e.symm⟩
 ·rename_i a8 bl
  subst bl;exact ⟨by have as0:=aVA bd.id ahf;have s3:=h.1;show _<(T.getD k default).id;omega,kO _ (aVv aq)⟩
 ·exact h
theorem al2 {f:aE} {l:List dz} {T:List bd} {Q:bd→Prop} (il:∀ t c,Q t→f.ground c=true→Q (t.bp c)) (cn:T.Pairwise EG) (b7:∀ t∈T,Q t):∀ k,k≤T.length→(jX f l T k).1.Pairwise EG∧∀ t∈(jX f l T k).1,Q t
 | 0,_=>⟨cn,b7⟩
 | k+1,aw=>by
  obtain ⟨aik,Yb⟩:=al2 (l:=l) il cn b7 k (by omega);have aB:=(SU (f:=f) (l:=l) (T:=T) k).1;cases hs:q5 f l (jX f l T k).1 k with
  | none=>rw [GB rfl hs];exact ⟨aik,Yb⟩
  | some c =>
   rw [NZ rfl hs];obtain ⟨d1,d2,d3,d4,d5⟩:=al4 hs;obtain ⟨_,_,_,_,g,_⟩:=am4 d2 d3 d4.symm;refine ⟨aD8 aik (by omega) d5,λ t aF=> ?_⟩;rcases aV2 aF with aF | rfl
   ·exact Yb t aF
   ·exact il _ _ (Yb _ (jT (by omega))) g
noncomputable def Gl (f:aE) (l:List dz) (T:List bd) (i:Nat):Option ay:=q5 f l (jX f l T i).1 i
theorem aEX {T:List bd} {k:Nat} {t:bd} (h:k<T.length):(T.set k t).getD k default=t:=by rw [aUi,aUG h];rfl
theorem aEW {T:List bd} {k i:Nat} {t:bd} (h:k≠i):(T.set k t).getD i default=T.getD i default:=by rw [aUi,aUJ h,aUi]
theorem SS {f:aE} {l:List dz} {T:List bd}:∀ k,k≤T.length→∀ i,i<T.length→(jX f l T k).1.getD i default=if i<k then (match Gl f l T i with | some c=>(T.getD i default).bp c | none=>T.getD i default) else T.getD i default
 | 0,_,i,aq=>by rw [aUr (by omega)];rfl
 | k+1,aw,i,aq=>by
  have bI:=SS (f:=f) (l:=l) (T:=T) k (by omega);have aB:=(SU (f:=f) (l:=l) (T:=T) k).1;have p2:=bI k (by omega);rw [aUr (by omega)] at p2;cases hs:Gl f l T k with
  | none =>
   rw [GB rfl hs,bI i aq];by_cases e:i=k
   ·subst e;rw [aUr (by omega),aUz (by omega),hs]
   ·by_cases bl:i<k
    ·rw [aUz bl,aUz (by omega)]
    ·rw [aUr bl,aUr (by omega)]
  | some c =>
   rw [NZ rfl hs];by_cases e:i=k
   ·subst e;rw [aEX (by omega),aUz (by omega),hs,p2]
   ·rw [aEW (λ h=>e h.symm),bI i aq];by_cases bl:i<k
    ·rw [aUz bl,aUz (by omega)]
    ·rw [aUr bl,aUr (by omega)]
theorem al1 {f:aE} {l:List dz} {T:List bd}:∀ k,k≤T.length→(jX f l T k).2=((List.range k).filter λ i=>(Gl f l T i).isSome).map λ i=>(T.getD i default).id
 | 0,_=>rfl
 | k+1,aw=>by
  have bI:=al1 (f:=f) (l:=l) (T:=T) k (by omega);have p2:=SS (f:=f) (l:=l) (T:=T) k (by omega) k (by omega);rw [aUr (by omega)] at p2;rw [aVT,aWM,aUK,aVO];cases hs:Gl f l T k with
  | none=>rw [GB rfl hs,bI];simp
  | some c=>rw [NZ rfl hs,bI,p2];simp
theorem aA7 {W:aj} {l:List dz} (h:sk W l=0):W.bq=0∧hH W l=(W.l7 l).1∧o_ W l=(W.l7 l).2:=by
 have hc:W.bq=0:=by
  apply aV4;intro hn;rw [(aj6 (l:=l) hn).1] at h;exact hn h
 by_cases aB:(l.length:Int)≤200
 ·have:=R_ (l:=l) hc aB;exact ⟨hc,this.2⟩
 ·rw [(aj7 (l:=l) hc (by omega)).1] at h;exact nomatch h
theorem aA6 {W:aj} {l:List dz} (h:sk W l=0):
  Good (hH W l)∧(hH W l).ao.length=W.ao.length∧NV (o_ W l)=true∧hH W l= {W with ao:=(hH W l).ao}∧
  ∀ k,k<W.ao.length→((o_ W l).any (λ y=>(W.ao.getD k default).id == y)=false∧(hH W l).ao.getD k default=W.ao.getD k default)∨
   ∃ c:ay,(o_ W l).any (λ y=>(W.ao.getD k default).id == y)=true∧(hH W l).ao.getD k default=(W.ao.getD k default).bp c∧0≤eJ l (W.ao.getD k default).id∧
    hB W.field (W.ao.getD k default).spot (l.getD (eJ l (W.ao.getD k default).id).toNat default).bp=0∧hB W.field c (l.getD (eJ l (W.ao.getD k default).id).toNat default).bp=0∧hB W.field (W.ao.getD k default).spot c=0∧
    oZ W.field (W.ao.getD k default).spot (l.getD (eJ l (W.ao.getD k default).id).toNat default).bp=oZ W.field c (l.getD (eJ l (W.ao.getD k default).id).toNat default).bp+oZ W.field (W.ao.getD k default).spot c∧
    (W.ao.getD k default).spot∈ec c:=by
 obtain ⟨hc,auN,auH⟩:=aA7 h;have bD:=Good.BD hc;rw [auN,auH];have dB:=al2 (f:=W.field) (l:=l) (T:=W.ao) (Q:=λ t=>0<t.id∧t.id<W.next∧PB W.field W.aZ.length t)
  (λ t c I aS=>⟨I.1,I.2.1,⟨I.2.2.kind,I.2.2.owner,aS,I.2.2.dc,I.2.2.load⟩⟩) bD.Jk (λ t aF=>bD.each aF) W.ao.length (aUu _)
 have hlen:=ZY W l;have ml:=al1 (f:=W.field) (l:=l) (T:=W.ao) W.ao.length (aUu _);have IG:=bD.Jk;refine ⟨Good.akw bD Z Z Z Z Z bD.now (by rw [hlen];exact bD.eF) dB.1 dB.2,hlen, ?_,Z,λ k aw=> ?_⟩
 ·show NV (jX W.field l W.ao W.ao.length).2=true;rw [ml];refine aEl ?_;rw [List.pairwise_map];have hr:((List.range W.ao.length).filter λ i=>(Gl W.field l W.ao i).isSome).Pairwise (· < ·):=List.Pairwise.filter _ List.pairwise_lt_range;refine List.Pairwise.imp_of_mem (fun {i j} aq aA jK=> ?_) hr;have aq:=aU0.1 (aWK.1 aq).1;have aA:=aU0.1 (aWK.1 aA).1;rw [oh aq,oh aA];exact ((aVa.1 IG) i j aq aA jK).1
 ·have fU:=SS (f:=W.field) (l:=l) (T:=W.ao) W.ao.length (aUu _) k aw;rw [aUz aw] at fU;have p2:=SS (f:=W.field) (l:=l) (T:=W.ao) k (by omega) k aw;rw [aUr (by omega)] at p2;have pV:((W.l7 l).2).any (λ y=>(W.ao.getD k default).id == y)=(Gl W.field l W.ao k).isSome:=by
   show (jX W.field l W.ao W.ao.length).2.any _=_;rw [ml,aXA,aVE];constructor
   ·rintro ⟨y,aH,e⟩;obtain ⟨i,aq,rfl⟩:=aUR.1 aH;obtain ⟨Bf,zh⟩:=aWK.1 aq;have Bf:=aU0.1 Bf;have e:(W.ao.getD k default).id=(W.ao.getD i default).id:=by simpa using e
    have:i=k:=by
     rw [oh aw,oh Bf] at e;rcases aZi i k with q | q | q
     ·have:=((aVa.1 IG) i k Bf aw q).1;omega
     ·exact q
     ·have:=((aVa.1 IG) k i aw Bf q).1;omega
    rw [← this];exact zh
   ·intro hs;exact ⟨_,aUR.2 ⟨k,aWK.2 ⟨aU0.2 aw,hs⟩,Z⟩,by simp⟩
  cases hs:Gl W.field l W.ao k with
  | none =>
   rw [hs] at fU pV;exact .inl ⟨pV,fU⟩
  | some c =>
   rw [hs] at fU pV;obtain ⟨d1,d2,d3,d4,d5⟩:=al4 hs;rw [p2] at d1 d2 d3 d4;obtain ⟨f1,f2,f3,f4,f5,f6,f7⟩:=am4 d2 d3 d4.symm;exact .inr ⟨c,pV,fU,d1,d2,f2,f1,by omega,f4⟩
end
section
structure aO where
 by_:Int
 kind:Int
 aU:Int
 spot:ay
 what:Int
 deriving DecidableEq,Inhabited
namespace aO
def cells (a:aO):List Value:= [.int .i64 (a.by_), .int .i64 (a.kind), .int .i64 (a.aU), .int .i64 (a.spot.x), .int .i64 (a.spot.y), .int .i64 (a.what)]
def ok (a:aO):Prop:=(Lit.int .i64 a.by_).wf=true∧(Lit.int .i64 a.kind).wf=true∧(Lit.int .i64 a.aU).wf=true∧(Lit.int .i64 a.spot.x).wf=true∧(Lit.int .i64 a.spot.y).wf=true∧(Lit.int .i64 a.what).wf=true
def raw (j:Nat) (u:Value):Prop:=match j with
 | 0=>∃ n:Int,u= .int .i64 n
 | 1=>∃ n:Int,u= .int .i64 n
 | 2=>∃ n:Int,u= .int .i64 n
 | 3=>∃ n:Int,u= .int .i64 n
 | 4=>∃ n:Int,u= .int .i64 n
 | 5=>∃ n:Int,u= .int .i64 n
 | _=>True
theorem rJ (a:aO):∀ (j:Nat) u,a.cells[j]? =some u→raw j u:=by
 intro j u hu
 match j,hu with
 | 0,hu=>exact ⟨_,(aUh hu).symm⟩
 | 1,hu=>exact ⟨_,(aUh hu).symm⟩
 | 2,hu=>exact ⟨_,(aUh hu).symm⟩
 | 3,hu=>exact ⟨_,(aUh hu).symm⟩
 | 4,hu=>exact ⟨_,(aUh hu).symm⟩
 | 5,hu=>exact ⟨_,(aUh hu).symm⟩
 | j+6,hu=>exact trivial
theorem rI (a:aO):∀ u∈a.cells,u.oneCell'=true:=by
 intro u hu;unfold cells at hu;simp only [aUD,aVI,aWr] at hu;rcases hu with rfl | rfl | rfl | rfl | rfl | rfl<;>rfl
def rep:κ aO:=κ.flat 6 cells ok raw (λ _=>rfl) rI rJ
theorem plain:rep.Plain:=κ.o0
def zero:Value:= .agg #[.int .i64 0, .int .i64 0, .int .i64 0, .int .i64 0, .int .i64 0, .int .i64 0]
theorem iY:∀ (j:Nat) u,zero.cells[j]? =some u→rep.raw j u:=by
 intro j u hu;have hu:(#[(.int .i64 0:Value),(.int .i64 0:Value),(.int .i64 0:Value),(.int .i64 0:Value),(.int .i64 0:Value),(.int .i64 0:Value)]:Array Value)[j]? =some u:=hu
 match j,hu with
 | 0,hu=>exact ⟨_,(aUh hu).symm⟩
 | 1,hu=>exact ⟨_,(aUh hu).symm⟩
 | 2,hu=>exact ⟨_,(aUh hu).symm⟩
 | 3,hu=>exact ⟨_,(aUh hu).symm⟩
 | 4,hu=>exact ⟨_,(aUh hu).symm⟩
 | 5,hu=>exact ⟨_,(aUh hu).symm⟩
 | j+6,hu=>cases hu
theorem info:(prog.info? 51).map (λ i=>(i.zero,i.size,i.bytes))=some (some zero,6,48):=by kernel_rfl
theorem oT {by_:Nat} {w:World} {A:Option Addr} {c:Nat} {l:List aO} (h:rep.aK by_ w A c l):∀ a∈l,a.ok:=κ.aK.AM (R:=rep) (Q:=ok) (fun {w cs a} (h:rep.has w cs a)=>(show cs=a.cells∧a.ok from h).2) h
def sh:fP:=(.cons (.int .i64) (.cons (.int .i64) (.cons (.int .i64) (.cons (.cons (.int .i64) (.cons (.int .i64) .nil)) (.cons (.int .i64) .nil)))))
theorem opens (w:World) (cs:List Value) (h:sh.hV w cs):∃ a,rep.has w cs a:=by
 obtain ⟨_,_,rfl,_,_,⟨dg,rfl,s9⟩,⟨_,_,rfl,_,_,⟨eH,rfl,dF⟩,⟨_,_,rfl,_,_,⟨e3,rfl,dt⟩,⟨_,_,rfl,_,_,⟨_,_,rfl,_,_,⟨iv,rfl,jj⟩,⟨_,_,rfl,_,_,⟨oE,rfl,F2⟩,rfl⟩⟩,⟨_,_,rfl,_,_,⟨nW,rfl,F3⟩,rfl⟩⟩⟩⟩⟩:=h;exact ⟨⟨dg,eH,e3,⟨iv,oE⟩,nW⟩,Z,s9,dF,dt,jj,F2,F3⟩
end aO
end
section
theorem apb:Kn prog aO.cells 51 :=by
 intro a b w;obtain ⟨a0,cy,a2,⟨a3,a4⟩,a5⟩:=a;obtain ⟨yY,hX,dW,⟨gd,pJ⟩,HA⟩:=b;simp only [aO.cells,aO.mk.injEq,ay.mk.injEq];constructor
 ·go_simp
  repeat' split
  all_goals simp_all
 ·go_simp
  repeat' split
  all_goals simp_all
theorem apa:(prog).eqGuardType (prog).depth 51 =false:=by kernel_rfl
theorem Dg {w:World} {cs:List Value} {a:aO} (h:aO.rep.has w cs a):cs=a.cells:=aWw (show cs=a.cells∧a.ok from h)
def aO.bare (o:aO):aO:=⟨o.by_,o.kind,if o.kind=5 then 0 else o.aU,if o.kind≠2∧o.kind≠3 then ⟨0,0⟩ else o.spot,if o.kind≠1∧o.kind≠5 then 0 else o.what⟩
def aO.Je (o:aO):Bool:= !cR o.by_ 0 7 || !cR o.kind 1 5 || !cR o.aU 0 1000000 || !cR o.spot.x (-1000) 1000 || !cR o.spot.y (-1000) 1000 || !cR o.what 0 1000000
def aO.bq (o:aO):Int:=if o.Je=true then 1 else if (!decide (o.bare=o))=true then 4 else 0
theorem aO.adU {o:aO} (h:o.Je=true):o.bq=1:=by unfold aO.bq;rw [aUz h]
theorem aO.arp {o:aO} (h:o.Je=false) (aa:(!decide (o.bare=o))=true):o.bq=4:=by unfold aO.bq;rw [aUr (by rw [h];decide),aUz aa]
theorem aO.arq {o:aO} (h:o.Je=false) (aa:(!decide (o.bare=o))=false):o.bq=0:=by unfold aO.bq;rw [aUr (by rw [h];decide),aUr (by rw [aa];decide)]
def iu (l:List aO):Int:=if 100<l.length then 2 else match l.find? (λ o=>o.bq != 0) with | some o=>o.bq | none=>0
theorem aB9 {l:List aO} (h:100<l.length):iu l=2:=by unfold iu;rw [aUz h]
theorem aCa {l:List aO} (h:l.length≤100) (aS:∀ i,i<l.length→(l.getD i default).bq=0):iu l=0:=by
 unfold iu;rw [aUr (by omega)];have:l.find? (λ o=>o.bq != 0)=none:=aVH.2 λ x hx=>by
  obtain ⟨i,aq,rfl⟩:=aVj.1 hx;have:=aS i aq;rw [oh aq] at this;simp [this]
 rw [this]
theorem aB8 {l:List aO} {k:Nat} (h:l.length≤100) (aw:k<l.length) (aS:∀ i,i<k→(l.getD i default).bq=0) (Φ:¬ (l.getD k default).bq=0):iu l=(l.getD k default).bq:=by
 unfold iu;rw [aUr (by omega)];have:l.find? (λ o=>o.bq != 0)=some (l.getD k default):=by
  rw [aWZ];refine ⟨by simpa using Φ,k,aw,(oh aw).symm,λ j aA=> ?_⟩;have:=aS j aA;rw [oh (by omega)] at this;simp [this]
 rw [this]
theorem Jf (n lo aq:Int) (w:World):
  Calls prog 145 #[.int .i64 n, .int .i64 lo, .int .i64 aq] w (λ e w'=>e= .returned (.bool (cR n lo aq))∧Ext w w'):=by
 refine cl (n:=15) func145 Z Z Z ?_;refine ai<|va Z<|ag<|ai<|vm Z<|vm Z<|J (j4 Z Z)<|vm Z<|br Z Z Z Z (λ hc=>aM Z) Z<|br Z Z Z Z (λ hc=>aM Z) Z<|br Z Z Z Z (λ hc=>ble (gt hc Z) (gt hc Z)) Z<|J (e9 Z Z Z Z)<|va Z<|ag<|rt<|bb (.tmp Z .nil)<| ?_;exact ⟨Z,(Ext.bK w)⟩
theorem aBM (o:aO) (w:World):
  Calls prog 146 #[.agg #[.int .i64 o.by_, .int .i64 o.kind, .int .i64 o.aU, .int .i64 o.spot.x, .int .i64 o.spot.y, .int .i64 o.what]] w (λ e w'=>e= .returned (.agg (aO.bare o).cells.toArray)∧Ext w w'):=by
 refine cl (n:=27) func146 Z Z Z ?_;refine ai<|cI Z Z Z Z λ cW bw a7 eA ab=> ?_;have:=a7.size;have bk:=τ (Ext.bK w) a7;have eG:=ab.lt;refine al Z Qp Z Z λ eM cA bo iq ah=> ?_;have:=bo.size;have bR:=τ bk bo;have ia:=ah.lt;refine ag<|az<|ai<|J (au pN Z)<| ?_;have ab:=ab.later bo;refine J (ak Z (ab.one bf Z))<|J (beq Z Z)<|ag<| ?_;refine kj Z (λ iA=> ?_) (λ iA=> ?_)
 ·refine rg<|J (au C3 Z)<|st (new:= [.int .i64 o.by_, .int .i64 o.kind, .int .i64 0, .int .i64 o.spot.x, .int .i64 o.spot.y, .int .i64 o.what]) Z Z ab Z cU Z Z Z λ ym p8 ab=> ?_;have:=p8.size;have kC:=Ext.mod bR p8 bx;refine ag<|az<|ai<|J (au pN Z)<|J (ak Z (ab.one bf Z))<|J (bne Z Z)<|vm Z<|br Z Z Z Z (λ hc=>au pN Z) Z<|br Z Z Z Z (λ hc=>ak (gt hc Z) (ab.one bf Z)) Z<|br Z Z Z Z (λ hc=>bne (gt hc Z) Z) Z<|J (e9 Z Z Z Z)<|ag<| ?_;refine ee Z (λ Ba=> ?_) (λ Ba=> ?_)
  ·simp only [cH] at Ba;refine rg<|J (v:= .agg #[.int .i64 0, .int .i64 0]) (cM Z (by kernel_rfl))<|J (au C4 Z)<|st (new:= [.int .i64 o.by_, .int .i64 o.kind, .int .i64 0, .int .i64 0, .int .i64 0, .int .i64 o.what]) Z Z ab Z bW Z Z Z λ z6 lg ab=> ?_;have:=lg.size;have lu:=Ext.mod kC lg bx;refine ag<|az<|ai<|J (au pN Z)<|J (ak Z (ab.one bf Z))<|J (bne Z Z)<|vm Z<|br Z Z Z Z (λ hc=>au pN Z) Z<|br Z Z Z Z (λ hc=>ak (gt hc Z) (ab.one bf Z)) Z<|br Z Z Z Z (λ hc=>bne (gt hc Z) Z) Z<|J (e9 Z Z Z Z)<|ag<| ?_;refine ee Z (λ s4=> ?_) (λ s4=> ?_)
   ·simp only [cH] at s4;refine rg<|J (au C5 Z)<|st (new:= [.int .i64 o.by_, .int .i64 o.kind, .int .i64 0, .int .i64 0, .int .i64 0, .int .i64 0]) Z Z ab Z cU Z Z Z λ BS h_ ab=> ?_;have:=h_.size;have qp:=Ext.mod lu h_ bx;refine ag<|ai<|J (ak Z (ab.all iM eI))<| ?_;have ah:=ah.mod p8 aQ;have ah:=ah.mod lg aQ;have ah:=ah.mod h_ aQ;refine st (new:= [.int .i64 o.by_, .int .i64 o.kind, .int .i64 0, .int .i64 0, .int .i64 0, .int .i64 0]) Z Z ah Z eI Z Z Z λ BT x4 ah=> ?_;have:=x4.size;have ph:=Ext.mod qp x4 bx;refine ag<|rt<|bb (.cell Z (ah.all iM eI) .nil)<| ?_;exact ⟨by rw [show aO.bare o=(⟨o.by_,o.kind,0,⟨0,0⟩,0⟩:aO) from by unfold aO.bare;congr 1<;>(first | rfl | (split<;>first | rfl | omega))];rfl,ph⟩
   ·simp only [cH] at s4;refine bt<|ai<|J (ak Z (ab.all iM eI))<| ?_;have ah:=ah.mod p8 aQ;have ah:=ah.mod lg aQ;refine st (new:= [.int .i64 o.by_, .int .i64 o.kind, .int .i64 0, .int .i64 0, .int .i64 0, .int .i64 o.what]) Z Z ah Z eI Z Z Z λ GK kc ah=> ?_;have:=kc.size;have rf:=Ext.mod lu kc bx;refine ag<|rt<|bb (.cell Z (ah.all iM eI) .nil)<| ?_;exact ⟨by rw [show aO.bare o=(⟨o.by_,o.kind,0,⟨0,0⟩,o.what⟩:aO) from by unfold aO.bare;congr 1<;>(first | rfl | (split<;>first | rfl | omega))];rfl,rf⟩
  ·simp only [cH] at Ba;refine bt<|az<|ai<|J (au pN Z)<|J (ak Z (ab.one bf Z))<|J (bne Z Z)<|vm Z<|br Z Z Z Z (λ hc=>au pN Z) Z<|br Z Z Z Z (λ hc=>ak (gt hc Z) (ab.one bf Z)) Z<|br Z Z Z Z (λ hc=>bne (gt hc Z) Z) Z<|J (e9 Z Z Z Z)<|ag<| ?_;refine ee Z (λ rW=> ?_) (λ rW=> ?_)
   ·simp only [cH] at rW;refine rg<|J (au C5 Z)<|st (new:= [.int .i64 o.by_, .int .i64 o.kind, .int .i64 0, .int .i64 o.spot.x, .int .i64 o.spot.y, .int .i64 0]) Z Z ab Z cU Z Z Z λ wJ lh ab=> ?_;have:=lh.size;have ma:=Ext.mod kC lh bx;refine ag<|ai<|J (ak Z (ab.all iM eI))<| ?_;have ah:=ah.mod p8 aQ;have ah:=ah.mod lh aQ;refine st (new:= [.int .i64 o.by_, .int .i64 o.kind, .int .i64 0, .int .i64 o.spot.x, .int .i64 o.spot.y, .int .i64 0]) Z Z ah Z eI Z Z Z λ yn l3 ah=> ?_;have:=l3.size;have j1:=Ext.mod ma l3 bx;refine ag<|rt<|bb (.cell Z (ah.all iM eI) .nil)<| ?_;exact ⟨by rw [show aO.bare o=(⟨o.by_,o.kind,0,⟨o.spot.x,o.spot.y⟩,0⟩:aO) from by unfold aO.bare;congr 1<;>(first | rfl | (split<;>first | rfl | omega))];rfl,j1⟩
   ·simp only [cH] at rW;refine bt<|ai<|J (ak Z (ab.all iM eI))<| ?_;have ah:=ah.mod p8 aQ;refine st (new:= [.int .i64 o.by_, .int .i64 o.kind, .int .i64 0, .int .i64 o.spot.x, .int .i64 o.spot.y, .int .i64 o.what]) Z Z ah Z eI Z Z Z λ GL Gg ah=> ?_;have:=Gg.size;have tQ:=Ext.mod kC Gg bx;refine ag<|rt<|bb (.cell Z (ah.all iM eI) .nil)<| ?_;exact ⟨by rw [show aO.bare o=(⟨o.by_,o.kind,0,⟨o.spot.x,o.spot.y⟩,o.what⟩:aO) from by unfold aO.bare;congr 1<;>(first | rfl | (split<;>first | rfl | omega))];rfl,tQ⟩
 ·refine bt<|az<|ai<|J (au pN Z)<|J (ak Z (ab.one bf Z))<|J (bne Z Z)<|vm Z<|br Z Z Z Z (λ hc=>au pN Z) Z<|br Z Z Z Z (λ hc=>ak (gt hc Z) (ab.one bf Z)) Z<|br Z Z Z Z (λ hc=>bne (gt hc Z) Z) Z<|J (e9 Z Z Z Z)<|ag<| ?_;refine ee Z (λ xK=> ?_) (λ xK=> ?_)
  ·simp only [cH] at xK;refine rg<|J (v:= .agg #[.int .i64 0, .int .i64 0]) (cM Z (by kernel_rfl))<|J (au C4 Z)<|st (new:= [.int .i64 o.by_, .int .i64 o.kind, .int .i64 o.aU, .int .i64 0, .int .i64 0, .int .i64 o.what]) Z Z ab Z bW Z Z Z λ GM gX ab=> ?_;have:=gX.size;have oJ:=Ext.mod bR gX bx;refine ag<|az<|ai<|J (au pN Z)<|J (ak Z (ab.one bf Z))<|J (bne Z Z)<|vm Z<|br Z Z Z Z (λ hc=>au pN Z) Z<|br Z Z Z Z (λ hc=>ak (gt hc Z) (ab.one bf Z)) Z<|br Z Z Z Z (λ hc=>bne (gt hc Z) Z) Z<|J (e9 Z Z Z Z)<|ag<| ?_;refine ee Z (λ W8=> ?_) (λ W8=> ?_)
   ·simp only [cH] at W8;refine rg<|J (au C5 Z)<|st (new:= [.int .i64 o.by_, .int .i64 o.kind, .int .i64 o.aU, .int .i64 0, .int .i64 0, .int .i64 0]) Z Z ab Z cU Z Z Z λ q7 lj ab=> ?_;have:=lj.size;have ih:=Ext.mod oJ lj bx;refine ag<|ai<|J (ak Z (ab.all iM eI))<| ?_;have ah:=ah.mod gX aQ;have ah:=ah.mod lj aQ;refine st (new:= [.int .i64 o.by_, .int .i64 o.kind, .int .i64 o.aU, .int .i64 0, .int .i64 0, .int .i64 0]) Z Z ah Z eI Z Z Z λ Oj zz ah=> ?_;have:=zz.size;have sC:=Ext.mod ih zz bx;refine ag<|rt<|bb (.cell Z (ah.all iM eI) .nil)<| ?_;exact ⟨by rw [show aO.bare o=(⟨o.by_,o.kind,o.aU,⟨0,0⟩,0⟩:aO) from by unfold aO.bare;congr 1<;>(first | rfl | (split<;>first | rfl | omega))];rfl,sC⟩
   ·simp only [cH] at W8;refine bt<|ai<|J (ak Z (ab.all iM eI))<| ?_;have ah:=ah.mod gX aQ;refine st (new:= [.int .i64 o.by_, .int .i64 o.kind, .int .i64 o.aU, .int .i64 0, .int .i64 0, .int .i64 o.what]) Z Z ah Z eI Z Z Z λ JP YN ah=> ?_;have:=YN.size;have qt:=Ext.mod oJ YN bx;refine ag<|rt<|bb (.cell Z (ah.all iM eI) .nil)<| ?_;exact ⟨by rw [show aO.bare o=(⟨o.by_,o.kind,o.aU,⟨0,0⟩,o.what⟩:aO) from by unfold aO.bare;congr 1<;>(first | rfl | (split<;>first | rfl | omega))];rfl,qt⟩
  ·simp only [cH] at xK;refine bt<|az<|ai<|J (au pN Z)<|J (ak Z (ab.one bf Z))<|J (bne Z Z)<|vm Z<|br Z Z Z Z (λ hc=>au pN Z) Z<|br Z Z Z Z (λ hc=>ak (gt hc Z) (ab.one bf Z)) Z<|br Z Z Z Z (λ hc=>bne (gt hc Z) Z) Z<|J (e9 Z Z Z Z)<|ag<| ?_;refine ee Z (λ FC=> ?_) (λ FC=> ?_)
   ·simp only [cH] at FC;refine rg<|J (au C5 Z)<|st (new:= [.int .i64 o.by_, .int .i64 o.kind, .int .i64 o.aU, .int .i64 o.spot.x, .int .i64 o.spot.y, .int .i64 0]) Z Z ab Z cU Z Z Z λ Ok kr ab=> ?_;have:=kr.size;have yy:=Ext.mod bR kr bx;refine ag<|ai<|J (ak Z (ab.all iM eI))<| ?_;have ah:=ah.mod kr aQ;refine st (new:= [.int .i64 o.by_, .int .i64 o.kind, .int .i64 o.aU, .int .i64 o.spot.x, .int .i64 o.spot.y, .int .i64 0]) Z Z ah Z eI Z Z Z λ JR p' ah=> ?_;have:=p'.size;have sG:=Ext.mod yy p' bx;refine ag<|rt<|bb (.cell Z (ah.all iM eI) .nil)<| ?_;exact ⟨by rw [show aO.bare o=(⟨o.by_,o.kind,o.aU,⟨o.spot.x,o.spot.y⟩,0⟩:aO) from by unfold aO.bare;congr 1<;>(first | rfl | (split<;>first | rfl | omega))];rfl,sG⟩
   ·simp only [cH] at FC;refine bt<|ai<|J (ak Z (ab.all iM eI))<|st (new:= [.int .i64 o.by_, .int .i64 o.kind, .int .i64 o.aU, .int .i64 o.spot.x, .int .i64 o.spot.y, .int .i64 o.what]) Z Z ah Z eI Z Z Z λ aap aj3 ah=> ?_;have:=aj3.size;have G7:=Ext.mod bR aj3 bx;refine ag<|rt<|bb (.cell Z (ah.all iM eI) .nil)<| ?_;exact ⟨by rw [show aO.bare o=(⟨o.by_,o.kind,o.aU,⟨o.spot.x,o.spot.y⟩,o.what⟩:aO) from by unfold aO.bare;congr 1<;>(first | rfl | (split<;>first | rfl | omega))];rfl,G7⟩
theorem Y4 (o:aO) (w:World):
  Calls prog 104 #[.agg #[.int .i64 o.by_, .int .i64 o.kind, .int .i64 o.aU, .int .i64 o.spot.x, .int .i64 o.spot.y, .int .i64 o.what]] w (λ e w'=>e= .returned (.int .i64 o.bq)∧Ext w w'):=by
 refine cl (n:=43) func104 Z Z Z ?_;refine ai<|cI Z Z Z Z λ cW bw a7 eA ab=> ?_;have:=a7.size;have bk:=τ (Ext.bK w) a7;have eG:=ab.lt;refine va Z<|ag<|az<|ai<|J (au pO Z)<|J (ak Z (ab.one bf Z))<|ca HR Z Z ((Jf o.by_ 0 7 _).mono ?_);rintro e eM ⟨rfl,cL⟩;refine ⟨_,Z, ?_⟩;have:=cL.size;have bR:=τ bk cL;refine J (eF Z)<|vm Z<|br Z Z Z Z (λ hc=>au pN Z) Z<| ?_;have ab:=ab.later cL;refine br Z Z Z Z (λ hc=>ak (gt hc Z) (ab.one bf Z)) Z<|zX Z Z Z Z HR (λ hc=>hM (gt hc Z) (hM Z (hM Z Z))) (λ hc=>Jf o.kind 1 5 _) Z λ wI ng=> ?_;have:=ng.size;have kB:=τ bR ng;refine br Z Z Z Z (λ hc=>eF (gt hc Z)) Z<|J (fM Z Z Z Z)<|vm Z<|br Z Z Z Z (λ hc=>au C3 Z) Z<| ?_;have ab:=ab.later ng;refine br Z Z Z Z (λ hc=>ak (gt hc Z) (ab.one bf Z)) Z<|zX Z Z Z Z HR (λ hc=>hM (gt hc Z) (hM Z (hM Z Z))) (λ hc=>Jf o.aU 0 1000000 _) Z λ JI qj=> ?_;have:=qj.size;have wX:=τ kB qj;refine br Z Z Z Z (λ hc=>eF (gt hc Z)) Z<|J (fM Z Z Z Z)<|vm Z<|br Z Z Z Z (λ hc=>au C4 Z) Z<|br Z Z Z Z (λ hc=>au ij (gt hc Z)) Z<| ?_;have ab:=ab.later qj;refine br Z Z Z Z (λ hc=>ak (gt hc Z) (ab.one bf Z)) Z<|zX Z Z Z Z HR (λ hc=>hM (gt hc Z) (hM Z (hM Z Z))) (λ hc=>Jf o.spot.x (-1000) 1000 _) Z λ Od l9=> ?_;have:=l9.size;have tP:=τ wX l9;refine br Z Z Z Z (λ hc=>eF (gt hc Z)) Z<|J (fM Z Z Z Z)<|vm Z<|br Z Z Z Z (λ hc=>au C4 Z) Z<|br Z Z Z Z (λ hc=>au iN (gt hc Z)) Z<| ?_;have ab:=ab.later l9;refine br Z Z Z Z (λ hc=>ak (gt hc Z) (ab.one bf Z)) Z<|zX Z Z Z Z HR (λ hc=>hM (gt hc Z) (hM Z (hM Z Z))) (λ hc=>Jf o.spot.y (-1000) 1000 _) Z λ z1 hP=> ?_;have:=hP.size;have nk:=τ tP hP;refine br Z Z Z Z (λ hc=>eF (gt hc Z)) Z<|J (fM Z Z Z Z)<|vm Z<|br Z Z Z Z (λ hc=>au C5 Z) Z<| ?_;have ab:=ab.later hP;refine br Z Z Z Z (λ hc=>ak (gt hc Z) (ab.one bf Z)) Z<|zX Z Z Z Z HR (λ hc=>hM (gt hc Z) (hM Z (hM Z Z))) (λ hc=>Jf o.what 0 1000000 _) Z λ BR ep=> ?_;have:=ep.size;have lR:=τ nk ep;refine br Z Z Z Z (λ hc=>eF (gt hc Z)) Z<|J (fM Z Z Z Z)<|ag<| ?_;refine ee Z (λ xJ=> ?_) (λ xJ=> ?_)
 ·refine ai<|va Z<|ag<|rt<|bT<|bb (.tmp Z .nil)<| ?_;exact ⟨by rw [aO.adU xJ];rfl,lR⟩
 ·refine bt<|az<|az<| ?_;refine rd [(0,0),(1,0),(2,0)] [0,1,2,3] (by kernel_rfl) (by kernel_rfl) ?_;have ab:=ab.later ep;refine bG Z (λ _ x=>ak Z ((ab.later x).all iM eI))<|pT Z Z atj Z (λ _ x=>aBM o _) Z<|bG Z (λ _ x=>ak Z ((ab.later x).all iM eI))<|ar Z (λ _=>PZ apb apa (p:=aO.bare o) (q:=o) Z Z)<|fn λ aak wT=> ?_;have:=wT.size;have Ez:=τ lR wT;refine aT<| ?_;refine ee Z (λ LO=> ?_) (λ LO=> ?_)
  ·refine ai<|va Z<|ag<|rt<|bT<|bb (.tmp Z .nil)<| ?_;exact ⟨by rw [aO.arp xJ LO];rfl,Ez⟩
  ·refine bt<|ai<|va Z<|ag<|rt<|bb (.tmp Z .nil)<| ?_;exact ⟨by rw [aO.arq xJ LO];rfl,Ez⟩
theorem Y3 (A:Option Addr) (c:Nat) (l:List aO) (w:World) (aB:aO.rep.aK 48 w A c l):
  Calls prog 87 #[.slice A l.length c] w (λ e w'=>e= .returned (.int .i64 (iu l))∧Ext w w'):=by
 have qR:=aB.dT;refine cl (n:=21) func87 Z Z Z ?_;refine ai<|va Z<|ag<|az<|ai<|vm Z<|J (cj underlying44 Z)<|J (iK Z Z)<|ag<| ?_;refine dw Z (λ j'=> ?_) (λ j'=> ?_)
 ·refine ai<|va Z<|ag<|rt<|bT<|bb (.tmp Z .nil)<| ?_;exact ⟨by rw [aB9 (by omega)];rfl,(Ext.bK w)⟩
 ·refine bt<|az<|ai<|vm Z<|J (cj underlying44 Z)<|vm Z<|ag<|bA<| ?_;refine dX (λ b4 b2 aG=>∃ k:Nat,b2= [(9, .slice A l.length c),(10, .int .i64 (l.length:Int)),(11, .int .i64 (k:Int))]∧b4=l.length - k∧Ext w aG∧(k≤l.length)∧(∀ i,i<k→(l.getD i default).bq=0)) _ _ ⟨0,Z,Z,(Ext.bK w),by omega,λ i aq=>by omega⟩ (.cons Z (.cons Z (.cons (bO Z) .nil))) ?_;rintro Ns Km ku ⟨k,rfl,rfl,di,aw,aS⟩;have:=di.size;refine ai<|J (blt Z Z)<|ag<|az<| ?_;refine dw Z (λ mT=> ?_) (λ mT=> ?_)
  ·refine bt<|az<|bA<|ai<|J (bY k underlying44 eI Z Z ((aB.keep di).bu (aX k)) Z (by omega))<|J (ak Z (κ.aK.hb Dg ((aB.keep di).cr (aX k)) (dH (l:=l) (u:=default) (by omega)) iM eI))<|al Z Qp Z Z λ Ei PQ cL aAa mG=> ?_;have:=cL.size;have lv:=τ di cL;have ak6:=mG.lt;refine st (new:= [.int .i64 ((l.getD k default).by_), .int .i64 ((l.getD k default).kind), .int .i64 ((l.getD k default).aU), .int .i64 ((l.getD k default).spot.x), .int .i64 ((l.getD k default).spot.y), .int .i64 ((l.getD k default).what)]) Z Z mG Z eI Z Z Z λ JI uT mG=> ?_;have:=uT.size;have wX:=Ext.mod lv uT bx;refine ag<|ai<|J (ak Z (mG.all iM eI))<|ca VH Z Z ((Y4 (l.getD k default) _).mono ?_);rintro e u6 ⟨rfl,h0⟩;refine ⟨_,Z, ?_⟩;have:=h0.size;have jr:=τ wX h0;refine va Z<|ag<|ai<|vm Z<|J (bne Z Z)<|ag<| ?_;refine eU Z (λ vY=> ?_) (λ vY=> ?_)
   ·refine ai<|vm Z<|va Z<|ag<|rt<|eK<|bT<|my<|eK<|bT<|bb (.tmp Z .nil)<| ?_;exact ⟨by rw [aB8 (by omega) (show k<l.length by omega) aS (by simpa using vY)];rfl,jr⟩
   ·refine fv<|bX<|aT<|rg<|J (bad Z Z (bH (by omega)))<|vm Z<|nl<| ?_;exact cO _ _ ⟨k+1,Z,Z,jr,by omega,th aS (by simpa using vY)⟩ (by omega) (.cons Z (.cons Z (.cons (bO Z) .nil)))
  ·refine c_<|c9<|dn<|c8<|aT<|ai<|va Z<|ag<|rt<|bb (.tmp Z .nil)<| ?_;exact ⟨by rw [aCa (by omega) (λ i aq=>aS i (by omega))];rfl,di⟩
end
end Go.Proofs.YtlikikpgmmkjbaaGreat
