import Derived.Test.YtmeeljmapailnaaGreatMrQ
set_option linter.unusedVariables false
set_option linter.unusedSimpArgs false
set_option maxRecDepth 100000
set_option maxHeartbeats 4000000
open Go.RowKit
namespace Go.Proofs.YtmeeljmapailnaaGreat
open Tryz
abbrev aYV:=@List.pairwise_iff_getElem
abbrev aZD:=@List.flatMap_append
abbrev aZV:=@List.flatMap_cons
abbrev baB:=@List.drop_zero
abbrev baC:=@List.flatMap_nil
abbrev bbr:=@List.getElem_cons_zero
abbrev bbs:=@List.getElem_cons_succ
abbrev bcR:=@Option.map_eq_none_iff
abbrev bdo:=@Nat.lt_trichotomy
section
variable {i:Nat} {t:bj}
def GQ (s t:bj):Prop:=s.id<t.id∧s.spot≠t.spot
theorem ZQ {α:Type} [Inhabited α] {l:List α} {t:α} (h:l[i]? =some t):l.getD i default=t:=by rw [aX7,h];rfl
theorem Good.aD2 {W:ai} (bP:Good W) {j:Nat} {s:bj} (jF:i<j) (hs:W.ao[i]? =some s) (aH:W.ao[j]? =some t):s.id<t.id:=by
 induction j generalizing t with
 | zero=>omega
 | succ j bL =>
  have ay:=(aX8.1 aH).1;obtain ⟨u,hu⟩:=ic (l:=W.ao) (i:=j) (by omega);have κ:=(bP.ids (j+1) t aH).1;have τ:W.kV (j+1)=u.id:=by
   unfold ai.kV;rw [aYi (by omega),bbX,ZQ hu]
  rcases bbh.1 jF with h | rfl
  ·have:=bL h hu;omega
  ·rw [hs] at hu;injection hu with hu;subst hu;omega
theorem Good.LD {W:ai} (bP:Good W):W.ao.Pairwise GQ:=by
 rw [aYV];intro i j hi ay jF;have hs:=aYb hi;have aH:=aYb ay;refine ⟨bP.aD2 jF hs aH,λ e=> ?_⟩;have κ:=bP.km j _ aH;rw [← e] at κ;have:(W.km j).contains (W.ao[i]).spot=true:=by
  rw [bbD];unfold ai.km;exact aYU.2 ⟨_,bav.2 ⟨i,by rw [aYO,aYq jF,hs]⟩,Z⟩
 rw [this] at κ;exact nomatch κ
theorem Good.each {W:ai} (bP:Good W) (aH:t∈W.ao):0<t.id∧t.id<W.next∧RS W.field W.bf.length t:=by
 obtain ⟨i,hi⟩:=bav.1 aH;have κ:=bP.ids i t hi;exact ⟨by omega,κ.2.1,bP.ao i t hi⟩
theorem Good.anJ {W V:ai} (bP:Good W) (hf:V.field=W.field) (ag:V.bf=W.bf) (hs:V.bE=W.bE) (hm:V.bX=W.bX) (hn:V.next=W.next) (bK:0≤V.now∧V.now≤1000000) (ah:V.ao.length≤100) (cK:V.ao.Pairwise GQ)
  (dM:∀ t∈V.ao,0<t.id∧t.id<V.next∧RS V.field V.bf.length t):Good V where
 field:=by rw [hf];exact bP.field
 iJ:=by rw [ag];exact bP.iJ
 dJ:=ah
 sl:=by rw [hs,ag];exact bP.sl
 bf:=by rw [ag,hf];exact bP.bf
 bE:=by rw [hs];exact bP.bE
 FZ:=by rw [hm,hf];exact bP.FZ
 bX:=by rw [hm,hf];exact bP.bX
 ao:=λ i t aH=>(dM t (aYR aH)).2.2
 ids:=λ i t aH=>by
  have κ:=dM t (aYR aH);unfold ai.kV;split
  ·exact ⟨κ.1,κ.2.1,aZl _⟩
  ·rename_i aG
   have hi:=(aX8.1 aH).1;obtain ⟨u,hu⟩:=ic (l:=V.ao) (i:=i - 1) (by omega);rw [ZQ hu];have τ:=dM u (aYR hu);have au:=(aYV.1 cK) (i - 1) i (by omega) hi (by omega);have aW:V.ao[i - 1]'(by omega)=u:=(aX8.1 hu).2;have bb:V.ao[i]=t:=(aX8.1 aH).2;rw [aW,bb] at au;exact ⟨au.1,κ.2.1,by omega⟩
 km:=λ i t aH=>by
  rw [bdt];intro hc;rw [bbD] at hc;unfold ai.km at hc;obtain ⟨s,hN,hO⟩:=aYU.1 hc;obtain ⟨j,ay⟩:=bav.1 hN;rw [aYO] at ay;split at ay
  ·rename_i iF
   have hi:=(aX8.1 aH).1;have au:=(aYV.1 cK) j i (by omega) hi iF;have aW:V.ao[j]'(by omega)=s:=(aX8.1 ay).2;have bb:V.ao[i]=t:=(aX8.1 aH).2;rw [aW,bb] at au;exact au.2 hO
  ·exact nomatch ay
 next:=by rw [hn];exact bP.next
 now:=bK
end
def apo (l:List bj) (x:Int):Option bj:=l.find? λ t=>t.id == x
def aWZ (l:List bj) (x:Int):Value:= .tuple #[.agg ((apo l x).getD default).cells.toArray, .bool (apo l x).isSome]
def Qa (l:List Int):Bool:=(List.range (l.length - 1)).all λ i=> !decide (l.getD (i+1) 0<l.getD i 0)
theorem aJF {l:List Int} (h:∀ i,i+1<l.length→¬ l.getD (i+1) 0<l.getD i 0):Qa l=true:=by
 unfold Qa;rw [aYW];intro i hi;have:=h i (by have:=aY0.1 hi;omega);simpa using this
def aWI {α:Type} (l:List α) (k:Nat):List α:=l.mapIdx λ i x=>if i<k∨l.length - k≤i then (l[l.length - 1 - i]?).getD x else x
section
variable {l:List fc}
def C_ (W:ai) (l:List fc):List bj:=(List.range W.ao.length).map (zh W.ao (gR W l))
structure Ni (W:ai) (l:List fc):Prop where
 eB:Good W
 bZ:qq W l= {W with ao:=(C_ W l).filter λ t=>decide (0<t.dW)}
 bP:Bz W l=((C_ W l).filter λ t=> !decide (0<t.dW)).map bj.id
 aBr:∀ k,0≤(gR W l).getD k 0
 ah:(gR W l).length=W.ao.length
theorem apg {W:ai} (h:nF W l=0):Ni W l :=
 ⟨Good.Dx (R_ h).1,(adB h rfl).1,(adB h rfl).2,λ k=>((aau h).2 k).1,(aau h).1⟩
theorem T_ (W:ai) (l:List fc):(C_ W l).length=W.ao.length:=by simp [C_]
theorem T9 {W:ai} {k:Nat} {t:bj} (h:W.ao[k]? =some t):(C_ W l)[k]? =some {t with dW:=t.dW - (gR W l).getD k 0}:=by
 have ak:=(aX8.1 h).1;unfold C_;rw [aYv,bbM ak,aZL];unfold zh;rw [ZQ h]
theorem aDH {W:ai} {x:bj} (h:x∈C_ W l):∃ (k:Nat) (t:bj),W.ao[k]? =some t∧x= {t with dW:=t.dW - (gR W l).getD k 0}:=by
 obtain ⟨k,ak⟩:=bav.1 h;have bF:=(aX8.1 ak).1;rw [T_] at bF;obtain ⟨t,aH⟩:=ic bF;rw [T9 aH] at ak;injection ak with ak
 exact ⟨k,t,aH,ak.symm⟩
theorem Ni.LD {W:ai} (h:Ni W l):(C_ W l).Pairwise GQ:=by
 rw [aYV];intro i j hi ay jF;rw [T_] at hi ay;obtain ⟨s,hs⟩:=ic hi;obtain ⟨t,aH⟩:=ic ay;have aW:=(aX8.1 (T9 (l:=l) hs)).2;have bb:=(aX8.1 (T9 (l:=l) aH)).2;rw [aW,bb];have:=(aYV.1 h.eB.LD) i j hi ay jF;rw [(aX8.1 hs).2,(aX8.1 aH).2] at this;exact this
theorem Ni.right {W:ai} (h:Ni W l):Good (qq W l):=by
 rw [h.bZ];refine Good.anJ h.eB Z Z Z Z Z h.eB.now ?_ (h.LD.filter _) λ t aH=> ?_
 ·exact aYF (baY _ _) (by rw [T_];exact h.eB.dJ)
 ·obtain ⟨aH,hp⟩:=baM.1 aH;obtain ⟨k,s,hs,rfl⟩:=aDH aH;have κ:=h.eB.each (aYR hs);have τ:=h.aBr k;have au:=aY6 hp;refine ⟨κ.1,κ.2.1,⟨κ.2.2.kind,κ.2.2.owner,κ.2.2.ground, ?_,κ.2.2.load⟩⟩;have aU:=κ.2.2.dW;show 1≤s.dW - _∧s.dW - _≤ai.ni s.kind;have bN:0<s.dW - (gR W l).getD k 0:=au;omega
theorem aJE {l:List Int} (h:l.Pairwise (· < ·)):Qa l=true:=by
 refine aJF λ i hi=> ?_;have:=(aYV.1 h) i (i+1) (by omega) hi (by omega);rw [aX7,aX7,aYb hi,aYb (by omega:i<l.length)];show ¬ l[i+1]<l[i];omega
end
section
section
variable {f:aL} {a b c x y:az} {d D:Int}
theorem aHU (hf:f.a7=0) (ha:f.ground a=true) (uR:0≤c' f a b c) (ajQ:0≤c' f a x c):mY f (c' f a b) c=mY f (c' f a x) c:=by
 have key:∀ t n,n∈eK c→0≤c' f a t c→((f.ground n && decide (0≤c' f a t n) && decide (c' f a t n+f.hB c=c' f a t c))=true↔∃ e,uv f a n e∧uv f a c (e+f.hB c)):=by
  intro t n hn aH;have hs:=ZC (b:=t) hf ha;have aj6:=N2 hf ha aH;constructor
  ·intro h;simp only [aYl,aYB] at h;exact ⟨_,N2 hf ha h.1.2,by rw [h.2];exact aj6⟩
  ·rintro ⟨e,κ,τ⟩;have he:=aj6.uniq τ;have FB:c' f a t n=e:=hs.known n e κ λ D xw=>by
    have:=(hs.p6 c aH).2 D xw;have au:=aL.Zm t (aL.adr hn);have ak:=f.rk (c:=c);omega
   rw [FB,n3.ground ha κ.1,aYD (n3.tS κ.1),aYD he.symm];rfl
 unfold mY;congr 1;apply find_congr;intro n hn;rw [bar,key b n hn uR,key x n hn ajQ]
where
 find_congr {p q:az→Bool}:∀ {l:List az},(∀ n∈l,p n=q n)→l.find? p=l.find? q
  | [],_=>rfl
  | n::l,h=>by
   rw [List.find?_cons,List.find?_cons,h n aYE,find_congr λ m hm=>h m (aYm _ hm)]
theorem aLP (hf:f.a7=0) (ha:f.ground a=true) (ag:0≤c' f a b b) (hx:0≤c' f a x x):∀ (n:Nat) (c:az),0≤c' f a b c→0≤c' f a x c→(c' f a b c).toNat=n→gy f (c' f a b) a c=gy f (c' f a x) a c:=by
 have W4:=Tc hf ha ag;have W5:=Tc hf ha hx;intro n;induction n using Nat.strongRecOn with
 | ind n bL =>
  intro c κ τ hn;by_cases e:c=a
  ·subst e;rw [DS W4,DS W5]
  ·have hp:=aHU (b:=b) (x:=x) hf ha κ τ;obtain ⟨nO,pB,nP,zH⟩:=W4.prev κ e;obtain ⟨lM,nt,Bt,U'⟩:=W5.prev τ e;have ak:=f.rk (c:=c);rw [DT W4 κ e,DT W5 τ e,← hp];congr 1;exact bL _ (by omega) _ nP (by rw [hp];exact Bt) Z
theorem aLQ {aD:az→Int} (h:pX f a aD):∀ (n:Nat) (c:az),0≤aD c→(aD c).toNat=n→∀ i,(hi:i<(gy f aD a c).length)→(gy f aD a c).drop i=gy f aD a ((gy f aD a c)[i])∧n3 f ((gy f aD a c)[i]) c (aD c - aD ((gy f aD a c)[i])):=by
 intro n;induction n using Nat.strongRecOn with
 | ind n bL =>
  intro c hc hn i hi;by_cases e:c=a
  ·subst e;rw [DS h] at hi;have:i=0:=by simpa using hi
   subst this;simp only [DS h,baB,bbr];exact ⟨by first | trivial | rfl,by rw [bcd];exact .start rfl⟩
  ·have g_:=DT h hc e;obtain ⟨nO,pB,nP,zH⟩:=h.prev hc e;have ak:=f.rk (c:=c);cases i with
   | zero =>
    have e0:(gy f aD a c)[0]=c:=by simp only [g_,bbr]
    rw [e0,baB,bcd];exact ⟨Z, .start Z⟩
   | succ i =>
    have Ic:i<(gy f aD a (mY f aD c)).length:=by rw [g_] at hi;simpa using hi
    obtain ⟨dw,dN⟩:=bL _ (by omega) _ nP rfl i Ic;have aW:(gy f aD a c)[i+1]=(gy f aD a (mY f aD c))[i]:=by simp only [g_,bbs]
    rw [aW];refine ⟨by rw [← dw,g_,bbO], ?_⟩;have r:n3 f _ c (aD (mY f aD c) - aD ((gy f aD a (mY f aD c))[i])+f.hB c):= .step dN (aL.PL.2 ⟨aL.adr nO,h.gr c hc⟩);rw [show aD c - aD ((gy f aD a (mY f aD c))[i])=aD (mY f aD c) - aD ((gy f aD a (mY f aD c))[i])+f.hB c by omega];exact r
theorem aLU (he:ib f a b=0) {n:Nat} (hn:n<(gX f a b).length) {x:az} (hx:(gX f a b).getD n default=x):ib f a x=0∧ib f x b=0∧gX f a x=(gX f a b).take (n+1)∧p' f a x+p' f x b=p' f a b:=by
 obtain ⟨hf,ha,ag,aG,ak,hp⟩:=Zs he;have F:=Tc hf ha aG;have ah:(gX f a b).length=(gy f (c' f a b) a b).length:=by rw [hp,baG]
 have hi:(gy f (c' f a b) a b).length - 1 - n<(gy f (c' f a b) a b).length:=by omega
 obtain ⟨s1,s2⟩:=aLQ F _ b aG rfl _ hi;have ex:(gy f (c' f a b) a b)[(gy f (c' f a b) a b).length - 1 - n]=x:=by
  rw [l2 hn] at hx;rw [← hx];simp only [hp,bc6]
 rw [ex] at s1 s2;have Ud:x∈gy f (c' f a b) a b:=by rw [← ex];exact aZs hi
 obtain ⟨eX,fA,i_⟩:=aLO F _ b aG rfl x Ud;have aj7:=N2 hf ha eX;have aW:=aiU hf ha aj7;have fg:0≤c' f a x x:=by rw [aW];exact eX
 have CZ:=Zt hf ha i_ fg;have r2:=azY hf i_ s2;have alm:=Zt hf i_ ag r2.1;refine ⟨CZ,alm, ?_, ?_⟩
 ·have T3:gX f a x=(gy f (c' f a x) a x).reverse:=by unfold gX;rw [aYq CZ]
  rw [T3,← aLP hf ha aG fg _ x eX fg rfl,← s1,hp,List.reverse_drop,ah.symm.trans ah];congr 1;have:(gy f (c' f a b) a b).reverse.length=(gy f (c' f a b) a b).length:=baG;omega
 ·have dw:p' f a x=c' f a x x:=by unfold p';rw [aYq CZ]
  have dN:p' f x b=c' f x b b:=by unfold p';rw [aYq alm]
  rw [dw,dN,ak,aW];have au:=(N2 hf ha aG).2 _ (n3.x' aj7.1 (N2 hf i_ r2.1).1);omega
end
end
section
variable {f:aL} {l:List eQ} {k:Nat} {c a:az} {t:bj}
theorem ao9 {T:List bj} (h:sz f l T k=some c):
  0≤fC l (T.getD k default).id∧ib f (T.getD k default).spot (l.getD (fC l (T.getD k default).id).toNat default).bp=0∧2≤(gX f (T.getD k default).spot (l.getD (fC l (T.getD k default).id).toNat default).bp).length∧
  c=(gX f (T.getD k default).spot (l.getD (fC l (T.getD k default).id).toNat default).bp).getD 1 default∧kk T c≤0:=by
 unfold sz at h;split at h
 ·exact nomatch h
 ·split at h
  ·exact nomatch h
  ·split at h
   ·exact nomatch h
   ·split at h
    ·exact nomatch h
    ·rename_i κ τ au aU
     injection h with h
     subst h;exact ⟨by omega,by simpa using τ,by omega,rfl,by omega⟩
theorem aqd {aD:az→Int} (h:pX f a aD) (hc:0≤aD c):∃ r,gy f aD a c=c::r∧(r= []↔c=a):=by
 by_cases e:c=a
 ·subst e;exact ⟨[],DS h,by simp⟩
 ·obtain ⟨nO,pB,nP,zH⟩:=h.prev hc e;refine ⟨_,DT h hc e,⟨λ hr=> ?_,λ h=>absurd h e⟩⟩;by_cases bb:mY f aD c=a
  ·rw [bb,DS h] at hr;exact nomatch hr
  ·rw [DT h nP bb] at hr;exact nomatch hr
theorem aqe {b x:az} (he:ib f a b=0) (hn:2≤(gX f a b).length) (hx:(gX f a b).getD 1 default=x):
  ib f a x=0∧ib f x b=0∧p' f a x+p' f x b=p' f a b∧a∈eK x∧f.ground x=true∧x≠a∧gX f a x= [a,x]:=by
 obtain ⟨κ,τ,au,aU⟩:=aLU he (n:=1) (by omega) hx;obtain ⟨hf,ha,ag,aG,ak,hp⟩:=Zs he;obtain ⟨_,_,aAw,fg,_,T3⟩:=Zs κ;have Q6:=Tc hf ha fg;have ah:(gX f a x).length=2:=by rw [au,aYa];omega
 rw [T3,baG] at ah;have abu:x≠a:=by
  intro e;obtain ⟨r,aW,bb⟩:=aqd Q6 fg;rw [aW,bb.2 e] at ah;simp at ah
 have g_:=DT Q6 fg abu;obtain ⟨nO,pB,nP,zH⟩:=Q6.prev fg abu;obtain ⟨r,aW,bb⟩:=aqd Q6 nP;rw [g_,aW] at ah;have hr:r= []:=aYx (by simpa using ah);have ak0:=bb.1 hr;refine ⟨κ,τ,aU,by rw [← ak0];exact nO,aAw,abu, ?_⟩;rw [T3,g_,aW,hr,ak0];rfl
theorem aJr {T:List bj} (cK:T.Pairwise GQ) (ak:k<T.length) (hc:kk T c≤0):(T.set k ((T.getD k default).bp c)).Pairwise GQ:=by
 have lp:∀ t∈T,t.spot≠c:=λ t aH e=>by have:=aGS.2 ⟨t,aH,e⟩;omega
 have aka:T.getD k default=T[k]:=by rw [aX7,aYb ak];rfl
 rw [aYV] at cK ⊢;intro i j hi ay jF;rw [aYn] at hi ay;have h:=cK i j hi ay jF;rw [List.getElem_set,List.getElem_set];split<;>split
 ·omega
 ·rename_i aW bb
  subst aW;exact ⟨by have axG:=aZb bj.id aka;have tj:=h.1;show (T.getD k default).id<_;omega,λ e=>lp _ (aZs ay) e.symm⟩
 ·rename_i aW bb
  subst bb;exact ⟨by have axG:=aZb bj.id aka;have tj:=h.1;show _<(T.getD k default).id;omega,lp _ (aZs hi)⟩
 ·exact h
theorem ao7 {f:aL} {l:List eQ} {T:List bj} {Q:bj→Prop} (ji:∀ t c,Q t→f.ground c=true→Q (t.bp c)) (cK:T.Pairwise GQ) (cB:∀ t∈T,Q t):∀ k,k≤T.length→(kZ f l T k).1.Pairwise GQ∧∀ t∈(kZ f l T k).1,Q t
 | 0,_=>⟨cK,cB⟩
 | k+1,ak=>by
  obtain ⟨alr,abx⟩:=ao7 (l:=l) ji cK cB k (by omega);have ah:=(Vw (f:=f) (l:=l) (T:=T) k).1;cases hs:sz f l (kZ f l T k).1 k with
  | none=>rw [I4 rfl hs];exact ⟨alr,abx⟩
  | some c =>
   rw [Qd rfl hs];obtain ⟨d1,d2,d3,d4,d5⟩:=ao9 hs;obtain ⟨_,_,_,_,g,_⟩:=aqe d2 d3 d4.symm;refine ⟨aJr alr (by omega) d5,λ t aH=> ?_⟩;rcases aZ8 aH with aH | rfl
   ·exact abx t aH
   ·exact ji _ _ (abx _ (jk (by omega))) g
noncomputable def IL (f:aL) (l:List eQ) (T:List bj) (i:Nat):Option az:=sz f l (kZ f l T i).1 i
theorem aKn {T:List bj} (h:k<T.length):(T.set k t).getD k default=t:=by rw [aX7,aYz h];rfl
theorem aKm {T:List bj} {i:Nat} (h:k≠i):(T.set k t).getD i default=T.getD i default:=by rw [aX7,aYJ h,aX7]
theorem Vv {f:aL} {l:List eQ} {T:List bj}:∀ k,k≤T.length→∀ i,i<T.length→(kZ f l T k).1.getD i default=if i<k then (match IL f l T i with | some c=>(T.getD i default).bp c | none=>T.getD i default) else T.getD i default
 | 0,_,i,hi=>by rw [aYi (by omega)];rfl
 | k+1,ak,i,hi=>by
  have bL:=Vv (f:=f) (l:=l) (T:=T) k (by omega);have ah:=(Vw (f:=f) (l:=l) (T:=T) k).1;have q_:=bL k (by omega);rw [aYi (by omega)] at q_;cases hs:IL f l T k with
  | none =>
   rw [I4 rfl hs,bL i hi];by_cases e:i=k
   ·subst e;rw [aYi (by omega),aYq (by omega),hs]
   ·by_cases bb:i<k
    ·rw [aYq bb,aYq (by omega)]
    ·rw [aYi bb,aYi (by omega)]
  | some c =>
   rw [Qd rfl hs];by_cases e:i=k
   ·subst e;rw [aKn (by omega),aYq (by omega),hs,q_]
   ·rw [aKm (λ h=>e h.symm),bL i hi];by_cases bb:i<k
    ·rw [aYq bb,aYq (by omega)]
    ·rw [aYi bb,aYi (by omega)]
theorem ao6 {f:aL} {l:List eQ} {T:List bj}:∀ k,k≤T.length→(kZ f l T k).2=((List.range k).filter λ i=>(IL f l T i).isSome).map λ i=>(T.getD i default).id
 | 0,_=>rfl
 | k+1,ak=>by
  have bL:=ao6 (f:=f) (l:=l) (T:=T) k (by omega);have q_:=Vv (f:=f) (l:=l) (T:=T) k (by omega) k (by omega);rw [aYi (by omega)] at q_;rw [aZY,baP,aYA,aZO];cases hs:IL f l T k with
  | none=>rw [I4 rfl hs,bL];simp
  | some c=>rw [Qd rfl hs,bL,q_];simp
theorem aGa {W:ai} (h:tP W l=0):W.a7=0∧qk W l=(W.nv l).1∧tQ W l=(W.nv l).2:=by
 have hc:W.a7=0:=by
  apply aZN;intro hn;rw [(ank (l:=l) hn).1] at h;exact hn h
 by_cases ah:(l.length:Int)≤200
 ·have:=UP (l:=l) hc ah;exact ⟨hc,this.2⟩
 ·rw [(anl (l:=l) hc (by omega)).1] at h;exact nomatch h
theorem aF9 {W:ai} (h:tP W l=0):
  Good (qk W l)∧(qk W l).ao.length=W.ao.length∧Qa (tQ W l)=true∧qk W l= {W with ao:=(qk W l).ao}∧
  ∀ k,k<W.ao.length→((tQ W l).any (λ y=>(W.ao.getD k default).id == y)=false∧(qk W l).ao.getD k default=W.ao.getD k default)∨
   ∃ c:az,(tQ W l).any (λ y=>(W.ao.getD k default).id == y)=true∧(qk W l).ao.getD k default=(W.ao.getD k default).bp c∧0≤fC l (W.ao.getD k default).id∧
    ib W.field (W.ao.getD k default).spot (l.getD (fC l (W.ao.getD k default).id).toNat default).bp=0∧ib W.field c (l.getD (fC l (W.ao.getD k default).id).toNat default).bp=0∧ib W.field (W.ao.getD k default).spot c=0∧
    p' W.field (W.ao.getD k default).spot (l.getD (fC l (W.ao.getD k default).id).toNat default).bp=p' W.field c (l.getD (fC l (W.ao.getD k default).id).toNat default).bp+p' W.field (W.ao.getD k default).spot c∧
    (W.ao.getD k default).spot∈eK c:=by
 obtain ⟨hc,Zg,azu⟩:=aGa h;have bP:=Good.Dx hc;rw [Zg,azu];have dM:=ao7 (f:=W.field) (l:=l) (T:=W.ao) (Q:=λ t=>0<t.id∧t.id<W.next∧RS W.field W.bf.length t)
  (λ t c I aN=>⟨I.1,I.2.1,⟨I.2.2.kind,I.2.2.owner,aN,I.2.2.dW,I.2.2.load⟩⟩) bP.LD (λ t aH=>bP.each aH) W.ao.length (aYg _)
 have hlen:=apb W l;have qZ:=ao6 (f:=W.field) (l:=l) (T:=W.ao) W.ao.length (aYg _);have K1:=bP.LD;refine ⟨Good.anJ bP Z Z Z Z Z bP.now (by rw [hlen];exact bP.dJ) dM.1 dM.2,hlen, ?_,Z,λ k ak=> ?_⟩
 ·show Qa (kZ W.field l W.ao W.ao.length).2=true;rw [qZ];refine aJE ?_;rw [List.pairwise_map];have hr:((List.range W.ao.length).filter λ i=>(IL W.field l W.ao i).isSome).Pairwise (· < ·):=List.Pairwise.filter _ List.pairwise_lt_range;refine List.Pairwise.imp_of_mem (fun {i j} hi ay jF=> ?_) hr;have hi:=aY0.1 (baM.1 hi).1;have ay:=aY0.1 (baM.1 ay).1;rw [l2 hi,l2 ay];exact ((aYV.1 K1) i j hi ay jF).1
 ·have fX:=Vv (f:=W.field) (l:=l) (T:=W.ao) W.ao.length (aYg _) k ak;rw [aYq ak] at fX;have q_:=Vv (f:=W.field) (l:=l) (T:=W.ao) k (by omega) k ak;rw [aYi (by omega)] at q_;have q3:((W.nv l).2).any (λ y=>(W.ao.getD k default).id == y)=(IL W.field l W.ao k).isSome:=by
   show (kZ W.field l W.ao W.ao.length).2.any _=_;rw [qZ,bar,aZB];constructor
   ·rintro ⟨y,aE,e⟩;obtain ⟨i,hi,rfl⟩:=aYU.1 aE;obtain ⟨y_,C3⟩:=baM.1 hi;have y_:=aY0.1 y_;have e:(W.ao.getD k default).id=(W.ao.getD i default).id:=by simpa using e
    have:i=k:=by
     rw [l2 ak,l2 y_] at e;rcases bdo i k with q | q | q
     ·have:=((aYV.1 K1) i k y_ ak q).1;omega
     ·exact q
     ·have:=((aYV.1 K1) k i ak y_ q).1;omega
    rw [← this];exact C3
   ·intro hs;exact ⟨_,aYU.2 ⟨k,baM.2 ⟨aY0.2 ak,hs⟩,Z⟩,by simp⟩
  cases hs:IL W.field l W.ao k with
  | none =>
   rw [hs] at fX q3;exact .inl ⟨q3,fX⟩
  | some c =>
   rw [hs] at fX q3;obtain ⟨d1,d2,d3,d4,d5⟩:=ao9 hs;rw [q_] at d1 d2 d3 d4;obtain ⟨f1,f2,f3,f4,f5,f6,f7⟩:=aqe d2 d3 d4.symm;exact .inr ⟨c,q3,fX,d1,d2,f2,f1,by omega,f4⟩
end
structure aQ where
 by_:Int
 kind:Int
 bd:Int
 spot:az
 what:Int
 deriving DecidableEq,Inhabited
namespace aQ
def cells (a:aQ):List Value:= [.int .i64 (a.by_), .int .i64 (a.kind), .int .i64 (a.bd), .int .i64 (a.spot.x), .int .i64 (a.spot.y), .int .i64 (a.what)]
def ok (a:aQ):Prop:=(Lit.int .i64 a.by_).wf=true∧(Lit.int .i64 a.kind).wf=true∧(Lit.int .i64 a.bd).wf=true∧(Lit.int .i64 a.spot.x).wf=true∧(Lit.int .i64 a.spot.y).wf=true∧(Lit.int .i64 a.what).wf=true
def raw (j:Nat) (u:Value):Prop:=match j with
 | 0 | 1 | 2 | 3 | 4 | 5=>∃ n:Int,u= .int .i64 n
 | _=>True
theorem qQ (a:aQ):∀ (j:Nat) u,a.cells[j]? =some u→raw j u:=by
 intro j u hu
 match j,hu with
 | 0,hu | 1,hu | 2,hu | 3,hu | 4,hu | 5,hu=>exact ⟨_,(aYd hu).symm⟩
 | j+6,hu=>exact trivial
theorem qP (a:aQ):∀ u∈a.cells,u.oneCell'=true:=by
 intro u hu;unfold cells at hu;simp only [aYk,aZA,baq] at hu;rcases hu with rfl | rfl | rfl | rfl | rfl | rfl<;>rfl
def rep:J aQ:=J.flat 6 cells ok raw (λ _=>rfl) qP qQ
theorem plain:rep.Plain:=J.qa
def zero:Value:= .agg #[.int .i64 0, .int .i64 0, .int .i64 0, .int .i64 0, .int .i64 0, .int .i64 0]
theorem j8:∀ (j:Nat) u,zero.cells[j]? =some u→rep.raw j u:=by
 intro j u hu;have hu:(#[(.int .i64 0:Value),(.int .i64 0:Value),(.int .i64 0:Value),(.int .i64 0:Value),(.int .i64 0:Value),(.int .i64 0:Value)]:Array Value)[j]? =some u:=hu
 match j,hu with
 | 0,hu | 1,hu | 2,hu | 3,hu | 4,hu | 5,hu=>exact ⟨_,(aYd hu).symm⟩
 | j+6,hu=>cases hu
theorem info:(prog.info? 69).map (λ i=>(i.zero,i.size,i.bytes))=some (some zero,6,48):=by kernel_rfl
theorem oD {by_:Nat} {w:World} {A:Option Addr} {c:Nat} {l:List aQ} (h:rep.aK by_ w A c l):∀ a∈l,a.ok:=J.aK.AB (R:=rep) (Q:=ok) (fun {w cs a} (h:rep.has w cs a)=>(show cs=a.cells∧a.ok from h).2) h
def sh:hl:=(.cons (.int .i64) (.cons (.int .i64) (.cons (.int .i64) (.cons (.cons (.int .i64) (.cons (.int .i64) .nil)) (.cons (.int .i64) .nil)))))
end aQ
section
variable {o:aQ} {l:List aQ}
theorem att:MD prog aQ.cells 69 :=by
 intro a b w;obtain ⟨a0,b2,a2,⟨a3,a4⟩,a5⟩:=a;obtain ⟨gW,k_,fw,⟨hQ,xa⟩,EO⟩:=b;simp only [aQ.cells,aQ.mk.injEq,az.mk.injEq];constructor
 ·go_simp
  repeat' split
  all_goals simp_all
 ·go_simp
  repeat' split
  all_goals simp_all
theorem ats:(prog).eqGuardType (prog).depth 69 =false:=by kernel_rfl
theorem OB {w:World} {cs:List Value} {a:aQ} (h:aQ.rep.has w cs a):cs=a.cells:=bas (show cs=a.cells∧a.ok from h)
def aQ.bare (o:aQ):aQ:=⟨o.by_,o.kind,if o.kind=5 then 0 else o.bd,if o.kind≠2∧o.kind≠3 then ⟨0,0⟩ else o.spot,if o.kind≠1∧o.kind≠5 then 0 else o.what⟩
def aQ.F4 (o:aQ):Bool:= !b9 o.by_ 0 7 || !b9 o.kind 1 5 || !b9 o.bd 0 1000000 || !b9 o.spot.x (-1000) 1000 || !b9 o.spot.y (-1000) 1000 || !b9 o.what 0 1000000
def aQ.a7 (o:aQ):Int:=if o.F4=true then 1 else if (!decide (o.bare=o))=true then 4 else 0
theorem aQ.Ny (h:o.F4=true):o.a7=1:=by unfold aQ.a7;rw [aYq h]
theorem aQ.yT (h:o.F4=false) (τ:(!decide (o.bare=o))=true):o.a7=4:=by unfold aQ.a7;rw [aYi (by rw [h];decide),aYq τ]
theorem aQ.awk (h:o.F4=false) (τ:(!decide (o.bare=o))=false):o.a7=0:=by unfold aQ.a7;rw [aYi (by rw [h];decide),aYi (by rw [τ];decide)]
def ix (l:List aQ):Int:=if 100<l.length then 2 else match l.find? (λ o=>o.a7 != 0) with | some o=>o.a7 | none=>0
theorem aHd (h:100<l.length):ix l=2:=by unfold ix;rw [aYq h]
theorem aHe (h:l.length≤100) (aN:∀ i,i<l.length→(l.getD i default).a7=0):ix l=0:=by
 unfold ix;rw [aYi (by omega)];have:l.find? (λ o=>o.a7 != 0)=none:=aZH.2 λ x hx=>by
  obtain ⟨i,hi,rfl⟩:=aY9.1 hx;have:=aN i hi;rw [l2 hi] at this;simp [this]
 rw [this]
theorem aHc {k:Nat} (h:l.length≤100) (ak:k<l.length) (aN:∀ i,i<k→(l.getD i default).a7=0) (ag:¬ (l.getD k default).a7=0):ix l=(l.getD k default).a7:=by
 unfold ix;rw [aYi (by omega)];have:l.find? (λ o=>o.a7 != 0)=some (l.getD k default):=by
  rw [baZ];refine ⟨by simpa using ag,k,ak,(l2 ak).symm,λ j ay=> ?_⟩;have:=aN j ay;rw [l2 (by omega)] at this;simp [this]
 rw [this]
theorem Lx (n lo hi:Int) (w:World):
  Calls prog 130 #[Φ n,Φ lo,Φ hi] w (λ e w'=>e= .returned (.bool (b9 n lo hi))∧Ext w w'):=by
 refine ch (n:=15) func130 Z Z Z ?_;refine aw<|aJ Z<|aB Z<|vm Z<|aa (jg Z Z)<|vm Z<|ec Z Z<|ec Z Z<|bh Z (λ hc=>ble (gt hc Z) (gt hc Z))<|aa (ei Z Z Z Z)<|aY Z<|b_ Z Z<| ?_;exact ⟨Z,(Ext.cH w)⟩
theorem aGR (o:aQ) (w:World):
  Calls prog 131 #[.agg #[Φ o.by_,Φ o.kind,Φ o.bd,Φ o.spot.x,Φ o.spot.y,Φ o.what]] w (λ e w'=>e= .returned (.agg (aQ.bare o).cells.toArray)∧Ext w w'):=by
 refine ch (n:=27) func131 Z Z Z ?_;refine dZ Z Z λ cG bB aR d' ae=> ?_;have hE:=ae.lt;refine cU SK Z λ eC cJ bt hP ar=> ?_;have bO:=γ aR bt;refine aC<|av<|aw<|aa (aj qT Z)<| ?_;have ae:=ae.later bt;refine bk Z ae aT Z<|aa (beq Z Z)<|aC<| ?_;refine iE Z (λ jB=> ?_) (λ jB=> ?_)
 ·refine rg<|aa (aj E0 Z)<|dU Z Z ae Z dg Z Z λ wD wk ae=> ?_;have jq:=Ext.mod bO wk bo;refine aC<|av<|aw<|aa (aj qT Z)<|bk Z ae aT Z<|cS Z Z<|vm Z<|bh Z (λ hc=>aj qT Z)<|bh Z (λ hc=>ax (gt hc Z) (ae.one aT Z))<|bh Z (λ hc=>bne (gt hc Z) Z)<|aa (ei Z Z Z Z)<|aC<| ?_;refine du Z (λ CX=> ?_) (λ CX=> ?_)
  ·simp only [bn] at CX;refine rg<|aa (v:= .agg #[Φ 0,Φ 0]) (eu Z)<|aa (aj E1 Z)<|st (new:= [Φ o.by_,Φ o.kind,Φ 0,Φ 0,Φ 0,Φ o.what]) Z Z ae Z b3 Z Z Z λ zT tM ae=> ?_;have k3:=Ext.mod jq tM bo;refine aC<|av<|aw<|aa (aj qT Z)<|bk Z ae aT Z<|cS Z Z<|vm Z<|bh Z (λ hc=>aj qT Z)<|bh Z (λ hc=>ax (gt hc Z) (ae.one aT Z))<|bh Z (λ hc=>bne (gt hc Z) Z)<|aa (ei Z Z Z Z)<|aC<| ?_;refine du Z (λ uP=> ?_) (λ uP=> ?_)
   ·simp only [bn] at uP;refine rg<|aa (aj E2 Z)<|dU Z Z ae Z dg Z Z λ DK kG ae=> ?_;have rM:=Ext.mod k3 kG bo;refine aC<|aw<|aa (ax Z (ae.all ky gm))<| ?_;have ar:=((ar.mod wk aO).mod tM aO).mod kG aO;refine cF Z Z ar Z gm Z Z λ BG Bk ar=> ?_;have o7:=Ext.mod rM Bk bo;refine sk<|cz (.cell Z (ar.all ky gm) .nil)<| ?_;exact ⟨by rw [show aQ.bare o=(⟨o.by_,o.kind,0,⟨0,0⟩,0⟩:aQ) from by unfold aQ.bare;congr 1<;>(first | rfl | (split<;>first | rfl | omega))];rfl,o7⟩
   ·simp only [bn] at uP;refine bm<|aw<|aa (ax Z (ae.all ky gm))<| ?_;have ar:=(ar.mod wk aO).mod tM aO;refine cF Z Z ar Z gm Z Z λ Jb px ar=> ?_;have sJ:=Ext.mod k3 px bo;refine sk<|cz (.cell Z (ar.all ky gm) .nil)<| ?_;exact ⟨by rw [show aQ.bare o=(⟨o.by_,o.kind,0,⟨0,0⟩,o.what⟩:aQ) from by unfold aQ.bare;congr 1<;>(first | rfl | (split<;>first | rfl | omega))];rfl,sJ⟩
  ·simp only [bn] at CX;refine bm<|av<|aw<|aa (aj qT Z)<|bk Z ae aT Z<|cS Z Z<|vm Z<|bh Z (λ hc=>aj qT Z)<|bh Z (λ hc=>ax (gt hc Z) (ae.one aT Z))<|bh Z (λ hc=>bne (gt hc Z) Z)<|aa (ei Z Z Z Z)<|aC<| ?_;refine du Z (λ tl=> ?_) (λ tl=> ?_)
   ·simp only [bn] at tl;refine rg<|aa (aj E2 Z)<|dU Z Z ae Z dg Z Z λ wG oh ae=> ?_;have mH:=Ext.mod jq oh bo;refine aC<|aw<|aa (ax Z (ae.all ky gm))<| ?_;have ar:=(ar.mod wk aO).mod oh aO;refine cF Z Z ar Z gm Z Z λ wH qh ar=> ?_;have j6:=Ext.mod mH qh bo;refine sk<|cz (.cell Z (ar.all ky gm) .nil)<| ?_;exact ⟨by rw [show aQ.bare o=(⟨o.by_,o.kind,0,⟨o.spot.x,o.spot.y⟩,0⟩:aQ) from by unfold aQ.bare;congr 1<;>(first | rfl | (split<;>first | rfl | omega))];rfl,j6⟩
   ·simp only [bn] at tl;refine bm<|aw<|aa (ax Z (ae.all ky gm))<| ?_;have ar:=ar.mod wk aO;refine cF Z Z ar Z gm Z Z λ BH oU ar=> ?_;have nA:=Ext.mod jq oU bo;refine sk<|cz (.cell Z (ar.all ky gm) .nil)<| ?_;exact ⟨by rw [show aQ.bare o=(⟨o.by_,o.kind,0,⟨o.spot.x,o.spot.y⟩,o.what⟩:aQ) from by unfold aQ.bare;congr 1<;>(first | rfl | (split<;>first | rfl | omega))];rfl,nA⟩
 ·refine bm<|av<|aw<|aa (aj qT Z)<|bk Z ae aT Z<|cS Z Z<|vm Z<|bh Z (λ hc=>aj qT Z)<|bh Z (λ hc=>ax (gt hc Z) (ae.one aT Z))<|bh Z (λ hc=>bne (gt hc Z) Z)<|aa (ei Z Z Z Z)<|aC<| ?_;refine du Z (λ tq=> ?_) (λ tq=> ?_)
  ·simp only [bn] at tq;refine rg<|aa (v:= .agg #[Φ 0,Φ 0]) (eu Z)<|aa (aj E1 Z)<|st (new:= [Φ o.by_,Φ o.kind,Φ o.bd,Φ 0,Φ 0,Φ o.what]) Z Z ae Z b3 Z Z Z λ Jd iw ae=> ?_;have qB:=Ext.mod bO iw bo;refine aC<|av<|aw<|aa (aj qT Z)<|bk Z ae aT Z<|cS Z Z<|vm Z<|bh Z (λ hc=>aj qT Z)<|bh Z (λ hc=>ax (gt hc Z) (ae.one aT Z))<|bh Z (λ hc=>bne (gt hc Z) Z)<|aa (ei Z Z Z Z)<|aC<| ?_;refine du Z (λ aap=> ?_) (λ aap=> ?_)
   ·simp only [bn] at aap;refine rg<|aa (aj E2 Z)<|dU Z Z ae Z dg Z Z λ ue oi ae=> ?_;have j7:=Ext.mod qB oi bo;refine aC<|aw<|aa (ax Z (ae.all ky gm))<| ?_;have ar:=(ar.mod iw aO).mod oi aO;refine cF Z Z ar Z gm Z Z λ L7 IJ ar=> ?_;have sK:=Ext.mod j7 IJ bo;refine sk<|cz (.cell Z (ar.all ky gm) .nil)<| ?_;exact ⟨by rw [show aQ.bare o=(⟨o.by_,o.kind,o.bd,⟨0,0⟩,0⟩:aQ) from by unfold aQ.bare;congr 1<;>(first | rfl | (split<;>first | rfl | omega))];rfl,sK⟩
   ·simp only [bn] at aap;refine bm<|aw<|aa (ax Z (ae.all ky gm))<| ?_;have ar:=ar.mod iw aO;refine cF Z Z ar Z gm Z Z λ Jf ang ar=> ?_;have qC:=Ext.mod qB ang bo;refine sk<|cz (.cell Z (ar.all ky gm) .nil)<| ?_;exact ⟨by rw [show aQ.bare o=(⟨o.by_,o.kind,o.bd,⟨0,0⟩,o.what⟩:aQ) from by unfold aQ.bare;congr 1<;>(first | rfl | (split<;>first | rfl | omega))];rfl,qC⟩
  ·simp only [bn] at tq;refine bm<|av<|aw<|aa (aj qT Z)<|bk Z ae aT Z<|cS Z Z<|vm Z<|bh Z (λ hc=>aj qT Z)<|bh Z (λ hc=>ax (gt hc Z) (ae.one aT Z))<|bh Z (λ hc=>bne (gt hc Z) Z)<|aa (ei Z Z Z Z)<|aC<| ?_;refine du Z (λ Ot=> ?_) (λ Ot=> ?_)
   ·simp only [bn] at Ot;refine rg<|aa (aj E2 Z)<|dU Z Z ae Z dg Z Z λ Qq jJ ae=> ?_;have Aa:=Ext.mod bO jJ bo;refine aC<|aw<|aa (ax Z (ae.all ky gm))<| ?_;have ar:=ar.mod jJ aO;refine cF Z Z ar Z gm Z Z λ Mb uZ ar=> ?_;have vy:=Ext.mod Aa uZ bo;refine sk<|cz (.cell Z (ar.all ky gm) .nil)<| ?_;exact ⟨by rw [show aQ.bare o=(⟨o.by_,o.kind,o.bd,⟨o.spot.x,o.spot.y⟩,0⟩:aQ) from by unfold aQ.bare;congr 1<;>(first | rfl | (split<;>first | rfl | omega))];rfl,vy⟩
   ·simp only [bn] at Ot;refine bm<|aw<|aa (ax Z (ae.all ky gm))<|cF Z Z ar Z gm Z Z λ ap9 ab8 ar=> ?_;have QP:=Ext.mod bO ab8 bo;refine sk<|cz (.cell Z (ar.all ky gm) .nil)<| ?_;exact ⟨by rw [show aQ.bare o=(⟨o.by_,o.kind,o.bd,⟨o.spot.x,o.spot.y⟩,o.what⟩:aQ) from by unfold aQ.bare;congr 1<;>(first | rfl | (split<;>first | rfl | omega))];rfl,QP⟩
theorem acw (o:aQ) (w:World):
  Calls prog 94 #[.agg #[Φ o.by_,Φ o.kind,Φ o.bd,Φ o.spot.x,Φ o.spot.y,Φ o.what]] w (λ e w'=>e= .returned (Φ o.a7)∧Ext w w'):=by
 refine ch (n:=43) func94 Z Z Z ?_;refine dZ Z Z λ cG bB aR d' ae=> ?_;refine aJ Z<|av<|aw<|aa (aj vR Z)<|bk Z ae aT Z<|cM Kf Z (Lx o.by_ 0 7 _) λ eC dm=> ?_;have bO:=γ aR dm;refine aa (dJ Z)<|vm Z<|bh Z (λ hc=>aj qT Z)<| ?_;have ae:=ae.later dm;refine bh Z (λ hc=>ax (gt hc Z) (ae.one aT Z))<|sB Z Kf (λ hc=>gp (gt hc Z) (gp Z (gp Z Z))) (λ hc=>Lx o.kind 1 5 _) λ wC pL=> ?_;have k2:=γ bO pL;refine bh Z (λ hc=>dJ (gt hc Z))<|aa (eW Z Z Z Z)<|vm Z<|bh Z (λ hc=>aj E0 Z)<| ?_;have ae:=ae.later pL;refine bh Z (λ hc=>ax (gt hc Z) (ae.one aT Z))<|sB Z Kf (λ hc=>gp (gt hc Z) (gp Z (gp Z Z))) (λ hc=>Lx o.bd 0 1000000 _) λ L0 wK=> ?_;have yk:=γ k2 wK;refine bh Z (λ hc=>dJ (gt hc Z))<|aa (eW Z Z Z Z)<|vm Z<|bh Z (λ hc=>aj E1 Z)<|bh Z (λ hc=>aj jW (gt hc Z))<| ?_;have ae:=ae.later wK;refine bh Z (λ hc=>ax (gt hc Z) (ae.one aT Z))<|sB Z Kf (λ hc=>gp (gt hc Z) (gp Z (gp Z Z))) (λ hc=>Lx o.spot.x (-1000) 1000 _) λ Gq qx=> ?_;have m4:=γ yk qx;refine bh Z (λ hc=>dJ (gt hc Z))<|aa (eW Z Z Z Z)<|vm Z<|bh Z (λ hc=>aj E1 Z)<|bh Z (λ hc=>aj jX (gt hc Z))<| ?_;have ae:=ae.later qx;refine bh Z (λ hc=>ax (gt hc Z) (ae.one aT Z))<|sB Z Kf (λ hc=>gp (gt hc Z) (gp Z (gp Z Z))) (λ hc=>Lx o.spot.y (-1000) 1000 _) λ wE fK=> ?_;have lz:=γ m4 fK;refine bh Z (λ hc=>dJ (gt hc Z))<|aa (eW Z Z Z Z)<|vm Z<|bh Z (λ hc=>aj E2 Z)<| ?_;have ae:=ae.later fK;refine bh Z (λ hc=>ax (gt hc Z) (ae.one aT Z))<|sB Z Kf (λ hc=>gp (gt hc Z) (gp Z (gp Z Z))) (λ hc=>Lx o.what 0 1000000 _) λ vh ey=> ?_;have ks:=γ lz ey;refine bh Z (λ hc=>dJ (gt hc Z))<|aa (eW Z Z Z Z)<|aC<| ?_;refine du Z (λ tk=> ?_) (λ tk=> ?_)
 ·refine aw<|aY Z<|bD<|b_ Z Z<| ?_;exact ⟨by rw [aQ.Ny tk];rfl,ks⟩
 ·refine bm<|av<|av<| ?_;refine cO [(0,0),(1,0),(2,0)] [0,1,2,3] ?_;have ae:=ae.later ey;refine dT Z (λ _ x=>ax Z ((ae.later x).all ky gm))<|qW Z Z ax2 Z (λ _ x=>aGR o _) Z<|dT Z (λ _ x=>ax Z ((ae.later x).all ky gm))<|aq Z (λ _=>Sb att ats (p:=aQ.bare o) (q:=o) Z Z)<|fn λ Qm mE=> ?_;have yl:=γ ks mE;refine aX<| ?_;refine du Z (λ Om=> ?_) (λ Om=> ?_)
  ·refine aw<|aY Z<|bD<|b_ Z Z<| ?_;exact ⟨by rw [aQ.yT tk Om];rfl,yl⟩
  ·refine bm<|aw<|aY Z<|b_ Z Z<| ?_;exact ⟨by rw [aQ.awk tk Om];rfl,yl⟩
theorem acv (A:Option Addr) (c:Nat) (l:List aQ) (w:World) (ah:aQ.rep.aK 48 w A c l):
  Calls prog 56 #[.slice A l.length c] w (λ e w'=>e= .returned (Φ (ix l))∧Ext w w'):=by
 have tD:=ah.fa;refine ch (n:=21) func56 Z Z Z ?_;refine aw<|aJ Z<|av<|aB Z<|aa (b5 underlying48 Z)<|aa (gO Z Z)<|aC<| ?_;refine en Z (λ hy=> ?_) (λ hy=> ?_)
 ·refine aw<|aY Z<|bD<|b_ Z Z<| ?_;exact ⟨by rw [aHd (by omega)];rfl,(Ext.cH w)⟩
 ·refine bm<|av<|aB Z<|aa (b5 underlying48 Z)<|vm Z<|aC<|bJ<| ?_;refine eV (λ cp cn aP=>∃ k:Nat,cn= [(9, .slice A l.length c),(10,Φ (l.length:Int)),(11,Φ (k:Int))]∧cp=l.length - k∧Ext w aP∧(k≤l.length)∧(∀ i,i<k→(l.getD i default).a7=0)) _ _ ⟨0,Z,Z,(Ext.cH w),by omega,λ i hi=>by omega⟩ (eO Z Z Z) ?_;rintro Lk JJ l9 ⟨k,rfl,rfl,fb,ak,aN⟩;have:=fb.size;refine aw<|dR Z Z<|aC<|av<| ?_;refine en Z (λ ng=> ?_) (λ ng=> ?_)
  ·refine bm<|av<|bJ<|aw<|aa (cl k underlying48 gm Z Z ((ah.keep fb).bT (aV k)) Z (by omega))<|aa (ax Z (J.aK.iu OB ((ah.keep fb).cD (aV k)) (dt (l:=l) (u:=default) (by omega)) ky gm))<|cU SK Z λ BI R3 dm aEX qE=> ?_;have mg:=γ fb dm;refine cF Z Z qE Z gm Z Z λ L0 Bj qE=> ?_;have yk:=Ext.mod mg Bj bo;refine aC<|aw<|aa (ax Z (qE.all ky gm))<|cM YQ Z (acw (l.getD k default) _) λ t_ jo=> ?_;have iP:=γ yk jo;refine aJ Z<|aB Z<|cS Z Z<|aC<| ?_;refine eU Z (λ xy=> ?_) (λ xy=> ?_)
   ·refine aB Z<|aY Z<|eb<|bD<|m0<|eb<|bD<|b_ Z Z<| ?_;exact ⟨by rw [aHc (by omega) (show k<l.length by omega) aN (by simpa using xy)];rfl,iP⟩
   ·refine fu<|b1<|eM Z Z Z<| ?_;exact eJ ⟨k+1,Z,Z,iP,by omega,sr aN (by simpa using xy)⟩
  ·refine dn<|dk<|dG<|dj<|aX<|aw<|aY Z<|b_ Z Z<| ?_;exact ⟨by rw [aHe (by omega) (λ i hi=>aN i (by omega))];rfl,fb⟩
end
theorem atM:ez prog fc.rep 101 201 16:=ez.ki (z:=fc.zero) (k:=2) underlying101 fc.info rfl rfl (by decide) fc.j8
theorem atN:ez prog eQ.rep 102 203 24:=ez.ki (z:=eQ.zero) (k:=3) underlying102 eQ.info rfl rfl (by decide) eQ.j8
theorem XN:ez prog dV.rep 103 153 40:=ez.ki (z:=dV.zero) (k:=5) underlying103 dV.info rfl rfl (by decide) dV.j8
def oY (o:aQ):List fc:=if o.kind=1 then [⟨o.bd,o.what⟩] else []
def o0 (o:aQ):List eQ:=if o.kind=2 then [⟨o.bd,⟨o.spot.x,o.spot.y⟩⟩] else []
def oZ (o:aQ):List dV:=if o.kind=3 then [⟨1,o.bd,⟨o.spot.x,o.spot.y⟩,0⟩] else if o.kind=4 then [⟨2,o.bd,⟨0,0⟩,0⟩] else if o.kind=5 then [⟨3,o.by_,⟨0,0⟩,o.what⟩] else []
theorem af6 (o:aQ) (w0:World) (vK:Nat) (A B C:Option Addr) (a b c:Nat) (IW:List fc) (PY:List eQ) (PX:List dV) (w:World) (fg:Ext w0 w) (di:o.ok) (hS:aM w vK [.slice A IW.length a, .slice B PY.length b, .slice C PX.length c] 143 (0,0)) (hA:fc.rep.aF 201 16 w w0.heap.size (J.ab A) A a IW) (bg:eQ.rep.aF 203 24 w w0.heap.size (J.ab B) B b PY) (gq:dV.rep.aF 153 40 w w0.heap.size (J.ab C) C c PX) (xi:∀ q∈J.ab A,q=vK→False) (xj:∀ q∈J.ab B,q=vK→False) (uH:∀ q∈J.ab C,q=vK→False) (EX:∀ q∈J.ab B,q∈J.ab A→False) (AJ:∀ q∈J.ab C,q∈J.ab A→False) (AK:∀ q∈J.ab C,q∈J.ab B→False) (zB:IW.length≤100) (ru:PY.length≤100) (oj:PX.length≤100):
  Calls prog 57 #[.pointer (bA vK), .agg #[Φ o.by_,Φ o.kind,Φ o.bd,Φ o.spot.x,Φ o.spot.y,Φ o.what]] w (λ e w'=>∃ bQ a' sO qM GZ cc,e= .returned (.tuple #[])∧aM w' vK [.slice bQ (IW++oY o).length a', .slice sO (PY++o0 o).length qM, .slice GZ (PX++oZ o).length cc] 143 (0,0)∧fc.rep.aF 201 16 w' w0.heap.size (J.ab bQ) bQ a' (IW++oY o)∧eQ.rep.aF 203 24 w' w0.heap.size (J.ab sO) sO qM (PY++o0 o)∧dV.rep.aF 153 40 w' w0.heap.size (J.ab GZ) GZ cc (PX++oZ o)∧(∀ q∈J.ab bQ,q=vK→False)∧(∀ q∈J.ab sO,q=vK→False)∧(∀ q∈J.ab GZ,q=vK→False)∧(∀ q∈J.ab sO,q∈J.ab bQ→False)∧(∀ q∈J.ab GZ,q∈J.ab bQ→False)∧(∀ q∈J.ab GZ,q∈J.ab sO→False)∧(∀ q∈J.ab bQ,q∈J.ab A∨w.heap.size≤q)∧(∀ q∈J.ab sO,q∈J.ab B∨w.heap.size≤q)∧(∀ q∈J.ab GZ,q∈J.ab C∨w.heap.size≤q)∧Mod (vK::(J.ab A++(J.ab B++J.ab C))) w w'):=by
 have abt:=fg.size;have l7:=hS.lt;have VE:=bM hA.lt;have VF:=bM bg.lt;have apz:=bM gq.lt;refine ch (n:=84) func57 Z Z Z ?_;refine dZ Z Z λ cG bB aR d' ae=> ?_;have de:=(Mod.cH (vK::(J.ab A++(J.ab B++J.ab C))) w).trans (Mod.a8 aR);have hE:=ae.lt;refine aC<|aw<|aa (aj qT Z)<|bk Z ae aT Z<|aC<|bJ<|aw<|aa (beq Z Z)<|aJ Z<| ?_;refine iE Z (λ gg=> ?_) (λ gg=> ?_)
 ·refine cO [(4,0),(6,0),(8,0),(10,2),(11,3),(14,3)] [0,1,2,3,4,5,6,7,8,9,10,11,12,13,14] ?_;refine a1 Z Z<|a1 Z Z<|aq Z (λ _=>bx Z)<|aq Z (λ _=>aj YR Z)<| ?_;have hS:=hS.later aR;refine cf Z Z hS ahZ Z<|aq Z (λ _=>aj E0 Z)<|cf Z Z ae aT Z<|aq Z (λ _=>aj E2 Z)<|cf Z Z ae aT Z<|r9 (v:= .agg #[Φ o.bd,Φ o.what]) Z Z (λ _=>lH Z (by kernel_rfl)) Z<|ff Z Z Z λ uf bt Q hK=>c7 (e:= 201) (cs:= [Φ o.bd,Φ o.what]) Z (λ _=>by kernel_rfl) Z λ wC uE fi K_ iB=>hK _ _ ⟨γ bt fi, ?_⟩;have:=bt.size;have jN:=de.trans (Mod.a8 bt);have k2:=jN.trans (Mod.a8 fi);have aoh:=iB.lt;have hA:=hA.later (γ aR (γ bt fi));refine dE Z Z Z λ Gr qy Q hK=>ap atM J.dQ (hA.later qy) ((aM.gu (R:=fc.rep) (by_:=16) (q:=(⟨o.bd,o.what⟩:fc)) iB ⟨Z,(by obtain ⟨IM,qm,nn,oX,pA,ry⟩:=di;exact ⟨nn,ry⟩)⟩ (by decide)).keep qy) Z Z (by simp only [aYc,aYh];omega) (by simp only [aYc,aYh];omega) (by have:=qy.size;omega) Z λ zT JD agF oQ Hf Kv aGB=>hK _ _ ?_;have:=qy.size;have mF:=k2.trans (Mod.a8 qy);have k3:=mF.md oQ (λ q I=> .inl (aYm _ (aYo.2 (.inl I))));refine aq Z (λ _=>bx Z)<|aq Z (λ _=>aj YR Z)<| ?_;have hS:=(hS.later (γ bt (γ fi qy))).mod oQ (λ I=>xi _ I rfl);refine dE Z Z Z λ zV il Q hK=>dU Z Z (hS.later il) Z ax3 Z Z λ Jb px hS=>hK _ _ ?_;have mG:=k3.trans (Mod.a8 il);have sJ:=mG.md px lr;refine fn λ wG fE=> ?_;have mH:=sJ.trans (Mod.a8 fE);refine b1<|ne<|cz .nil<| ?_;have hS:=hS.later fE;have dA:=nw (kW il px) fE;have Hf:=Hf.mod dA (bl λ q I ag=>aYC (Kv q I) (λ amf=>by (exact xi q amf ag)) (λ amf=>by omega));have bg:=((bg.later (γ aR (γ bt (γ fi qy)))).mod oQ EX).mod dA (bl xj);have gq:=((gq.later (γ aR (γ bt (γ fi qy)))).mod oQ AJ).mod dA (bl uH);have aW:oY o= [(⟨o.bd,o.what⟩:fc)]:=by unfold oY;simp [*]
  have bb:o0 o= []:=by unfold o0;simp [*]
  have df:oZ o= []:=by unfold oZ;simp [*]
  rw [aW,bb,df];simp only [aYP];exact ⟨JD,agF,B,b,C,c,Z,hS,Hf,bg,gq,(fJ Kv xi),xj,uH,(cQ (hh Kv (cQ EX) VF)),(cQ (hh Kv (cQ AJ) apz)),AK,(λ q I=>(Kv q I).imp id λ h=>by omega),(λ q I=> .inl I),(λ q I=> .inl I),mH⟩
 ·refine aw<|aa (beq Z Z)<|aJ Z<| ?_;refine iE Z (λ Oo=> ?_) (λ Oo=> ?_)
  ·refine cO [(4,0),(6,0),(8,0),(10,2),(11,3),(14,3)] [0,1,2,3,4,5,6,7,8,9,10,11,12,13,14] ?_;refine a1 Z Z<|a1 Z Z<|aq Z (λ _=>bx Z)<|aq Z (λ _=>aj YS Z)<| ?_;have hS:=hS.later aR;refine cf Z Z hS ah1 Z<|aq Z (λ _=>aj E0 Z)<|cf Z Z ae aT Z<|aq Z (λ _=>aj E1 Z)<|dT Z (λ _ x=>ax Z ((ae.later x).par [Φ o.spot.x,Φ o.spot.y] cA b3 Z))<|r9 (v:= .agg #[Φ o.bd,Φ o.spot.x,Φ o.spot.y]) Z Z (λ _=>lH Z (by kernel_rfl)) Z<|ff Z Z Z λ BH hq Q hK=>c7 (e:= 203) (cs:= [Φ o.bd,Φ o.spot.x,Φ o.spot.y]) Z (λ _=>by kernel_rfl) Z λ Qo Cq fv amJ wS=>hK _ _ ⟨γ hq fv, ?_⟩;have:=hq.size;have nA:=de.trans (Mod.a8 hq);have ym:=nA.trans (Mod.a8 fv);have PW:=wS.lt;have bg:=bg.later (γ aR (γ hq fv));refine dE Z Z Z λ ue fq Q hK=>ap atN J.dQ (bg.later fq) ((aM.gu (R:=eQ.rep) (by_:=24) (q:=(⟨o.bd,⟨o.spot.x,o.spot.y⟩⟩:eQ)) wS ⟨Z,(by obtain ⟨IM,qm,nn,oX,pA,ry⟩:=di;exact ⟨nn,oX,pA⟩)⟩ (by decide)).keep fq) Z Z (by simp only [aYc,aYh];omega) (by simp only [aYc,aYh];omega) (by have:=fq.size;omega) Z λ V2 arn Yo IJ XJ N8 aVb=>hK _ _ ?_;have:=fq.size;have j7:=ym.trans (Mod.a8 fq);have D6:=j7.md IJ (λ q I=> .inl (aYm _ (aYo.2 (.inr (aYo.2 (.inl I))))));refine aq Z (λ _=>bx Z)<|aq Z (λ _=>aj YS Z)<| ?_;have hS:=(hS.later (γ hq (γ fv fq))).mod IJ (λ I=>xj _ I rfl);refine dE Z Z Z λ Qq sG Q hK=>dU Z Z (hS.later sG) Z ax4 Z Z λ Jg zy hS=>hK _ _ ?_;have Aa:=D6.trans (Mod.a8 sG);have wQ:=Aa.md zy lr;refine fn λ Mc dK=> ?_;have qD:=wQ.trans (Mod.a8 dK);refine b1<|ne<|cz .nil<| ?_;have hS:=hS.later dK;have gG:=nw (kW sG zy) dK;have hA:=((hA.later (γ aR (γ hq (γ fv fq)))).mod IJ (cQ EX)).mod gG (bl xi);have XJ:=XJ.mod gG (bl λ q I ag=>aYC (N8 q I) (λ Ps=>by (exact xj q Ps ag)) (λ Ps=>by omega));have gq:=((gq.later (γ aR (γ hq (γ fv fq)))).mod IJ AK).mod gG (bl uH);have aW:oY o= []:=by unfold oY;simp [*]
   have bb:o0 o= [(⟨o.bd,⟨o.spot.x,o.spot.y⟩⟩:eQ)]:=by unfold o0;simp [*]
   have df:oZ o= []:=by unfold oZ;simp [*]
   rw [aW,bb,df];simp only [aYP];exact ⟨A,a,arn,Yo,C,c,Z,hS,hA,XJ,gq,xi,(fJ N8 xj),uH,(hh N8 EX VE),AJ,(cQ (hh N8 (cQ AK) apz)),(λ q I=> .inl I),(λ q I=>(N8 q I).imp id λ h=>by omega),(λ q I=> .inl I),qD⟩
  ·refine aw<|aa (beq Z Z)<|aJ Z<| ?_;refine iE Z (λ vW=> ?_) (λ vW=> ?_)
   ·refine cO [(4,0),(6,0),(8,0),(10,2),(11,3),(14,3)] [0,1,2,3,4,5,6,7,8,9,10,11,12,13,14] ?_;refine a1 Z Z<|a1 Z Z<|aq Z (λ _=>bx Z)<|aq Z (λ _=>aj HH Z)<| ?_;have hS:=hS.later aR;refine cf Z Z hS SL Z<|aq Z (λ _=>aj E0 Z)<|cf Z Z ae aT Z<|aq Z (λ _=>aj E1 Z)<|dT Z (λ _ x=>ax Z ((ae.later x).par [Φ o.spot.x,Φ o.spot.y] cA b3 Z))<|r9 (v:= .agg #[Φ 1,Φ o.bd,Φ o.spot.x,Φ o.spot.y,Φ 0]) Z Z (λ _=>lH Z (by kernel_rfl)) Z<|ff Z Z Z λ Qs iz Q hK=>c7 (e:= 153) (cs:= [Φ 1,Φ o.bd,Φ o.spot.x,Φ o.spot.y,Φ 0]) Z (λ _=>by kernel_rfl) Z λ Gv aPW pQ aUb QZ=>hK _ _ ⟨γ iz pQ, ?_⟩;have:=iz.size;have yq:=de.trans (Mod.a8 iz);have lA:=yq.trans (Mod.a8 pQ);have aIy:=QZ.lt;have gq:=gq.later (γ aR (γ iz pQ));refine dE Z Z Z λ V_ wN Q hK=>ap XN J.dQ (gq.later wN) ((aM.gu (R:=dV.rep) (by_:=40) (q:=(⟨1,o.bd,⟨o.spot.x,o.spot.y⟩,0⟩:dV)) QZ ⟨Z,(by obtain ⟨IM,qm,nn,oX,pA,ry⟩:=di;exact ⟨cN,nn,oX,pA,cN⟩)⟩ (by decide)).keep wN) Z Z (by simp only [aYc,aYh];omega) (by simp only [aYc,aYh];omega) (by have:=wN.size;omega) Z λ aqc arw av3 FP Xv N3 aUF=>hK _ _ ?_;have:=wN.size;have Eb:=lA.trans (Mod.a8 wN);have QQ:=Eb.md FP (λ q I=> .inl (aYm _ (aYo.2 (.inr (aYo.2 (.inr I))))));refine aq Z (λ _=>bx Z)<|aq Z (λ _=>aj HH Z)<| ?_;have hS:=(hS.later (γ iz (γ pQ wN))).mod FP (λ I=>uH _ I rfl);refine dE Z Z Z λ aLo m1 Q hK=>dU Z Z (hS.later m1) Z YT Z Z λ aLp su hS=>hK _ _ ?_;have aej:=QQ.trans (Mod.a8 m1);have aek:=aej.md su lr;refine fn λ ad2 DV=> ?_;have Jw:=aek.trans (Mod.a8 DV);refine b1<|ne<|cz .nil<| ?_;have hS:=hS.later DV;have po:=nw (kW m1 su) DV;have hA:=((hA.later (γ aR (γ iz (γ pQ wN)))).mod FP (cQ AJ)).mod po (bl xi);have bg:=((bg.later (γ aR (γ iz (γ pQ wN)))).mod FP (cQ AK)).mod po (bl xj);have Xv:=Xv.mod po (bl λ q I ag=>aYC (N3 q I) (λ Pe=>by (exact uH q Pe ag)) (λ Pe=>by omega));have aW:oY o= []:=by unfold oY;simp [*]
    have bb:o0 o= []:=by unfold o0;simp [*]
    have df:oZ o= [(⟨1,o.bd,⟨o.spot.x,o.spot.y⟩,0⟩:dV)]:=by unfold oZ;simp [*]
    rw [aW,bb,df];simp only [aYP];exact ⟨A,a,B,b,arw,av3,Z,hS,hA,bg,Xv,xi,xj,(fJ N3 uH),EX,(hh N3 AJ VE),(hh N3 AK VF),(λ q I=> .inl I),(λ q I=> .inl I),(λ q I=>(N3 q I).imp id λ h=>by omega),Jw⟩
   ·refine aw<|aa (beq Z Z)<|aJ Z<| ?_;refine iE Z (λ aA3=> ?_) (λ aA3=> ?_)
    ·refine cO [(4,0),(6,0),(8,2),(9,3),(12,3)] [0,1,2,3,4,5,6,7,8,9,10,11,12] ?_;refine a1 Z Z<|a1 Z Z<|aq Z (λ _=>bx Z)<|aq Z (λ _=>aj HH Z)<| ?_;have hS:=hS.later aR;refine cf Z Z hS SL Z<|aq Z (λ _=>aj E0 Z)<|cf Z Z ae aT Z<|r9 (v:= .agg #[Φ 2,Φ o.bd,Φ 0,Φ 0,Φ 0]) Z Z (λ _=>lH Z (by kernel_rfl)) Z<|ff Z Z Z λ aLs Jn Q hK=>c7 (e:= 153) (cs:= [Φ 2,Φ o.bd,Φ 0,Φ 0,Φ 0]) Z (λ _=>by kernel_rfl) Z λ aXf aPj zX aTr aeW=>hK _ _ ⟨γ Jn zX, ?_⟩;have:=Jn.size;have aem:=de.trans (Mod.a8 Jn);have aMz:=aem.trans (Mod.a8 zX);have aVM:=aeW.lt;have gq:=gq.later (γ aR (γ Jn zX));refine dE Z Z Z λ apZ GB Q hK=>ap XN J.dQ (gq.later GB) ((aM.gu (R:=dV.rep) (by_:=40) (q:=(⟨2,o.bd,⟨0,0⟩,0⟩:dV)) aeW ⟨Z,(by obtain ⟨IM,qm,nn,oX,pA,ry⟩:=di;exact ⟨cN,nn,cN,cN,cN⟩)⟩ (by decide)).keep GB) Z Z (by simp only [aYc,aYh];omega) (by simp only [aYc,aYh];omega) (by have:=GB.size;omega) Z λ ap0 aq0 avC UG Xy N5 aUM=>hK _ _ ?_;have:=GB.size;have QJ:=aMz.trans (Mod.a8 GB);have D4:=QJ.md UG (λ q I=> .inl (aYm _ (aYo.2 (.inr (aYo.2 (.inr I))))));refine aq Z (λ _=>bx Z)<|aq Z (λ _=>aj HH Z)<| ?_;have hS:=(hS.later (γ Jn (γ zX GB))).mod UG (λ I=>uH _ I rfl);refine dE Z Z Z λ aLz aea Q hK=>dU Z Z (hS.later aea) Z YT Z Z λ ap4 uX hS=>hK _ _ ?_;have aer:=D4.trans (Mod.a8 aea);have Mm:=aer.md uX lr;refine fn λ aXo yg=> ?_;have aMH:=Mm.trans (Mod.a8 yg);refine b1<|ne<|cz .nil<| ?_;have hS:=hS.later yg;have zq:=nw (kW aea uX) yg;have hA:=((hA.later (γ aR (γ Jn (γ zX GB)))).mod UG (cQ AJ)).mod zq (bl xi);have bg:=((bg.later (γ aR (γ Jn (γ zX GB)))).mod UG (cQ AK)).mod zq (bl xj);have Xy:=Xy.mod zq (bl λ q I ag=>aYC (N5 q I) (λ FJ=>by (exact uH q FJ ag)) (λ FJ=>by omega));have aW:oY o= []:=by unfold oY;simp [*]
     have bb:o0 o= []:=by unfold o0;simp [*]
     have df:oZ o= [(⟨2,o.bd,⟨0,0⟩,0⟩:dV)]:=by unfold oZ;simp [*]
     rw [aW,bb,df];simp only [aYP];exact ⟨A,a,B,b,aq0,avC,Z,hS,hA,bg,Xy,xi,xj,(fJ N5 uH),EX,(hh N5 AJ VE),(hh N5 AK VF),(λ q I=> .inl I),(λ q I=> .inl I),(λ q I=>(N5 q I).imp id λ h=>by omega),aMH⟩
    ·refine aw<|aa (beq Z Z)<|aJ Z<| ?_;refine iE Z (λ aBa=> ?_) (λ aBa=> ?_)
     ·refine cO [(4,0),(6,0),(8,0),(10,2),(11,3),(14,3)] [0,1,2,3,4,5,6,7,8,9,10,11,12,13,14] ?_;refine a1 Z Z<|a1 Z Z<|aq Z (λ _=>bx Z)<|aq Z (λ _=>aj HH Z)<| ?_;have hS:=hS.later aR;refine cf Z Z hS SL Z<|aq Z (λ _=>aj vR Z)<|cf Z Z ae aT Z<|aq Z (λ _=>aj E2 Z)<|cf Z Z ae aT Z<|r9 (v:= .agg #[Φ 3,Φ o.by_,Φ 0,Φ 0,Φ o.what]) Z Z (λ _=>lH Z (by kernel_rfl)) Z<|ff Z Z Z λ VX Jr Q hK=>c7 (e:= 153) (cs:= [Φ 3,Φ o.by_,Φ 0,Φ 0,Φ o.what]) Z (λ _=>by kernel_rfl) Z λ aLB aPt yh aTC ae3=>hK _ _ ⟨γ Jr yh, ?_⟩;have:=Jr.size;have aes:=de.trans (Mod.a8 Jr);have aet:=aes.trans (Mod.a8 yh);have aVV:=ae3.lt;have gq:=gq.later (γ aR (γ Jr yh));refine dE Z Z Z λ aLD vq Q hK=>ap XN J.dQ (gq.later vq) ((aM.gu (R:=dV.rep) (by_:=40) (q:=(⟨3,o.by_,⟨0,0⟩,o.what⟩:dV)) ae3 ⟨Z,(by obtain ⟨IM,qm,nn,oX,pA,ry⟩:=di;exact ⟨cN,IM,cN,cN,ry⟩)⟩ (by decide)).keep vq) Z Z (by simp only [aYc,aYh];omega) (by simp only [aYc,aYh];omega) (by have:=vq.size;omega) Z λ aXv aq8 avJ UL XA N6 aUV=>hK _ _ ?_;have:=vq.size;have aev:=aet.trans (Mod.a8 vq);have aMO:=aev.md UL (λ q I=> .inl (aYm _ (aYo.2 (.inr (aYo.2 (.inr I))))));refine aq Z (λ _=>bx Z)<|aq Z (λ _=>aj HH Z)<| ?_;have hS:=(hS.later (γ Jr (γ yh vq))).mod UL (λ I=>uH _ I rfl);refine dE Z Z Z λ aLG aec Q hK=>dU Z Z (hS.later aec) Z YT Z Z λ aXz anc hS=>hK _ _ ?_;have aex:=aMO.trans (Mod.a8 aec);have aMR:=aex.md anc lr;refine fn λ aLH wL=> ?_;have aey:=aMR.trans (Mod.a8 wL);refine b1<|ne<|cz .nil<| ?_;have hS:=hS.later wL;have PC:=nw (kW aec anc) wL;have hA:=((hA.later (γ aR (γ Jr (γ yh vq)))).mod UL (cQ AJ)).mod PC (bl xi);have bg:=((bg.later (γ aR (γ Jr (γ yh vq)))).mod UL (cQ AK)).mod PC (bl xj);have XA:=XA.mod PC (bl λ q I ag=>aYC (N6 q I) (λ alN=>by (exact uH q alN ag)) (λ alN=>by omega));have aW:oY o= []:=by unfold oY;simp [*]
      have bb:o0 o= []:=by unfold o0;simp [*]
      have df:oZ o= [(⟨3,o.by_,⟨0,0⟩,o.what⟩:dV)]:=by unfold oZ;simp [*]
      rw [aW,bb,df];simp only [aYP];exact ⟨A,a,B,b,aq8,avJ,Z,hS,hA,bg,XA,xi,xj,(fJ N6 uH),EX,(hh N6 AJ VE),(hh N6 AK VF),(λ q I=> .inl I),(λ q I=> .inl I),(λ q I=>(N6 q I).imp id λ h=>by omega),aey⟩
     ·refine fu<|b1<|ne<|cz .nil<| ?_;have hS:=hS.later aR;have hA:=hA.later aR;have bg:=bg.later aR;have gq:=gq.later aR;have aW:oY o= []:=by unfold oY;simp [*]
      have bb:o0 o= []:=by unfold o0;simp [*]
      have df:oZ o= []:=by unfold oZ;simp [*]
      rw [aW,bb,df];simp only [aYP];exact ⟨A,a,B,b,C,c,Z,hS,hA,bg,gq,xi,xj,uH,EX,AJ,AK,(λ q I=> .inl I),(λ q I=> .inl I),(λ q I=> .inl I),de⟩
theorem Lt {l:List aQ} (h:ix l=0):l.length≤100∧∀ o∈l,o.a7=0:=by
 unfold ix at h;split at h
 ·cases h
 ·refine ⟨by omega,λ o bK=> ?_⟩;split at h
  ·rename_i x hx
   have:=bbw hx;rw [h] at this;exact nomatch this
  ·rename_i hx
   have:=aZH.1 hx o bK;simpa using this
section
variable {k:Nat} {l:List aQ}
def zG (W:ai) (k:Nat):List (Int×Int):=(W.ao.take k).map λ t=>(t.id,t.owner)
theorem aHi {W:ai} (h:k<W.ao.length):zG W (k+1)=zG W k++ [((W.ao.getD k default).id,(W.ao.getD k default).owner)]:=by
 unfold zG;rw [x_ (d:=default) h,aYA];rfl
theorem aHk {W:ai} (bP:Good W) (h:k<W.ao.length):dv (zG W k) (W.ao.getD k default).id=none:=by
 unfold dv zG;rw [List.find?_map,bcR,bcR,aZH];intro x hx;obtain ⟨i,hi,e⟩:=aY9.1 hx;rw [aYa] at hi;rw [List.getElem_take] at e;have:=(aYV.1 bP.LD) i k (by omega) h (by omega);rw [← e,l2 h];have κ:=this.1;simp only [Function.comp_apply,aZf];omega
def may (W:ai) (o:aQ):Bool:=if o.kind=5 then decide (o.by_<(W.bf.length:Int)) && (o.by_ == o.by_) else (dv (zG W W.ao.length) o.bd).isSome && ((dv (zG W W.ao.length) o.bd).getD 0 == o.by_)
def iY (W:ai) (l:List aQ) (k:Nat):List fc:=(l.take k).flatMap λ o=>if may W o=true then oY o else []
theorem adv {W:ai} (h:k<l.length) (hm:may W (l.getD k default)=true):iY W l (k+1)=iY W l k++oY (l.getD k default):=by
 unfold iY;rw [x_ (d:=default) h,aZD,aZV,baC,aYP,aYq hm]
theorem adu {W:ai} (h:k<l.length) (hm:may W (l.getD k default)=false):iY W l (k+1)=iY W l k:=by
 unfold iY;rw [x_ (d:=default) h,aZD,aZV,baC,aYP,aYi (by rw [hm];decide),aYP]
theorem ao0 (W:ai) (l:List aQ):∀ k,(iY W l k).length≤k
 | 0=>by simp [iY]
 | k+1=>by
  have bL:=ao0 W l k;by_cases h:k<l.length
  ·cases hm:may W (l.getD k default) with
   | true=>rw [adv h hm,aX9];have:(oY (l.getD k default)).length≤1:=(by unfold oY;(repeat' split)<;>simp);omega
   | false=>rw [adu h hm];omega
  ·have:iY W l (k+1)=iY W l k:=by unfold iY;rw [aYp (by omega),aYp (by omega)]
   rw [this];omega
def jm (W:ai) (l:List aQ) (k:Nat):List eQ:=(l.take k).flatMap λ o=>if may W o=true then o0 o else []
theorem adz {W:ai} (h:k<l.length) (hm:may W (l.getD k default)=true):jm W l (k+1)=jm W l k++o0 (l.getD k default):=by
 unfold jm;rw [x_ (d:=default) h,aZD,aZV,baC,aYP,aYq hm]
theorem ady {W:ai} (h:k<l.length) (hm:may W (l.getD k default)=false):jm W l (k+1)=jm W l k:=by
 unfold jm;rw [x_ (d:=default) h,aZD,aZV,baC,aYP,aYi (by rw [hm];decide),aYP]
theorem ao2 (W:ai) (l:List aQ):∀ k,(jm W l k).length≤k
 | 0=>by simp [jm]
 | k+1=>by
  have bL:=ao2 W l k;by_cases h:k<l.length
  ·cases hm:may W (l.getD k default) with
   | true=>rw [adz h hm,aX9];have:(o0 (l.getD k default)).length≤1:=(by unfold o0;(repeat' split)<;>simp);omega
   | false=>rw [ady h hm];omega
  ·have:jm W l (k+1)=jm W l k:=by unfold jm;rw [aYp (by omega),aYp (by omega)]
   rw [this];omega
def jK (W:ai) (l:List aQ) (k:Nat):List dV:=(l.take k).flatMap λ o=>if may W o=true then oZ o else []
theorem adx {W:ai} (h:k<l.length) (hm:may W (l.getD k default)=true):jK W l (k+1)=jK W l k++oZ (l.getD k default):=by
 unfold jK;rw [x_ (d:=default) h,aZD,aZV,baC,aYP,aYq hm]
theorem adw {W:ai} (h:k<l.length) (hm:may W (l.getD k default)=false):jK W l (k+1)=jK W l k:=by
 unfold jK;rw [x_ (d:=default) h,aZD,aZV,baC,aYP,aYi (by rw [hm];decide),aYP]
theorem ao1 (W:ai) (l:List aQ):∀ k,(jK W l k).length≤k
 | 0=>by simp [jK]
 | k+1=>by
  have bL:=ao1 W l k;by_cases h:k<l.length
  ·cases hm:may W (l.getD k default) with
   | true=>rw [adx h hm,aX9];have:(oZ (l.getD k default)).length≤1:=(by unfold oZ;(repeat' split)<;>simp);omega
   | false=>rw [adw h hm];omega
  ·have:jK W l (k+1)=jK W l k:=by unfold jK;rw [aYp (by omega),aYp (by omega)]
   rw [this];omega
theorem ao3 (W:ai) (l:List aQ) (k:Nat):(iY W l k).length≤k∧(jm W l k).length≤k∧(jK W l k).length≤k:=⟨ao0 W l k,ao2 W l k,ao1 W l k⟩
theorem ao4 (A:Option Addr) (c:Nat) (l:List aQ) (sY:ai.b7) (W:ai) (w:World) (ah:aQ.rep.aK 48 w A c l) (bZ:ai.Has w sY W):
  Calls prog 30 #[.slice A l.length c, .agg ((ai.cells sY W).toArray)] w (λ e w'=>∃ h_ ck cb c1 dp c2,((ix l≠0∧e= .returned (.tuple #[.slice none 0 0, .slice none 0 0, .slice none 0 0,Φ (ix l)]))∨(ix l=0∧W.a7≠0∧e= .returned (.tuple #[.slice none 0 0, .slice none 0 0, .slice none 0 0,Φ W.a7]))∨(ix l=0∧W.a7=0∧e= .returned (.tuple #[.slice h_ (iY W l l.length).length ck, .slice cb (jm W l l.length).length c1, .slice dp (jK W l l.length).length c2,Φ 0])∧fc.rep.aF 201 16 w' w.heap.size (J.ab h_) h_ ck (iY W l l.length)∧eQ.rep.aF 203 24 w' w.heap.size (J.ab cb) cb c1 (jm W l l.length)∧dV.rep.aF 153 40 w' w.heap.size (J.ab dp) dp c2 (jK W l l.length)))∧Ext w w'):=by
 have tD:=ah.fa;refine ch (n:=82) func30 Z Z Z ?_;refine dZ Z Z λ cG bB aR d' ae=> ?_;have hE:=ae.lt;refine va Z<|va Z<|va Z<|aJ Z<|av<|aB Z<|cM YU Z (acv _ _ l _ (ah.keep aR)) λ eC dm=> ?_;have:=dm.size;have bO:=γ aR dm;refine aJ Z<|aB Z<|cS Z Z<|aC<| ?_;refine eU Z (λ hz=> ?_) (λ hz=> ?_)
 ·refine aB Z<|va Z<|va Z<|va Z<|aY Z<|bD<|cz (.tmp Z (.tmp Z (.tmp Z (.tmp Z .nil))))<| ?_;exact ⟨none,0,none,0,none,0, .inl ⟨hz,Z⟩,bO⟩
 ·obtain ⟨aCw,_⟩:=Lt (by simpa using hz);refine bm<|av<|aw<| ?_;have ae:=ae.later dm;refine aa (ax Z (ae.all dz cd))<|cM Kk Z (EU sY W _ (bZ.keep bO)) λ zS fi=> ?_;have:=fi.size;have m3:=γ bO fi;refine aJ Z<|aB Z<|cS Z Z<|aC<| ?_;refine eU Z (λ jB=> ?_) (λ jB=> ?_)
  ·refine aB Z<|va Z<|va Z<|va Z<|aY Z<|bD<|cz (.tmp Z (.tmp Z (.tmp Z (.tmp Z .nil))))<| ?_;exact ⟨none,0,none,0,none,0, .inr (.inl ⟨by simpa using hz,jB,rfl⟩),m3⟩
  ·have bP:=Good.Dx (by simpa using jB);have Ik:=bP.dJ;refine bm<|aw<|acm Z λ wD tU qx aE1 asS=> ?_;have jq:=γ m3 qx;refine aJ Z<|av<|aw<|aa (aj ld Z)<| ?_;have ae:=ae.later (γ fi qx);refine bk Z ae nb Z<|aa (b5 underlying26 Z)<|vm Z<|aC<|bJ<| ?_;refine eV (λ cp cn aP=>∃ k:Nat,cn= [(0, .slice A l.length c),(3, .pointer (bA bB)),(4, .slice none 0 0),(5, .slice none 0 0),(6, .slice none 0 0),(7,Φ 0),(10, .map (some tU)),(30, .slice sY.T W.ao.length sY.t),(31,Φ (W.ao.length:Int)),(32,Φ (k:Int))]∧cp=W.ao.length - k∧Ext w aP∧aM aP bB (ai.cells sY W) 28 (0,0)∧qH aP tU (zG W k)∧(k≤W.ao.length)) _ _ ⟨0,Z,Z,jq,ae,asS,by omega⟩ (eO Z Z Z) ?_;rintro oQ aN6 vh ⟨k,rfl,rfl,ks,ae,jt,ak⟩;have aoi:=ae.lt;have Va:=jt.lt;refine aw<|dR Z Z<|aC<|av<| ?_;refine en Z (λ aBe=> ?_) (λ aBe=> ?_)
   ·refine bm<|av<|bJ<|aw<|aa (cl k underlying26 lJ Z Z ((bZ.T.keep ks).bT (aV k)) Z (by omega))<|aa (ax Z (J.aK.iu kC ((bZ.T.keep ks).cD (aV k)) (dt (l:=W.ao) (u:=default) (by omega)) AW lJ))<|cU NW Z λ BG agi dH amH Ah=> ?_;have o7:=γ ks dH;refine cF Z Z Ah Z lJ Z Z λ vk oS Ah=> ?_;have jr:=Ext.mod o7 oS bo;refine aC<|rg<|vm Z<|aa (aj Kl Z)<|bk Z Ah aT Z<|aa (aj HM Z)<|bk Z Ah aT Z<| ?_;have jt:=(jt.later dH).mod oS aO;refine mu underlying141 underlying3 jt (aHk bP (by omega)) Z Z Z λ L2 qg jt=> ?_;have vw:=Ext.mod jr qg bo;refine nl<|b1<|eM Z Z Z<| ?_;have aW:zG W (k+1)=zG W k++ [((W.ao.getD k default).id,(W.ao.getD k default).owner)]:=aHi (by omega);have ae:=((ae.later dH).mod oS aO).mod qg aO;exact eJ ⟨k+1,Z,Z,vw,ae,(by rw [aW];exact jt),by omega⟩
   ·refine dn<|dk<|dG<|dj<|aX<|aw<|cU ax5 Z λ Gt uF kK aFa GX=> ?_;have rN:=γ ks kK;refine aC<|av<|aB Z<|aa (b5 underlying48 Z)<|vm Z<|aC<|bJ<| ?_;have mr:k=W.ao.length:=by omega
    subst mr;have ae:=ae.later kK;have jt:=jt.later kK;refine eV (λ cp cn aP=>∃ j:Nat,∃ h_:Option Addr,∃ ck:Nat,∃ cb:Option Addr,∃ c1:Nat,∃ dp:Option Addr,∃ c2:Nat,cn= [(3, .pointer (bA bB)),(4, .slice none 0 0),(5, .slice none 0 0),(6, .slice none 0 0),(7,Φ 0),(10, .map (some tU)),(13, .pointer (bA uF)),(42, .slice A l.length c),(43,Φ (l.length:Int)),(44,Φ (j:Int))]∧cp=l.length - j∧Ext w aP∧aM aP bB (ai.cells sY W) 28 (0,0)∧qH aP tU (zG W W.ao.length)∧aM aP uF [.slice h_ ((iY W l j).length) ck, .slice cb ((jm W l j).length) c1, .slice dp ((jK W l j).length) c2] 143 (0,0)∧fc.rep.aF 201 16 aP w.heap.size (J.ab h_) h_ ck (iY W l j)∧eQ.rep.aF 203 24 aP w.heap.size (J.ab cb) cb c1 (jm W l j)∧dV.rep.aF 153 40 aP w.heap.size (J.ab dp) dp c2 (jK W l j)∧(j≤l.length)∧(∀ q∈J.ab h_,q=bB→False)∧(∀ q∈J.ab h_,q=tU→False)∧(∀ q∈J.ab h_,q=uF→False)∧(∀ q∈J.ab cb,q=bB→False)∧(∀ q∈J.ab cb,q=tU→False)∧(∀ q∈J.ab cb,q=uF→False)∧(∀ q∈J.ab cb,q∈J.ab h_→False)∧(∀ q∈J.ab dp,q=bB→False)∧(∀ q∈J.ab dp,q=tU→False)∧(∀ q∈J.ab dp,q=uF→False)∧(∀ q∈J.ab dp,q∈J.ab h_→False)∧(∀ q∈J.ab dp,q∈J.ab cb→False)) _ _ ⟨0,none,0,none,0,none,0,Z,Z,rN,ae,jt,GX,(J.aF.nil _),(J.aF.nil _),(J.aF.nil _),by omega,(λ q I ag=>by (simp [J.ab] at I)),(λ q I ag=>by (simp [J.ab] at I)),(λ q I ag=>by (simp [J.ab] at I)),(λ q I ag=>by (simp [J.ab] at I)),(λ q I ag=>by (simp [J.ab] at I)),(λ q I ag=>by (simp [J.ab] at I)),(λ q I ag=>by (simp [J.ab] at I)),(λ q I ag=>by (simp [J.ab] at I)),(λ q I ag=>by (simp [J.ab] at I)),(λ q I ag=>by (simp [J.ab] at I)),(λ q I ag=>by (simp [J.ab] at I)),(λ q I ag=>by (simp [J.ab] at I))⟩ (eO Z Z Z) ?_;rintro wq aOj Qp ⟨j,h_,ck,cb,c1,dp,c2,rfl,rfl,rQ,ae,jt,bR,pZ,p0,p1,ay,Kc,Kd,Cx,yY,oG,s3,vQ,o',pa,EZ,Cy,Sy⟩;have aoj:=ae.lt;have acT:=jt.lt;have aok:=bR.lt;have VM:=bM pZ.lt;have zR:=bM p0.lt;have VN:=bM p1.lt;have xG:=ao3 W l j;refine aw<|dR Z Z<|aC<|av<| ?_;refine en Z (λ aas=> ?_) (λ aas=> ?_)
    ·have C7:=aQ.oD ah _ (jk (d:=default) (show j<l.length by omega));refine bm<|av<|bJ<|aw<|aa (cl j underlying48 gm Z Z ((ah.keep rQ).bT (aV j)) Z (by omega))<|aa (ax Z (J.aK.iu OB ((ah.keep rQ).cD (aV j)) (dt (l:=l) (u:=default) (by omega)) ky gm))<|cU SK Z λ Jh auL kq aFd pV=> ?_;have yp:=γ rQ kq;have aWx:=pV.lt;refine cF Z Z pV Z gm Z Z λ aqa j3 pV=> ?_;have:=j3.size;have GN:=Ext.mod yp j3 bo;refine aC<|aB Z<|aa (aj E0 Z)<|bk Z pV aT Z<| ?_;have jt:=(jt.later kq).mod j3 aO;refine aa (lk underlying141 underlying3 SZ jt Z Z)<|vm Z<|bs Z Z<|bs Z Z<|va Z<|aJ Z<|av<|aw<|aa (aj qT Z)<|bk Z pV aT Z<|aa (beq Z Z)<|aC<| ?_;refine iE Z (λ A7=> ?_) (λ A7=> ?_)
     ·refine cO [(1,0),(3,0),(5,0)] [0,1,2,3,4,5,6,7,8,9] ?_;refine aq Z (λ _=>aj vR Z)<|cf Z Z pV aT Z<|aq Z (λ _=>aj vR Z)<|cf Z Z pV aT Z<|aq Z (λ _=>aj s8 Z)<| ?_;have ae:=(ae.later kq).mod j3 aO;refine cf Z Z ae xq Z<|aq Z (λ _=>b5 underlying25 Z)<|aq Z (λ _=>blt Z Z)<|aq Z (λ _=>ee Z)<|aq Z (λ _=>ee Z)<|fn λ Gv fS=> ?_;have:=fS.size;have lA:=γ GN fS;refine aX<|aB Z<|vm Z<|ec Z Z<|bh Z (λ hc=>aj vR Z)<| ?_;have pV:=pV.later fS;refine bh Z (λ hc=>ax (gt hc Z) (pV.one aT Z))<|bh Z (λ hc=>beq (gt hc Z) (gt hc Z))<|aa (ei Z Z Z Z)<|aC<| ?_;refine du Z (λ HZ=> ?_) (λ HZ=> ?_)
      ·have tF:may W (l.getD j default)=true:=by unfold may;rw [aYq A7];rw [← HZ]
       refine rg<|aa (ax Z (pV.all ky gm))<| ?_;have bR:=((bR.later kq).mod j3 aO).later fS;have pZ:=((pZ.later kq).mod j3 (bU VM)).later fS;have p0:=((p0.later kq).mod j3 (bU zR)).later fS;have p1:=((p1.later kq).mod j3 (bU VN)).later fS;have aAv:∀ q∈(uF::(J.ab h_++(J.ab cb++J.ab dp))),w.heap.size≤q:=by
        intro q I;simp only [aYk,aYo] at I;rcases I with I | I | I | I
        ·omega
        ·exact (pZ.lt q I).1
        ·exact (p0.lt q I).1
        ·exact (p1.lt q I).1
       refine ca ah2 Z Z ((af6 (l.getD j default) w uF _ _ _ _ _ _ _ _ _ _ lA C7 bR pZ p0 p1 Cx s3 EZ vQ Cy Sy (by omega) (by omega) (by omega)).mono ?_);rintro e V9 ⟨ars,avY,art,avZ,aru,av0,rfl,QZ,atm,atn,ato,axC,axD,axE,axs,axt,axu,ai2,ai3,ai4,Bn⟩;refine cu ?_;have Ea:=Ext.mod lA Bn aAv;refine nl<|b1<|eM Z Z Z<| ?_;have bb:iY W l (j+1)=iY W l j++oY (l.getD j default):=adv (by omega) tF;have df:jm W l (j+1)=jm W l j++o0 (l.getD j default):=adz (by omega) tF;have jy:jK W l (j+1)=jK W l j++oZ (l.getD j default):=adx (by omega) tF;have ae:=ae.later fS;have aGM:bB∉(uF::(J.ab h_++(J.ab cb++J.ab dp))):=by
        intro I;simp only [aYk,aYo] at I;rcases I with I | I | I | I
        ·omega
        ·exact (λ q (κ:q∈J.ab h_) (τ:q=bB)=>show False by (exact Kc q κ τ)) _ I Z
        ·exact (λ q (κ:q∈J.ab cb) (τ:q=bB)=>show False by (exact yY q κ τ)) _ I Z
        ·exact (λ q (κ:q∈J.ab dp) (τ:q=bB)=>show False by (exact o' q κ τ)) _ I Z
       have ae:=ae.mod Bn aGM;have jt:=jt.later fS;have aGN:tU∉(uF::(J.ab h_++(J.ab cb++J.ab dp))):=by
        intro I;simp only [aYk,aYo] at I;rcases I with I | I | I | I
        ·omega
        ·exact (λ q (κ:q∈J.ab h_) (τ:q=tU)=>show False by (exact Kd q κ τ)) _ I Z
        ·exact (λ q (κ:q∈J.ab cb) (τ:q=tU)=>show False by (exact oG q κ τ)) _ I Z
        ·exact (λ q (κ:q∈J.ab dp) (τ:q=tU)=>show False by (exact pa q κ τ)) _ I Z
       have jt:=jt.mod Bn aGN;exact eJ ⟨j+1,ars,avY,art,avZ,aru,av0,Z,Z,Ea,ae,jt,(by rw [bb,df,jy];exact QZ),(by rw [bb];exact atm),(by rw [df];exact atn),(by rw [jy];exact ato),by omega,(fJ ai2 Kc),(fJ ai2 Kd),axC,(fJ ai3 yY),(fJ ai3 oG),axD,axs,(fJ ai4 o'),(fJ ai4 pa),axE,axt,axu⟩
      ·have tF:may W (l.getD j default)=false:=by unfold may;rw [aYq A7];rw [← HZ]
       refine fu<|b1<|eM Z Z Z<| ?_;have bb:iY W l (j+1)=iY W l j:=adu (by omega) tF;have df:jm W l (j+1)=jm W l j:=ady (by omega) tF;have jy:jK W l (j+1)=jK W l j:=adw (by omega) tF;have ae:=ae.later fS;have jt:=jt.later fS;have bR:=((bR.later kq).mod j3 aO).later fS;have pZ:=((pZ.later kq).mod j3 (bU VM)).later fS;have p0:=((p0.later kq).mod j3 (bU zR)).later fS;have p1:=((p1.later kq).mod j3 (bU VN)).later fS;exact eJ ⟨j+1,h_,ck,cb,c1,dp,c2,Z,Z,lA,ae,jt,(by rw [bb,df,jy];exact bR),(by rw [bb];exact pZ),(by rw [df];exact p0),(by rw [jy];exact p1),by omega,Kc,Kd,Cx,yY,oG,s3,vQ,o',pa,EZ,Cy,Sy⟩
     ·refine bm<|aB Z<|vm Z<|ec Z Z<|bh Z (λ hc=>aj vR Z)<|bh Z (λ hc=>ax (gt hc Z) (pV.one aT Z))<|bh Z (λ hc=>beq (gt hc Z) (gt hc Z))<|aa (ei Z Z Z Z)<|aC<| ?_;refine du Z (λ HX=> ?_) (λ HX=> ?_)
      ·have tF:may W (l.getD j default)=true:=by unfold may;rw [aYi A7];rw [← HX]
       refine rg<|aa (ax Z (pV.all ky gm))<| ?_;have bR:=(bR.later kq).mod j3 aO;have pZ:=(pZ.later kq).mod j3 (bU VM);have p0:=(p0.later kq).mod j3 (bU zR);have p1:=(p1.later kq).mod j3 (bU VN);have aAu:∀ q∈(uF::(J.ab h_++(J.ab cb++J.ab dp))),w.heap.size≤q:=by
        intro q I;simp only [aYk,aYo] at I;rcases I with I | I | I | I
        ·omega
        ·exact (pZ.lt q I).1
        ·exact (p0.lt q I).1
        ·exact (p1.lt q I).1
       refine ca ah2 Z Z ((af6 (l.getD j default) w uF _ _ _ _ _ _ _ _ _ _ GN C7 bR pZ p0 p1 Cx s3 EZ vQ Cy Sy (by omega) (by omega) (by omega)).mono ?_);rintro e Gp ⟨aqS,avu,aqT,avv,aqU,avw,rfl,ary,as0,as1,as2,axz,axA,axB,axp,axq,axr,aiV,aiW,aiX,zr⟩;refine cu ?_;have Jv:=Ext.mod GN zr aAu;refine nl<|b1<|eM Z Z Z<| ?_;have bb:iY W l (j+1)=iY W l j++oY (l.getD j default):=adv (by omega) tF;have df:jm W l (j+1)=jm W l j++o0 (l.getD j default):=adz (by omega) tF;have jy:jK W l (j+1)=jK W l j++oZ (l.getD j default):=adx (by omega) tF;have ae:=(ae.later kq).mod j3 aO;have aGK:bB∉(uF::(J.ab h_++(J.ab cb++J.ab dp))):=by
        intro I;simp only [aYk,aYo] at I;rcases I with I | I | I | I
        ·omega
        ·exact (λ q (κ:q∈J.ab h_) (τ:q=bB)=>show False by (exact Kc q κ τ)) _ I Z
        ·exact (λ q (κ:q∈J.ab cb) (τ:q=bB)=>show False by (exact yY q κ τ)) _ I Z
        ·exact (λ q (κ:q∈J.ab dp) (τ:q=bB)=>show False by (exact o' q κ τ)) _ I Z
       have ae:=ae.mod zr aGK;have aGL:tU∉(uF::(J.ab h_++(J.ab cb++J.ab dp))):=by
        intro I;simp only [aYk,aYo] at I;rcases I with I | I | I | I
        ·omega
        ·exact (λ q (κ:q∈J.ab h_) (τ:q=tU)=>show False by (exact Kd q κ τ)) _ I Z
        ·exact (λ q (κ:q∈J.ab cb) (τ:q=tU)=>show False by (exact oG q κ τ)) _ I Z
        ·exact (λ q (κ:q∈J.ab dp) (τ:q=tU)=>show False by (exact pa q κ τ)) _ I Z
       have jt:=jt.mod zr aGL;exact eJ ⟨j+1,aqS,avu,aqT,avv,aqU,avw,Z,Z,Jv,ae,jt,(by rw [bb,df,jy];exact ary),(by rw [bb];exact as0),(by rw [df];exact as1),(by rw [jy];exact as2),by omega,(fJ aiV Kc),(fJ aiV Kd),axz,(fJ aiW yY),(fJ aiW oG),axA,axp,(fJ aiX o'),(fJ aiX pa),axB,axq,axr⟩
      ·have tF:may W (l.getD j default)=false:=by unfold may;rw [aYi A7];rw [← HX]
       refine fu<|b1<|eM Z Z Z<| ?_;have bb:iY W l (j+1)=iY W l j:=adu (by omega) tF;have df:jm W l (j+1)=jm W l j:=ady (by omega) tF;have jy:jK W l (j+1)=jK W l j:=adw (by omega) tF;have ae:=(ae.later kq).mod j3 aO;have bR:=(bR.later kq).mod j3 aO;have pZ:=(pZ.later kq).mod j3 (bU VM);have p0:=(p0.later kq).mod j3 (bU zR);have p1:=(p1.later kq).mod j3 (bU VN);exact eJ ⟨j+1,h_,ck,cb,c1,dp,c2,Z,Z,GN,ae,jt,(by rw [bb,df,jy];exact bR),(by rw [bb];exact pZ),(by rw [df];exact p0),(by rw [jy];exact p1),by omega,Kc,Kd,Cx,yY,oG,s3,vQ,o',pa,EZ,Cy,Sy⟩
    ·refine dn<|dk<|dG<|dj<|aX<|av<| ?_;refine cO [(1,0),(3,0),(5,0)] [0,1,2,3,4,5,6,7,8,9] ?_;refine aq Z (λ _=>aj YR Z)<|cf Z Z bR ahZ Z<|aq Z (λ _=>aj YS Z)<|cf Z Z bR ah1 Z<|aq Z (λ _=>aj HH Z)<|cf Z Z bR SL Z<|aq Z (λ _=>ee Z)<|aq Z (λ _=>ee Z)<|aq Z (λ _=>ee Z)<|aq Z (λ _=>ee Z)<|fn λ aXe Wn=> ?_;have aMy:=γ rQ Wn;refine aX<|rt<|cz (.tmp Z (.tmp Z (.tmp Z (.tmp Z .nil))))<| ?_;have pZ:=pZ.later Wn;have p0:=p0.later Wn;have p1:=p1.later Wn;have Ko:j=l.length:=by omega
     subst Ko;exact ⟨h_,ck,cb,c1,dp,c2, .inr (.inr ⟨by simpa using hz,by simpa using jB,rfl,pZ,p0,p1⟩),aMy⟩
end
section
variable {l:List aQ}
def pG (W:ai) (l:List aQ):Int:=if ix l≠0 then ix l else W.a7
theorem Qb {W:ai} (h:pG W l=0):ix l=0∧W.a7=0:=by
 unfold pG at h;split at h
 ·rename_i κ;exact absurd h κ
 ·rename_i κ;exact ⟨by simpa using κ,h⟩
theorem aJG {W:ai} (h:pG W l=0):l.length≤100:=(Lt (Qb h).1).1
theorem aJH (A:Option Addr) (c:Nat) (l:List aQ) (sY:ai.b7) (W:ai) (w:World) (ah:aQ.rep.aK 48 w A c l) (bZ:ai.Has w sY W) (h:pG W l≠0):Calls prog 30 #[.slice A l.length c, .agg (ai.cells sY W).toArray] w (λ e w'=>e= .returned (.tuple #[.slice none 0 0, .slice none 0 0, .slice none 0 0, .int .i64 (pG W l)])∧Ext w w'):=by
 refine (ao4 A c l sY W w ah bZ).mono λ e w' he=> ?_;obtain ⟨h_,ck,cb,c1,dp,c2,(⟨κ,τ⟩ | ⟨κ,τ,au⟩ | ⟨κ,τ,_⟩),hx⟩:=he
 ·exact ⟨by rw [τ];unfold pG;rw [aYq κ],hx⟩
 ·exact ⟨by rw [au];unfold pG;rw [aYi (by simpa using κ)],hx⟩
 ·exact absurd (by unfold pG;rw [aYi (by simpa using κ)];exact τ) h
theorem ao5 (A:Option Addr) (c:Nat) (l:List aQ) (sY:ai.b7) (W:ai) (w:World) (ah:aQ.rep.aK 48 w A c l) (bZ:ai.Has w sY W) (h:pG W l=0):Calls prog 30 #[.slice A l.length c, .agg (ai.cells sY W).toArray] w (λ e w'=>∃ h_ ck cb c1 dp c2,e= .returned (.tuple #[.slice h_ (iY W l l.length).length ck, .slice cb (jm W l l.length).length c1, .slice dp (jK W l l.length).length c2, .int .i64 0])∧fc.rep.aF 201 16 w' w.heap.size (J.ab h_) h_ ck (iY W l l.length)∧eQ.rep.aF 203 24 w' w.heap.size (J.ab cb) cb c1 (jm W l l.length)∧dV.rep.aF 153 40 w' w.heap.size (J.ab dp) dp c2 (jK W l l.length)∧Ext w w'):=by
 obtain ⟨b2,a2⟩:=Qb h;refine (ao4 A c l sY W w ah bZ).mono λ e w' he=> ?_;obtain ⟨h_,ck,cb,c1,dp,c2,(⟨κ,τ⟩ | ⟨κ,τ,au⟩ | ⟨κ,τ,au,aU,bN,cq⟩),hx⟩:=he
 ·exact absurd b2 κ
 ·exact absurd a2 τ
 ·exact ⟨h_,ck,cb,c1,dp,c2,au,aU,bN,cq,hx⟩
end
section
variable {o:Oper} {id:Nat} {op:Op}
section
variable {F:List Nat} {P:Program} {ops:Array Oper} {Q:Exit→Act→World→Prop} {aS:Nat→Nat}
def w_ (F:List Nat) (P:Program) (ops:Array Oper) (w0:World) (o:Oper) (v:Value) (a:Act):Prop :=
  (Region.wanted o (yielded ops a.tmps)=true∧∀ w,Mod F w0 w→Bu P w v ((execOp a.eval o).run P w))∨
  (Region.wanted o (yielded ops a.tmps)=false∧v=undef)
theorem w_.of_same {w0:World} {v:Value} {a a':Act} (h:w_ F P ops w0 o v a) (he:execOp a'.eval o=execOp a.eval o) (hw:Region.wanted o (yielded ops a'.tmps)=Region.wanted o (yielded ops a.tmps)):w_ F P ops w0 o v a':=by
  unfold w_ at *;rw [he,hw];exact h
theorem w_.on {w0 w1:World} {v:Value} {a:Act} (h:w_ F P ops w0 o v a) (hx:Mod F w0 w1):w_ F P ops w1 o v a :=
  h.imp (λ ⟨κ,τ⟩=>⟨κ,λ w hw=>τ w (hx.trans hw)⟩) id
theorem Yields.aIA {w0:World} {v:Value} {a:Act} (h:Yields P ops o v a):w_ F P ops w0 o v a :=
  h.imp (λ ⟨κ,τ⟩=>⟨κ,λ w _=>by rw [τ w];exact ⟨rfl,rfl⟩⟩) id
def aJX (F:List Nat) (P:Program) (ops:Array Oper) (Q:Exit→Act→World→Prop) (aS:Nat→Nat) (i:Nat) (K:Act→World→Prop) (a:Act) (w0:World):Prop :=
  ∃ o,ops[i]? =some o∧
    ((aS i≤1∧∃ v,w_ F P ops w0 o v a∧K (a.put o.dst v) w0)∨
     (1<aS i∧∀ w,Ext w0 w→wpOp P ops Q i (λ a' w'=>(aS i=2→Mod F w0 w')∧K a' w') a w))
def Nn (F:List Nat) (P:Program) (ops:Array Oper) (Q:Exit→Act→World→Prop) (aS:Nat→Nat):Nat→Array Bool→Act→World→Prop
  | 0,l,a,w0=>Region.ready .any ops l= []∧∀ w,Ext w0 w→Q .normal a w
  | f+1,l,a,w0=>(Region.ready .any ops l= []→∀ w,Ext w0 w→Q .normal a w)∧∀ i∈Region.ready .any ops l,aJX F P ops Q aS i (Nn F P ops Q aS f (l.setIfInBounds i true)) a w0
theorem J4:∀ (f:Nat) (l:Array Bool) (a:Act) (w0:World),Nn F P ops Q aS f l a w0→∀ w,Ext w0 w→wpAny P .any ops Q f l a w
  | 0,_,_,_,h,w,hw=>⟨h.1,h.2 w hw⟩
  | f+1,l,a,w0,h,w,hw=>⟨λ aG=>h.1 aG w hw,λ i hi=>by
      obtain ⟨o,bK,τ⟩:=h.2 i hi;rcases τ with ⟨_,v,I,ak⟩ | ⟨_,τ⟩
      · unfold wpOp
        simp only [bK];rcases I with ⟨oN,I⟩ | ⟨oN,rfl⟩
        · rw [aYq oN]
          refine .inl ?_;have I:=I w (Mod.a8 hw);unfold Oper.wp;generalize (execOp a.eval o).run P w=r at *
          cases r with
          | ok n w' =>
            cases n<;>simp only [Bu] at I<;>simp only [Oper.upon]
            case value u=>obtain ⟨rfl,rfl⟩:=I;exact J4 f _ _ _ ak _ hw
            case skip=>obtain ⟨rfl,rfl⟩:=I;exact J4 f _ _ _ ak _ hw
            case enter f' args=>obtain ⟨rfl,hc⟩:=I;exact hc.mono λ e lx ⟨he,hx⟩=>by subst he;exact J4 f _ _ _ ak _ (hw.x' hx)
          | halt x w'=>simp only [Bu] at I
        · rw [aYi (by rw [oN];decide)]
          exact J4 f _ _ _ ak _ hw
      · exact baI (λ a' w' au=>J4 f _ _ _ au.2 _ (Ext.cH w')) (τ w hw)⟩
theorem aiI {i:Nat} {eh:Oper} {v:Value} (hi:ops[i]? =some eh) (ak:aS i≤1) (oM:∀ (j:Nat) (o:Oper) cs b,ops[j]? =some o→o.op≠ .select cs b)
    (ji:∀ c a w,¬ Q (.panic c) a w) (aA:World→Act→Prop) (nV:∀ w0 a,aA w0 a→w_ F P ops w0 eh v a)
    (z2:∀ w0 a a',aA w0 a→execOp a'.eval eh=execOp a.eval eh→Region.wanted eh (yielded ops a'.tmps)=Region.wanted eh (yielded ops a.tmps)→aA w0 a')
    (z3:∀ w0 w1 a,Mod F w0 w1→aA w0 a→aA w1 a) (R:Nat→Bool) (zk:Array Bool)
    (hR:∀ j dF,ops[j]? =some dF→j≠i→(∀ e∈dF.after,Region.binds .any e=true→R e.on=true)→R j=true)
    (bg:(∀ w0 w1 a,aA w0 a→aA w1 a)∨∀ j,R j=true→3≤aS j→zk.getD j true=true):
    ∀ (f:Nat) (l:Array Bool) (a:Act) (w0:World),(∀ j,l.getD j false=true→R j=true)→(∀ j,zk.getD j true=true→l.getD j true=true)→
      (∀ j dF,ops[j]? =some dF→j≠i→l.getD j true=false→(∀ e∈dF.after,Region.binds .any e=true→e.on≠i)→eh.apart ops dF=true)→
      i∈Region.ready .any ops l→aA w0 a→Nn F P ops Q aS f (l.setIfInBounds i true) (a.put eh.dst v) w0→Nn F P ops Q aS (f+1) l a w0:=by
  intro f;induction f with
  | zero =>
    intro l a w0 _ _ _ hr bc H;refine ⟨λ h=>(by rw [h] at hr;cases hr),λ j ay=> ?_⟩;by_cases iF:j=i
    · subst iF;exact ⟨eh,hi, .inl ⟨ak,v,nV _ _ bc,H⟩⟩
    · have:=baU ay iF
      rw [H.1] at this;cases this
  | succ f bL =>
    intro l a w0 Fw zc Fq hr bc H;refine ⟨λ h=>(by rw [h] at hr;cases hr),λ j ay=> ?_⟩;by_cases iF:j=i
    · subst iF;exact ⟨eh,hi, .inl ⟨ak,v,nV _ _ bc,H⟩⟩
    · obtain ⟨dF,l5,κ⟩:=H.2 j (baU ay iF)
      obtain ⟨za,hD,FC,dM⟩:=bbT.1 ay;obtain rfl:hD=dF:=by rw [l5] at FC;exact (aYd FC).symm
      have OS:∀ e∈hD.after,Region.binds .any e=true→e.on≠i:=λ e he ag heq=>by
        have κ:=dM e he ag;have aG:=(bbT.1 hr).1;rw [heq] at κ;rcases aZc i l.size with dh | dh
        · simp [dh] at aG κ;rw [aG] at κ;cases κ
        · simp [aZg dh] at κ
      have Ov:=Fq j hD l5 iF za OS;obtain ⟨b2,a2,a3⟩:=bcH Ov;have O4:∀ cs b,eh.op≠ .select cs b:=λ cs b=>oM i eh cs b hi;have zg:∀ cs b,hD.op≠ .select cs b:=λ cs b=>oM j hD cs b l5;have keep:∀ w1 a u,aA w1 a→aA w1 (a.put hD.dst u):=λ w1 a u bc=>z2 _ _ _ bc (ba4 eh O4 a hD.dst u a3) (bbd eh a hD.dst u a3);have Fc:R j=true:=hR j hD l5 iF λ e he ag=>Fw _ (dM e he ag);have Fx:∀ k,(l.setIfInBounds j true).getD k false=true→R k=true:=λ k ak=>by
        by_cases hU:j=k
        · rw [← hU];exact Fc
        · rw [baE false hU] at ak;exact Fw k ak
      have Fv:∀ k,zk.getD k true=true→(l.setIfInBounds j true).getD k true=true:=λ k ak=>by
        by_cases hU:j=k
        · subst hU
          rcases aZc j l.size with dh | dh
          · simp [dh]
          · simp [aZg dh]
        · rw [baE true hU];exact zc k ak
      have Fs:∀ k ok,ops[k]? =some ok→k≠i→(l.setIfInBounds j true).getD k true=false→
          (∀ e∈ok.after,Region.binds .any e=true→e.on≠i)→eh.apart ops ok=true:=λ k ok ak q9 FG lp=>by
        refine Fq k ok ak q9 ?_ lp;by_cases hU:j=k
        · subst hU;exact za
        · rw [baE true hU] at FG;exact FG
      have FF:=baU hr (ba7 iF);rcases κ with ⟨zb,u,I,hK⟩ | ⟨zb,κ⟩
      · refine ⟨hD,l5, .inl ⟨zb,u,I.of_same (ba4 hD zg a eh.dst v b2).symm (bbd hD a eh.dst v b2).symm, ?_⟩⟩
        refine bL _ _ _ Fx Fv Fs FF (keep _ _ _ bc) ?_;rw [aZR _ _ iF,← bat a v u a2];exact hK
      · refine ⟨hD,l5, .inr ⟨zb,λ w hw=> ?_⟩⟩
        refine baI (λ a' w' au=>⟨au.2.1, ?_⟩) (ad7 (aA:=aA w0) l5 b2 a2 zg ji (keep w0) (λ a d bc=>z2 _ _ _ bc Z Z) bc (κ w hw));have O7:aA w' a':=by
          rcases aZc (aS j) 3 with bF | tz
          · exact z3 _ _ _ (au.2.1 (by omega)) au.1
          · rcases bg with bg | bg
            · exact bg _ _ _ au.1
            · have:=zc j (bg j Fc tz);rw [za] at this;cases this
        refine bL _ _ _ Fx Fv Fs FF O7 ?_;rw [aZR _ _ iF];exact au.2.2
def Mi (F:List Nat) (P:Program) (ops:Array Oper) (Q:Exit→Act→World→Prop) (aS:Nat→Nat):List Nat→Act→World→Prop
  | [],a,w0=>∀ w,Ext w0 w→Q .normal a w
  | i::r,a,w0=>∃ o,ops[i]? =some o∧
      ((aS i=0∧∃ v,w_ F P ops w0 o v a∧Mi F P ops Q aS r (a.put o.dst v) w0)∨
       (aS i=1∧∃ v,Yields P ops o v a∧Mi F P ops Q aS r (a.put o.dst v) w0)∨
       (1<aS i∧∀ w,Ext w0 w→wpOp P ops Q i (λ a' w'=>(aS i=2→Mod F w0 w')∧Mi F P ops Q aS r a' w') a w))
theorem RV (hs:Region.noSelect ops=true) (ji:∀ c a w,¬ Q (.panic c) a w):∀ (r:List Nat) (l:Array Bool) (a:Act) (w0:World),l.size=ops.size→lh ops aS r l=true→Mi F P ops Q aS r a w0→Nn F P ops Q aS r.length l a w0
  | [],l,a,w0,_,bg,h=>⟨by simpa [lh] using bg,h⟩
  | i::r,l,a,w0,ah,bg,h=>by
    obtain ⟨o,bK,h⟩:=h;have oM:=ba5 hs;rcases h with ⟨ak,v,I,hK⟩ | ⟨ak,v,I,hK⟩ | ⟨ak,h⟩
    · simp only [lh,ak,aYl] at bg
      obtain ⟨⟨⟨hf,hr⟩,ag⟩,bg⟩:=bg;obtain ⟨R,r1,r2,wx⟩:=R5 ah ag;exact aiI bK (by omega) oM ji (λ w0 a=>w_ F P ops w0 o v a) (λ _ _ h=>h) (λ _ _ _ h he hw=>h.of_same he hw) (λ _ _ _ hx h=>h.on hx) R l r1 (.inr wx) _ _ _ _ r2 (λ _ h=>h) (aZ3 bK hf) (by simpa using hr) I
        (RV hs ji r _ _ _ (by simpa using ah) bg hK)
    · simp only [lh,ak,aYl] at bg
      obtain ⟨⟨hf,hr⟩,bg⟩:=bg;exact aiI bK (by omega) oM ji (λ _ a=>Yields P ops o v a) (λ _ _ h=>Yields.aIA h) (λ _ _ _ h he hw=>h.of_same he hw) (λ _ _ _ _ h=>h) (λ _=>true) l (λ _ _ _ _ _=>Z) (.inl λ _ _ _ h=>h) _ _ _ _ (λ _ _=>Z) (λ _ h=>h) (aZ3 bK hf) (by simpa using hr) I
        (RV hs ji r _ _ _ (by simpa using ah) bg hK)
    · obtain ⟨k,gC⟩:∃ k,aS i=k+2:=⟨aS i - 2,by omega⟩
      simp only [lh,gC,aYl,aZf] at bg;obtain ⟨hr,bg⟩:=bg;refine ⟨λ aG=>(by rw [hr] at aG;cases aG),λ j ay=> ?_⟩;rw [hr] at ay;obtain rfl:j=i:=by simpa using ay
      exact ⟨o,bK, .inr ⟨ak,λ w hw=>baI (λ a' w' au=>⟨au.1,RV hs ji r _ _ _ (by simpa using ah) bg au.2⟩) (h w hw)⟩⟩
theorem aIJ {a:Act} {w:World} (bY:List Nat) (hm:P.follows .mixedOrders=true) (bg:(Region.noSelect ops && (bY.length == ops.size) && lh ops aS bY (Array.replicate ops.size false))=true)
    (h:Mi F P ops (ij (Q .normal)) aS bY a w):(Code.region id ops true).wp P Q a w:=by
  simp only [aYl,aZf] at bg;obtain ⟨⟨hs,ah⟩,bg⟩:=bg;refine wp_mono (bb6 hm (Q:=ij (Q .normal)) ?_) (λ e a w I=>by cases e<;>first | exact I | exact I.elim);have:=RV (P:=P) hs (Q:=ij (Q .normal)) (λ _ _ _ h=>h) bY (Array.replicate ops.size false) a w (by simp) bg h;rw [ah] at this;exact J4 _ _ _ _ this _ (aYG _ w).drew
end
section
variable {F:List Nat} {P:Program} {n:Nat} {E cW:List (Nat×Value)} {a:Act} {w w' w0 w1:World} {Q:Exit→Act→World→Prop} {ops:Array Oper} {v:Value} {aS:Nat→Nat}
variable {d:Option Nat} {ty:TypeId} {pos:String} {af:Array Edge} {g:Option (Nat×Bool)} {x y z:Operand} {t:TypeId} {rest:List Oper} {bY:List Nat} {i:Nat}
def Al (F:List Nat) (P:Program) (n:Nat) (ops:Array Oper) (Q:Exit→Act→World→Prop) (aS:Nat→Nat) (bY:List Nat) (E:List (Nat×Value)) (w0:World):Prop:=∀ a,fj n E a→Mi F P ops (ij (Q .normal)) aS bY a w0
theorem P0 (F:List Nat) (mz:List (Nat×Nat)) (bY:List Nat) (hm:P.follows .mixedOrders=true) (bg:(Region.noSelect ops && (bY.length == ops.size) && lh ops (oO mz) bY (Array.replicate ops.size false))=true)
    (h:Al F P n ops Q (oO mz) bY E w):W P n (.region id ops true) Q E w:=λ a ha=>aIJ bY hm bg (h a ha)
theorem N1 (h:∀ w,Ext w0 w→N n Q E w):Al F P n ops Q aS [] E w0:=λ a ha w hw=>h w hw a ha
theorem r8 {d:Nat} (hi:ops[i]? =some ⟨some d,op,ty,pos,af,none⟩) (ak:aS i=0) (hr:∀ w,Mod F w0 w→c9 P E ⟨some d,op,ty,pos,af,none⟩ w v w) (hd:Nat.blt d n=true)
    (h:Al F P n ops Q aS bY ((d,v)::E) w0):Al F P n ops Q aS (i::bY) E w0:=λ a ha =>
  ⟨_,hi, .inl ⟨ak,v, .inl ⟨DR rfl,λ w hw=>by rw [hr w hw n a ha];exact ⟨rfl,rfl⟩⟩,h _ (ha.put hd v)⟩⟩
theorem fO {d:Nat} (hi:ops[i]? =some ⟨some d,op,ty,pos,af,none⟩) (ak:aS i=1) (hr:∀ w,c9 P E ⟨some d,op,ty,pos,af,none⟩ w v w) (hd:Nat.blt d n=true)
    (h:Al F P n ops Q aS bY ((d,v)::E) w0):Al F P n ops Q aS (i::bY) E w0:=λ a ha =>
  ⟨_,hi, .inr (.inl ⟨ak,v, .inl ⟨DR rfl,λ w=>hr w n a ha⟩,h _ (ha.put hd v)⟩)⟩
theorem CN (aN:o.guard=none) (hi:ops[i]? =some o) (ak:aS i=2) (h:∀ w,Ext w0 w→Hk P n ops o E w λ cW w'=>Mod F w0 w'∧Al F P n ops Q aS bY cW w'):Al F P n ops Q aS (i::bY) E w0:=λ a ha =>
  ⟨_,hi, .inr (.inr ⟨by omega,λ w hw=>LL aN hi (h w hw) (λ cW w' a' ak tr=>⟨λ _=>ak.1,ak.2 a' tr⟩) ha⟩)⟩
theorem N0 (aN:o.guard=none) (hi:ops[i]? =some o) (ak:aS i=3) (h:∀ w,Ext w0 w→Hk P n ops o E w λ cW w'=>Al F P n ops Q aS bY cW w'):Al F P n ops Q aS (i::bY) E w0:=λ a ha =>
  ⟨_,hi, .inr (.inr ⟨by omega,λ w hw=>LL aN hi (h w hw) (λ cW w' a' ak tr=>⟨λ τ=>by omega,ak a' tr⟩) ha⟩)⟩
end
end
end Go.Proofs.YtmeeljmapailnaaGreat
