import Derived.Test.YtlikikpgmmkjbaaGreatLawA
set_option linter.unusedVariables false
set_option linter.unusedSimpArgs false
set_option maxRecDepth 100000
set_option maxHeartbeats 4000000
open Go.RowKit
namespace Go.Proofs.YtlikikpgmmkjbaaGreat
open Tryz
abbrev aSM:=@List.pairwise_iff_getElem
abbrev aUl:=@List.drop_zero
abbrev aUo:=@List.mem_iff_getElem?
abbrev aUS:=@List.getElem_cons_zero
abbrev aUT:=@List.getElem_cons_succ
abbrev aWI:=@Nat.lt_trichotomy
section
theorem aAj:∀ (n:Nat) (l:List Nat),l.Nodup→(∀ x∈l,x<n)→l.length≤n:=by
 intro n;induction n with
 | zero =>
  intro l _ h;cases l with
  | nil=>exact aR3 _
  | cons x r=>exact absurd (h x aSe) (by omega)
 | succ n bF =>
  intro l hn h;by_cases hm:n∈l
  ·have κ:=bF (l.erase n) (hn.erase _) (λ x hx=>by
    have:=h x (List.mem_of_mem_erase hx);have ff:x≠n:=λ e=>by subst e;exact (List.Nodup.not_mem_erase hn) hx
    omega)
   rw [List.length_erase_of_mem hm] at κ;omega
  ·have:=bF l hn (λ x hx=>by
    have:=h x hx;have ff:x≠n:=λ e=>hm (by rw [← e];exact hx)
    omega)
   omega
section
variable {f:aD} {a b c x y:ax} {d D:Int} {a_:List Int} {aA:ax→Int}
theorem aqF (hf:f.bp=0) {l:List ax} (hn:l.Nodup) (ar:∀ x∈l,f.fi x=true):l.length≤f.aS.length:=by
 have κ:(l.map f.at_).Nodup:=by
  have:∀ l:List ax,l.Nodup→(∀ x∈l,f.fi x=true)→(l.map f.at_).Nodup:=by
   intro l;induction l with
   | nil=>intro _ _;exact aVY
   | cons x r bF =>
    intro hn ar;rw [aUW] at hn;rw [aSH,aUW];refine ⟨λ hm=> ?_,bF hn.2 λ y aK=>ar y (aR7 _ aK)⟩;obtain ⟨y,aK,e⟩:=aSz.1 hm;have:=aD.acu hf (ar y (aR7 _ aK)) (ar x aSe) e;subst this;exact hn.1 aK
  exact this l hn ar
 have:=aAj f.aS.length _ κ (λ i hm=>by
  obtain ⟨y,aK,rfl⟩:=aSz.1 hm;exact (aD.yy hf (ar y aK)).1)
 rwa [aSp] at this
abbrev mD (f:aD) (a:ax):ax→Int→Prop:=qq.oG f.cS f.gF (λ s=>s=a)
abbrev sw (f:aD) (a:ax):ax→Int→Prop:=qq.tH f.cS f.gF (λ s=>s=a)
theorem mD.qQ (r:mD f a x d):0≤d:=qq.oG.qQ (aD.Yp f) r
theorem mD.ground (ha:f.ground a=true) (r:mD f a x d):f.ground x=true:=by
 induction r with
 | start hs=>rw [hs];exact ha
 | step _ aK _=>exact (aD.Mu.1 aK).2
theorem mD.wa (r:mD f a x d) {e:Int} (q:mD f x y e):mD f a y (d+e):=by
 induction q with
 | start hs=>rw [hs,Int.add_zero];exact r
 | step _ aK bF=>rw [← Int.add_assoc];exact .step bF aK
theorem sw.pred (h:sw f a x d):(x=a∧d=0)∨∃ p e,sw f a p e∧x∈f.cS p∧d=e+f.gF x:=by
 obtain ⟨r,hm⟩:=h;cases r with
 | start hs=>exact .inl ⟨hs,rfl⟩
 | @step p _ e hp aK =>
  obtain ⟨e',he⟩:=qq.oG.ahz (aD.Yp f) hp;have κ:=he.2 _ hp;have aa:=hm _ (.step he.1 aK);have:e=e':=by omega
  subst this;exact .inr ⟨p,e,he,aK,Z⟩
theorem sw.chain (hf:f.bp=0) (ha:f.ground a=true):∀ (n:Nat) (x:ax) (d:Int),sw f a x d→d.toNat=n→∃ l:List ax,l.Nodup∧(∀ y∈l,f.fi y=true∧∃ e,sw f a y e∧e≤d)∧d+3≤3 * (l.length:Int):=by
 intro n;induction n using Nat.strongRecOn with
 | ind n bF =>
  intro x d h hn;have hx:=aD.j8 (mD.ground ha h.1);rcases h.pred with ⟨κ,aa⟩ | ⟨p,e,κ,aa,aw⟩
  ·refine ⟨[x],by simp,λ y aK=> ?_,by rw [aa];simp⟩;rw [aRP.1 aK];exact ⟨hx,d,h,aTh _⟩
  ·have av:=f.p1 (c:=x);have he:=mD.qQ κ.1;obtain ⟨l,eA,jP,Fe⟩:=bF e.toNat (by omega) p e κ rfl;refine ⟨x::l,aUW.2 ⟨λ hm=> ?_,eA⟩,λ y aK=> ?_,by rw [aRW];omega⟩
   ·obtain ⟨_,e',a6,bL⟩:=jP x hm;have:=a6.uniq h;omega
   ·rcases aSc.1 aK with rfl | aK
    ·exact ⟨hx,d,h,aTh _⟩
    ·obtain ⟨a6,e',bL,ch⟩:=jP y aK;exact ⟨a6,e',bL,by omega⟩
theorem sw.cE (hf:f.bp=0) (ha:f.ground a=true) (h:sw f a x d):d+3≤3 * (f.aS.length:Int):=by
 obtain ⟨l,eA,jP,Fe⟩:=h.chain hf ha _ x d rfl;have:=aqF hf eA λ y aK=>(jP y aK).1;omega
def cellAt (f:aD) (i:Nat):ax:=⟨(i:Int) % f.wide,(i:Int) / f.wide⟩
theorem aqy (hf:f.bp=0) (hc:f.fi c=true):cellAt f (f.at_ c)=c:=by
 obtain ⟨_,_,a2,a3,a4,a5⟩:=aD.idx hf hc;have h:=(aD.yy hf hc).2;unfold cellAt;rw [h];have bc:(c.y * f.wide+c.x) % f.wide=c.x:=by rw [aVE,aUz,aVD a2 a3]
 have bl:(c.y * f.wide+c.x) / f.wide=c.y:=by rw [aVE,Int.add_mul_ediv_right _ _ (by omega),Int.ediv_eq_zero_of_lt a2 a3,Int.zero_add]
 rw [bc,bl]
theorem aug (hf:f.bp=0) {g:ax→Int} (aO:∀ c,f.fi c=false→g c= -1):f.aA ((List.range f.aS.length).map λ i=>g (cellAt f i)) c=g c:=by
 cases hc:f.fi c with
 | false=>rw [aD.Vz hc,aO c hc]
 | true =>
  rw [aD.Hi hc,aRQ,aSa,aVi (aD.yy hf hc).1];show g (cellAt f (f.at_ c))=g c;rw [aqy hf hc]
theorem aj7 (hf:f.bp=0) (ha:f.ground a=true) (b:ax):∃ a_,pD f a b a_:=by
 let Q:ax→Int→Prop:=λ c d=>sw f a c d∧∀ D,sw f a b D→d+aD.kL b c≤D
 let g:ax→Int:=λ c=>@dite _ (∃ d,Q c d) (Classical.propDecidable _) (λ h=>h.choose) λ _=> -1
 have PX:∀ c d,Q c d→g c=d:=λ c d h=>by
  have hex:∃ d,Q c d:=⟨d,h⟩;show @dite _ (∃ d,Q c d) (Classical.propDecidable _) (λ h=>h.choose) (λ _=> -1)=d;rw [dif_pos hex];exact hex.choose_spec.1.uniq h.1
 have gn:∀ c,(¬ ∃ d,Q c d)→g c= -1:=λ c h=>by
  show @dite _ (∃ d,Q c d) (Classical.propDecidable _) (λ h=>h.choose) (λ _=> -1)= -1;rw [dif_neg h]
 have yP:∀ c,0≤g c→Q c (g c):=λ c h=>by
  by_cases hex:∃ d,Q c d
  ·obtain ⟨d,hd⟩:=hex;rw [PX c d hd];exact hd
  ·rw [gn c hex] at h;omega
 have go:∀ c,f.fi c=false→g c= -1:=λ c hc=>gn c λ ⟨d,hd⟩=>by
  have:=aD.j8 (mD.ground ha hd.1.1);rw [hc] at this;cases this
 have ny:∀ c,f.aA ((List.range f.aS.length).map λ i=>g (cellAt f i)) c=g c:=λ c=>aug hf go;refine ⟨(List.range f.aS.length).map λ i=>g (cellAt f i),by rw [aSp,aWL],⟨λ c h=> ?_,λ c h=> ?_,λ c d hd hle=> ?_,λ c h=> ?_⟩,λ c=> ?_,λ c h=> ?_⟩
 ·rw [ny c] at h ⊢;by_cases hex:∃ d,Q c d
  ·obtain ⟨d,hd⟩:=hex;rw [PX c d hd] at h;have:=mD.qQ hd.1.1;omega
  ·exact gn c hex
 ·rw [ny c] at h ⊢;exact yP c h
 ·rw [ny c];exact PX c d ⟨hd,hle⟩
 ·rw [ny c] at h ⊢;have I:=yP c h;rcases I.1.pred with κ | ⟨p,e,κ,aa,aw⟩
  ·exact .inl κ
  ·right;have he:=aD.Vk b (aD.Mu.1 aa).1;have av:=f.p1 (c:=c);have hp:g p=e:=PX p e ⟨κ,λ D vC=>by have:=I.2 D vC;omega⟩;exact ⟨p,by rw [ny p,hp];exact mD.qQ κ.1,aa,by rw [ny p,hp];exact aw⟩
 ·rw [ny c];by_cases h:0≤g c
  ·have:=(yP c h).1.cE hf ha;omega
  ·omega
 ·rw [ny c] at h;exact mD.ground ha (yP c h).1.1
theorem Vy (hf:f.bp=0) (ha:f.ground a=true):qq.Spec f.cS f.gF (aD.kL b) (λ s=>s=a) b (cM f a b):=by
 obtain ⟨a_,h⟩:=aj7 hf ha b;rw [← h.PR];exact h.spec
theorem Kt (hf:f.bp=0) (ha:f.ground a=true) (h:0≤cM f a b c):sw f a c (cM f a b c):=((Vy hf ha).oK c h).1
theorem afa (hf:f.bp=0) (ha:f.ground a=true) (h:sw f a b d):cM f a b b=d:=(Vy hf ha).end_ (aD.Vj b) h
theorem auf (hf:f.bp=0) (ha:f.ground a=true) (h:mD f a b d):0≤cM f a b b∧cM f a b b≤d:=by
 obtain ⟨e,he⟩:=qq.oG.ahz (aD.Yp f) h;rw [afa hf ha he];exact ⟨mD.qQ he.1,he.2 _ h⟩
theorem Ku (hf:f.bp=0) (ha:f.ground a=true) (h:0≤cM f a b b):oD f a (cM f a b):=by
 obtain ⟨a_,hp⟩:=aj7 hf ha b;exact oD.FB hp h
theorem aE4 (h:oD f a aA):∀ (n:Nat) (c:ax),0≤aA c→(aA c).toNat=n→∀ x∈fO f aA a c,0≤aA x∧aA x≤aA c∧f.ground x=true:=by
 intro n;induction n using Nat.strongRecOn with
 | ind n bF =>
  intro c hc hn x hx;by_cases e:c=a
  ·subst e;rw [Br h] at hx;rw [aRP.1 hx];exact ⟨hc,aTh _,h.gr _ hc⟩
  ·obtain ⟨eR,fl,mn,xO⟩:=h.prev hc e;have av:=f.p1 (c:=c);rw [Bs h hc e] at hx;rcases aSc.1 hx with rfl | hx
   ·exact ⟨hc,aTh _,h.gr _ hc⟩
   ·obtain ⟨lF,mU,vZ⟩:=bF _ (by omega) _ mn rfl x hx;exact ⟨lF,by omega,vZ⟩
theorem Vp (he:gZ f a b=0):f.bp=0∧f.ground a=true∧f.ground b=true∧0≤cM f a b b∧oO f a b=cM f a b b∧fR f a b=(fO f (cM f a b) a b).reverse:=by
 rcases Vo f a b with ⟨κ,aa⟩ | ⟨κ,aa,aw⟩ | ⟨κ,aa,aw,a6⟩ | ⟨κ,aa,aw,a6 | a6⟩
 ·rw [aa] at he;exact absurd he κ
 ·rw [aw] at he;exact absurd he aa
 ·rw [a6] at he;cases he
 ·rw [a6.2] at he;cases he
 ·refine ⟨κ,aa,aw,a6.1, ?_, ?_⟩
  ·unfold oO;rw [aR5 he]
  ·unfold fR;rw [aR5 he]
end
end
section
def aNs:List bf:= [⟨1,0,1,⟨2,0⟩,10,0⟩]
def aNr:List dj:= [⟨1,⟨2,0⟩⟩]
end
section
def DT (s t:bf):Prop:=s.id<t.id∧s.spot≠t.spot
theorem VL {α:Type} [Inhabited α] {l:List α} {i:Nat} {t:α} (h:l[i]? =some t):l.getD i default=t:=by rw [aRQ,h];rfl
theorem Good.ax0 {W:ah} (bB:Good W) {i j:Nat} {s t:bf} (jG:i<j) (hs:W.ao[i]? =some s) (aE:W.ao[j]? =some t):s.id<t.id:=by
 induction j generalizing t with
 | zero=>omega
 | succ j bF =>
  have ay:=(aRS.1 aE).1;obtain ⟨u,hu⟩:=hP (l:=W.ao) (i:=j) (by omega);have κ:=(bB.ids (j+1) t aE).1;have aa:W.jQ (j+1)=u.id:=by
   unfold ah.jQ;rw [aR0 (by omega),aVq,VL hu]
  rcases aUK.1 jG with h | rfl
  ·have:=bF h hu;omega
  ·rw [hs] at hu;injection hu with hu;subst hu;omega
theorem Good.It {W:ah} (bB:Good W):W.ao.Pairwise DT:=by
 rw [aSM];intro i j ar ay jG;have hs:=aRT ar;have aE:=aRT ay;refine ⟨bB.ax0 jG hs aE,λ e=> ?_⟩;have κ:=bB.jf j _ aE;rw [← e] at κ;have:(W.jf j).contains (W.ao[i]).spot=true:=by
  rw [aU6];unfold ah.jf;exact aSz.2 ⟨_,aUo.2 ⟨i,by rw [aSy,aR5 jG,hs]⟩,Z⟩
 rw [this] at κ;exact nomatch κ
theorem Good.each {W:ah} (bB:Good W) {t:bf} (aE:t∈W.ao):0<t.id∧t.id<W.next∧OA W.field W.aU.length t:=by
 obtain ⟨i,ar⟩:=aUo.1 aE;have κ:=bB.ids i t ar;exact ⟨by omega,κ.2.1,bB.ao i t ar⟩
theorem Good.ajT {W V:ah} (bB:Good W) (hf:V.field=W.field) (Φ:V.aU=W.aU) (hs:V.bh=W.bh) (hm:V.br=W.br) (hn:V.next=W.next) (b7:0≤V.now∧V.now≤1000000) (aB:V.ao.length≤100) (cj:V.ao.Pairwise DT)
  (dF:∀ t∈V.ao,0<t.id∧t.id<V.next∧OA V.field V.aU.length t):Good V where
 field:=by rw [hf];exact bB.field
 kr:=by rw [Φ];exact bB.kr
 eg:=aB
 sl:=by rw [hs,Φ];exact bB.sl
 aU:=by rw [Φ,hf];exact bB.aU
 bh:=by rw [hs];exact bB.bh
 xI:=by rw [hm,hf];exact bB.xI
 br:=by rw [hm,hf];exact bB.br
 ao:=λ i t aE=>(dF t (aSv aE)).2.2
 ids:=λ i t aE=>by
  have κ:=dF t (aSv aE);unfold ah.jQ;split
  ·exact ⟨κ.1,κ.2.1,aTh _⟩
  ·rename_i aG
   have ar:=(aRS.1 aE).1;obtain ⟨u,hu⟩:=hP (l:=V.ao) (i:=i - 1) (by omega);rw [VL hu];have aa:=dF u (aSv hu);have aw:=(aSM.1 cj) (i - 1) i (by omega) ar (by omega);have bc:V.ao[i - 1]'(by omega)=u:=(aRS.1 hu).2;have bl:V.ao[i]=t:=(aRS.1 aE).2;rw [bc,bl] at aw;exact ⟨aw.1,κ.2.1,by omega⟩
 jf:=λ i t aE=>by
  rw [aWN];intro hc;rw [aU6] at hc;unfold ah.jf at hc;obtain ⟨s,fh,gD⟩:=aSz.1 hc;obtain ⟨j,ay⟩:=aUo.1 fh;rw [aSy] at ay;split at ay
  ·rename_i hQ
   have ar:=(aRS.1 aE).1;have aw:=(aSM.1 cj) j i (by omega) ar hQ;have bc:V.ao[j]'(by omega)=s:=(aRS.1 ay).2;have bl:V.ao[i]=t:=(aRS.1 aE).2;rw [bc,bl] at aw;exact aw.2 gD
  ·exact nomatch ay
 next:=by rw [hn];exact bB.next
 now:=b7
end
section
def alB (l:List bf) (x:Int):Option bf:=l.find? λ t=>t.id == x
def aPR (l:List bf) (x:Int):Value:= .tuple #[.agg ((alB l x).getD default).cells.toArray, .bool (alB l x).isSome]
def MU (l:List Int):Bool:=(List.range (l.length - 1)).all λ i=> !decide (l.getD (i+1) 0<l.getD i 0)
theorem aC5 {l:List Int} (h:∀ i,i+1<l.length→¬ l.getD (i+1) 0<l.getD i 0):MU l=true:=by
 unfold MU;rw [aSL];intro i ar;have:=h i (by have:=aSB.1 ar;omega);simpa using this
def aPA {α:Type} (l:List α) (k:Nat):List α:=l.mapIdx λ i x=>if i<k∨l.length - k≤i then (l[l.length - 1 - i]?).getD x else x
end
section
def AP (W:ah) (l:List di):List bf:=(List.range W.ao.length).map (xy W.ao (fD W l))
structure J3 (W:ah) (l:List di):Prop where
 jN:Good W
 bN:gH W l= {W with ao:=(AP W l).filter λ t=>decide (0<t.c7)}
 bB:s8 W l=((AP W l).filter λ t=> !decide (0<t.c7)).map bf.id
 avx:∀ k,0≤(fD W l).getD k 0
 aB:(fD W l).length=W.ao.length
theorem alw {W:ah} {l:List di} (h:mh W l=0):J3 W l :=
 ⟨Good.A8 (OT h).1,(Zf h rfl).1,(Zf h rfl).2,λ k=>((Wl h).2 k).1,(Wl h).1⟩
theorem QL (W:ah) (l:List di):(AP W l).length=W.ao.length:=by simp [AP]
theorem QK {W:ah} {l:List di} {k:Nat} {t:bf} (h:W.ao[k]? =some t):(AP W l)[k]? =some {t with c7:=t.c7 - (fD W l).getD k 0}:=by
 have av:=(aRS.1 h).1;unfold AP;rw [aSa,aVi av,aTr];unfold xy;rw [VL h]
theorem axH {W:ah} {l:List di} {x:bf} (h:x∈AP W l):∃ (k:Nat) (t:bf),W.ao[k]? =some t∧x= {t with c7:=t.c7 - (fD W l).getD k 0}:=by
 obtain ⟨k,av⟩:=aUo.1 h;have bC:=(aRS.1 av).1;rw [QL] at bC;obtain ⟨t,aE⟩:=hP bC;rw [QK aE] at av;injection av with av
 exact ⟨k,t,aE,av.symm⟩
theorem J3.It {W:ah} {l:List di} (h:J3 W l):(AP W l).Pairwise DT:=by
 rw [aSM];intro i j ar ay jG;rw [QL] at ar ay;obtain ⟨s,hs⟩:=hP ar;obtain ⟨t,aE⟩:=hP ay;have bc:=(aRS.1 (QK (l:=l) hs)).2;have bl:=(aRS.1 (QK (l:=l) aE)).2;rw [bc,bl];have:=(aSM.1 h.jN.It) i j ar ay jG;rw [(aRS.1 hs).2,(aRS.1 aE).2] at this;exact this
theorem J3.right {W:ah} {l:List di} (h:J3 W l):Good (gH W l):=by
 rw [h.bN];refine Good.ajT h.jN Z Z Z Z Z h.jN.now ?_ (h.It.filter _) λ t aE=> ?_
 ·exact aSn (aUp _ _) (by rw [QL];exact h.jN.eg)
 ·obtain ⟨aE,hp⟩:=aUb.1 aE;obtain ⟨k,s,hs,rfl⟩:=axH aE;have κ:=h.jN.each (aSv hs);have aa:=h.avx k;have aw:=aS3 hp;refine ⟨κ.1,κ.2.1,⟨κ.2.2.kind,κ.2.2.owner,κ.2.2.ground, ?_,κ.2.2.load⟩⟩;have a6:=κ.2.2.c7;show 1≤s.c7 - _∧s.c7 - _≤ah.ka s.kind;have bL:0<s.c7 - (fD W l).getD k 0:=aw;omega
theorem aC4 {l:List Int} (h:l.Pairwise (· < ·)):MU l=true:=by
 refine aC5 λ i ar=> ?_;have:=(aSM.1 h) i (i+1) (by omega) ar (by omega);rw [aRQ,aRQ,aRT ar,aRT (by omega:i<l.length)];show ¬ l[i+1]<l[i];omega
end
section
section
variable {f:aD} {a b c x y:ax} {d D:Int}
theorem aBp (hf:f.bp=0) (ha:f.ground a=true) (sO:0≤cM f a b c) (af2:0≤cM f a x c):lD f (cM f a b) c=lD f (cM f a x) c:=by
 have key:∀ t n,n∈dV c→0≤cM f a t c→((f.ground n && decide (0≤cM f a t n) && decide (cM f a t n+f.gF c=cM f a t c))=true↔∃ e,sw f a n e∧sw f a c (e+f.gF c)):=by
  intro t n hn aE;have hs:=Vy (b:=t) hf ha;have agm:=Kt hf ha aE;constructor
  ·intro h;simp only [aRY,aSj] at h;exact ⟨_,Kt hf ha h.1.2,by rw [h.2];exact agm⟩
  ·rintro ⟨e,κ,aa⟩;have he:=agm.uniq aa;have Qy:cM f a t n=e:=hs.known n e κ λ D vC=>by
    have:=(hs.oK c aE).2 D vC;have aw:=aD.Vk t (aD.Y6 hn);have av:=f.p1 (c:=c);omega
   rw [Qy,mD.ground ha κ.1,aSo (mD.qQ κ.1),aSo he.symm];rfl
 unfold lD;congr 1;apply find_congr;intro n hn;rw [aUd,key b n hn sO,key x n hn af2]
where
 find_congr {p q:ax→Bool}:∀ {l:List ax},(∀ n∈l,p n=q n)→l.find? p=l.find? q
  | [],_=>rfl
  | n::l,h=>by
   rw [List.find?_cons,List.find?_cons,h n aSe,find_congr λ m hm=>h m (aR7 _ hm)]
theorem aE5 (hf:f.bp=0) (ha:f.ground a=true) (Φ:0≤cM f a b b) (hx:0≤cM f a x x):∀ (n:Nat) (c:ax),0≤cM f a b c→0≤cM f a x c→(cM f a b c).toNat=n→fO f (cM f a b) a c=fO f (cM f a x) a c:=by
 have Tg:=Ku hf ha Φ;have Th:=Ku hf ha hx;intro n;induction n using Nat.strongRecOn with
 | ind n bF =>
  intro c κ aa hn;by_cases e:c=a
  ·subst e;rw [Br Tg,Br Th]
  ·have hp:=aBp (b:=b) (x:=x) hf ha κ aa;obtain ⟨eR,fl,mn,xO⟩:=Tg.prev κ e;obtain ⟨lF,mU,vZ,Iu⟩:=Th.prev aa e;have av:=f.p1 (c:=c);rw [Bs Tg κ e,Bs Th aa e,← hp];congr 1;exact bF _ (by omega) _ mn (by rw [hp];exact vZ) Z
theorem aE6 {aA:ax→Int} (h:oD f a aA):∀ (n:Nat) (c:ax),0≤aA c→(aA c).toNat=n→∀ i,(ar:i<(fO f aA a c).length)→(fO f aA a c).drop i=fO f aA a ((fO f aA a c)[i])∧mD f ((fO f aA a c)[i]) c (aA c - aA ((fO f aA a c)[i])):=by
 intro n;induction n using Nat.strongRecOn with
 | ind n bF =>
  intro c hc hn i ar;by_cases e:c=a
  ·subst e;rw [Br h] at ar;have:i=0:=by simpa using ar
   subst this;simp only [Br h,aUl,aUS];exact ⟨by first | trivial | rfl,by rw [aVC];exact .start rfl⟩
  ·have iu:=Bs h hc e;obtain ⟨eR,fl,mn,xO⟩:=h.prev hc e;have av:=f.p1 (c:=c);cases i with
   | zero =>
    have e0:(fO f aA a c)[0]=c:=by simp only [iu,aUS]
    rw [e0,aUl,aVC];exact ⟨Z, .start Z⟩
   | succ i =>
    have E2:i<(fO f aA a (lD f aA c)).length:=by rw [iu] at ar;simpa using ar
    obtain ⟨ec,eD⟩:=bF _ (by omega) _ mn rfl i E2;have bc:(fO f aA a c)[i+1]=(fO f aA a (lD f aA c))[i]:=by simp only [iu,aUT]
    rw [bc];refine ⟨by rw [← ec,iu,aWz], ?_⟩;have r:mD f _ c (aA (lD f aA c) - aA ((fO f aA a (lD f aA c))[i])+f.gF c):= .step eD (aD.Mu.2 ⟨aD.Y6 eR,h.gr c hc⟩);rw [show aA c - aA ((fO f aA a (lD f aA c))[i])=aA (lD f aA c) - aA ((fO f aA a (lD f aA c))[i])+f.gF c by omega];exact r
theorem aE9 (he:gZ f a b=0) {n:Nat} (hn:n<(fR f a b).length) {x:ax} (hx:(fR f a b).getD n default=x):gZ f a x=0∧gZ f x b=0∧fR f a x=(fR f a b).take (n+1)∧oO f a x+oO f x b=oO f a b:=by
 obtain ⟨hf,ha,Φ,aG,av,hp⟩:=Vp he;have F:=Ku hf ha aG;have aB:(fR f a b).length=(fO f (cM f a b) a b).length:=by rw [hp,aT3]
 have ar:(fO f (cM f a b) a b).length - 1 - n<(fO f (cM f a b) a b).length:=by omega
 obtain ⟨s1,s2⟩:=aE6 F _ b aG rfl _ ar;have ex:(fO f (cM f a b) a b)[(fO f (cM f a b) a b).length - 1 - n]=x:=by
  rw [nu hn] at hx;rw [← hx];simp only [hp,aWr]
 rw [ex] at s1 s2;have LI:x∈fO f (cM f a b) a b:=by rw [← ex];exact aS0 ar
 obtain ⟨eL,e9,iN⟩:=aE4 F _ b aG rfl x LI;have agn:=Kt hf ha eL;have bc:=afa hf ha agn;have jb:0≤cM f a x x:=by rw [bc];exact eL
 have AI:=Vq hf ha iN jb;have r2:=auf hf iN s2;have ahs:=Vq hf iN Φ r2.1;refine ⟨AI,ahs, ?_, ?_⟩
 ·have QE:fR f a x=(fO f (cM f a x) a x).reverse:=by unfold fR;rw [aR5 AI]
  rw [QE,← aE5 hf ha aG jb _ x eL jb rfl,← s1,hp,List.reverse_drop,aB.symm.trans aB];congr 1;have:(fO f (cM f a b) a b).reverse.length=(fO f (cM f a b) a b).length:=aT3;omega
 ·have ec:oO f a x=cM f a x x:=by unfold oO;rw [aR5 AI]
  have eD:oO f x b=cM f x b b:=by unfold oO;rw [aR5 ahs]
  rw [ec,eD,av,bc];have aw:=(Kt hf ha aG).2 _ (mD.wa agn.1 (Kt hf iN r2.1).1);omega
end
end
section
theorem alr {f:aD} {l:List dj} {T:List bf} {k:Nat} {c:ax} (h:qV f l T k=some c):
  0≤eC l (T.getD k default).id∧gZ f (T.getD k default).spot (l.getD (eC l (T.getD k default).id).toNat default).bo=0∧2≤(fR f (T.getD k default).spot (l.getD (eC l (T.getD k default).id).toNat default).bo).length∧
  c=(fR f (T.getD k default).spot (l.getD (eC l (T.getD k default).id).toNat default).bo).getD 1 default∧je T c≤0:=by
 unfold qV at h;split at h
 ·exact nomatch h
 ·split at h
  ·exact nomatch h
  ·split at h
   ·exact nomatch h
   ·split at h
    ·exact nomatch h
    ·rename_i κ aa aw a6
     injection h with h
     subst h;exact ⟨by omega,by simpa using aa,by omega,rfl,by omega⟩
theorem amt {f:aD} {a:ax} {aA:ax→Int} (h:oD f a aA) {c:ax} (hc:0≤aA c):∃ r,fO f aA a c=c::r∧(r= []↔c=a):=by
 by_cases e:c=a
 ·subst e;exact ⟨[],Br h,by simp⟩
 ·obtain ⟨eR,fl,mn,xO⟩:=h.prev hc e;refine ⟨_,Bs h hc e,⟨λ hr=> ?_,λ h=>absurd h e⟩⟩;by_cases bl:lD f aA c=a
  ·rw [bl,Br h] at hr;exact nomatch hr
  ·rw [Bs h mn bl] at hr;exact nomatch hr
theorem amu {f:aD} {a b x:ax} (he:gZ f a b=0) (hn:2≤(fR f a b).length) (hx:(fR f a b).getD 1 default=x):
  gZ f a x=0∧gZ f x b=0∧oO f a x+oO f x b=oO f a b∧a∈dV x∧f.ground x=true∧x≠a∧fR f a x= [a,x]:=by
 obtain ⟨κ,aa,aw,a6⟩:=aE9 he (n:=1) (by omega) hx;obtain ⟨hf,ha,Φ,aG,av,hp⟩:=Vp he;obtain ⟨_,_,auN,jb,_,QE⟩:=Vp κ;have F:=Ku hf ha aG;have N8:=Ku hf ha jb;have aB:(fR f a x).length=2:=by rw [aw,aRU];omega
 rw [QE,aT3] at aB;have Xp:x≠a:=by
  intro e;obtain ⟨r,bc,bl⟩:=amt N8 jb;rw [bc,bl.2 e] at aB;simp at aB
 have iu:=Bs N8 jb Xp;obtain ⟨eR,fl,mn,xO⟩:=N8.prev jb Xp;obtain ⟨r,bc,bl⟩:=amt N8 mn;rw [iu,bc] at aB;have hr:r= []:=aSq (by simpa using aB);have aha:=bl.1 hr;refine ⟨κ,aa,a6,by rw [← aha];exact eR,auN,Xp, ?_⟩;rw [QE,iu,bc,hr,aha];rfl
theorem aCR {T:List bf} {k:Nat} {c:ax} (cj:T.Pairwise DT) (av:k<T.length) (hc:je T c≤0):(T.set k ((T.getD k default).bo c)).Pairwise DT:=by
 have jO:∀ t∈T,t.spot≠c:=λ t aE e=>by have:=aAs.2 ⟨t,aE,e⟩;omega
 have agq:T.getD k default=T[k]:=by rw [aRQ,aRT av];rfl
 rw [aSM] at cj ⊢;intro i j ar ay jG;rw [aR1] at ar ay;have h:=cj i j ar ay jG;rw [List.getElem_set,List.getElem_set];split<;>split
 ·omega
 ·rename_i bc bl
  subst bc;exact ⟨by have asf:=aS4 bf.id agq;have yR:=h.1;show (T.getD k default).id<_;omega,λ e=>jO _ (aS0 ay) e.symm⟩
 ·rename_i bc bl
  subst bl;exact ⟨by have asf:=aS4 bf.id agq;have yR:=h.1;show _<(T.getD k default).id;omega,jO _ (aS0 ar)⟩
 ·exact h
theorem alp {f:aD} {l:List dj} {T:List bf} {Q:bf→Prop} (ia:∀ t c,Q t→f.ground c=true→Q (t.bo c)) (cj:T.Pairwise DT) (b6:∀ t∈T,Q t):∀ k,k≤T.length→(jS f l T k).1.Pairwise DT∧∀ t∈(jS f l T k).1,Q t
 | 0,_=>⟨cj,b6⟩
 | k+1,av=>by
  obtain ⟨ahw,Xs⟩:=alp (l:=l) ia cj b6 k (by omega);have aB:=(RV (f:=f) (l:=l) (T:=T) k).1;cases hs:qV f l (jS f l T k).1 k with
  | none=>rw [FL rfl hs];exact ⟨ahw,Xs⟩
  | some c =>
   rw [MX rfl hs];obtain ⟨d1,d2,d3,d4,d5⟩:=alr hs;obtain ⟨_,_,_,_,g,_⟩:=amu d2 d3 d4.symm;refine ⟨aCR ahw (by omega) d5,λ t aE=> ?_⟩;rcases aTA aE with aE | rfl
   ·exact Xs t aE
   ·exact ia _ _ (Xs _ (jd (by omega))) g
noncomputable def Fx (f:aD) (l:List dj) (T:List bf) (i:Nat):Option ax:=qV f l (jS f l T i).1 i
theorem aDE {T:List bf} {k:Nat} {t:bf} (h:k<T.length):(T.set k t).getD k default=t:=by rw [aRQ,aSg h];rfl
theorem aDD {T:List bf} {k i:Nat} {t:bf} (h:k≠i):(T.set k t).getD i default=T.getD i default:=by rw [aRQ,aSl h,aRQ]
theorem RU {f:aD} {l:List dj} {T:List bf}:∀ k,k≤T.length→∀ i,i<T.length→(jS f l T k).1.getD i default=if i<k then (match Fx f l T i with | some c=>(T.getD i default).bo c | none=>T.getD i default) else T.getD i default
 | 0,_,i,ar=>by rw [aR0 (by omega)];rfl
 | k+1,av,i,ar=>by
  have bF:=RU (f:=f) (l:=l) (T:=T) k (by omega);have aB:=(RV (f:=f) (l:=l) (T:=T) k).1;have pY:=bF k (by omega);rw [aR0 (by omega)] at pY;cases hs:Fx f l T k with
  | none =>
   rw [FL rfl hs,bF i ar];by_cases e:i=k
   ·subst e;rw [aR0 (by omega),aR5 (by omega),hs]
   ·by_cases bl:i<k
    ·rw [aR5 bl,aR5 (by omega)]
    ·rw [aR0 bl,aR0 (by omega)]
  | some c =>
   rw [MX rfl hs];by_cases e:i=k
   ·subst e;rw [aDE (by omega),aR5 (by omega),hs,pY]
   ·rw [aDD (λ h=>e h.symm),bF i ar];by_cases bl:i<k
    ·rw [aR5 bl,aR5 (by omega)]
    ·rw [aR0 bl,aR0 (by omega)]
theorem alo {f:aD} {l:List dj} {T:List bf}:∀ k,k≤T.length→(jS f l T k).2=((List.range k).filter λ i=>(Fx f l T i).isSome).map λ i=>(T.getD i default).id
 | 0,_=>rfl
 | k+1,av=>by
  have bF:=alo (f:=f) (l:=l) (T:=T) k (by omega);have pY:=RU (f:=f) (l:=l) (T:=T) k (by omega) k (by omega);rw [aR0 (by omega)] at pY;rw [aTs,aUf,aSi,aTj];cases hs:Fx f l T k with
  | none=>rw [FL rfl hs,bF];simp
  | some c=>rw [MX rfl hs,bF,pY];simp
theorem azL {W:ah} {l:List dj} (h:r3 W l=0):W.bp=0∧hi W l=(W.l5 l).1∧o2 W l=(W.l5 l).2:=by
 have hc:W.bp=0:=by
  apply aTi;intro hn;rw [(ajw (l:=l) hn).1] at h;exact hn h
 by_cases aB:(l.length:Int)≤200
 ·have:=Rb (l:=l) hc aB;exact ⟨hc,this.2⟩
 ·rw [(ajx (l:=l) hc (by omega)).1] at h;exact nomatch h
theorem azK {W:ah} {l:List dj} (h:r3 W l=0):
  Good (hi W l)∧(hi W l).ao.length=W.ao.length∧MU (o2 W l)=true∧hi W l= {W with ao:=(hi W l).ao}∧
  ∀ k,k<W.ao.length→((o2 W l).any (λ y=>(W.ao.getD k default).id == y)=false∧(hi W l).ao.getD k default=W.ao.getD k default)∨
   ∃ c:ax,(o2 W l).any (λ y=>(W.ao.getD k default).id == y)=true∧(hi W l).ao.getD k default=(W.ao.getD k default).bo c∧0≤eC l (W.ao.getD k default).id∧
    gZ W.field (W.ao.getD k default).spot (l.getD (eC l (W.ao.getD k default).id).toNat default).bo=0∧gZ W.field c (l.getD (eC l (W.ao.getD k default).id).toNat default).bo=0∧gZ W.field (W.ao.getD k default).spot c=0∧
    oO W.field (W.ao.getD k default).spot (l.getD (eC l (W.ao.getD k default).id).toNat default).bo=oO W.field c (l.getD (eC l (W.ao.getD k default).id).toNat default).bo+oO W.field (W.ao.getD k default).spot c∧
    (W.ao.getD k default).spot∈dV c:=by
 obtain ⟨hc,atM,atL⟩:=azL h;have bB:=Good.A8 hc;rw [atM,atL];have dF:=alp (f:=W.field) (l:=l) (T:=W.ao) (Q:=λ t=>0<t.id∧t.id<W.next∧OA W.field W.aU.length t)
  (λ t c I aO=>⟨I.1,I.2.1,⟨I.2.2.kind,I.2.2.owner,aO,I.2.2.c7,I.2.2.load⟩⟩) bB.It (λ t aE=>bB.each aE) W.ao.length (aR3 _)
 have hlen:=Ze W l;have pO:=alo (f:=W.field) (l:=l) (T:=W.ao) W.ao.length (aR3 _);have HP:=bB.It;refine ⟨Good.ajT bB Z Z Z Z Z bB.now (by rw [hlen];exact bB.eg) dF.1 dF.2,hlen, ?_,Z,λ k av=> ?_⟩
 ·show MU (jS W.field l W.ao W.ao.length).2=true;rw [pO];refine aC4 ?_;rw [List.pairwise_map];have hr:((List.range W.ao.length).filter λ i=>(Fx W.field l W.ao i).isSome).Pairwise (· < ·):=List.Pairwise.filter _ List.pairwise_lt_range;refine List.Pairwise.imp_of_mem (fun {i j} ar ay jG=> ?_) hr;have ar:=aSB.1 (aUb.1 ar).1;have ay:=aSB.1 (aUb.1 ay).1;rw [nu ar,nu ay];exact ((aSM.1 HP) i j ar ay jG).1
 ·have fL:=RU (f:=W.field) (l:=l) (T:=W.ao) W.ao.length (aR3 _) k av;rw [aR5 av] at fL;have pY:=RU (f:=W.field) (l:=l) (T:=W.ao) k (by omega) k av;rw [aR0 (by omega)] at pY;have pQ:((W.l5 l).2).any (λ y=>(W.ao.getD k default).id == y)=(Fx W.field l W.ao k).isSome:=by
   show (jS W.field l W.ao W.ao.length).2.any _=_;rw [pO,aUd,aTa];constructor
   ·rintro ⟨y,aK,e⟩;obtain ⟨i,ar,rfl⟩:=aSz.1 aK;obtain ⟨AK,E3⟩:=aUb.1 ar;have AK:=aSB.1 AK;have e:(W.ao.getD k default).id=(W.ao.getD i default).id:=by simpa using e
    have:i=k:=by
     rw [nu av,nu AK] at e;rcases aWI i k with q | q | q
     ·have:=((aSM.1 HP) i k AK av q).1;omega
     ·exact q
     ·have:=((aSM.1 HP) k i av AK q).1;omega
    rw [← this];exact E3
   ·intro hs;exact ⟨_,aSz.2 ⟨k,aUb.2 ⟨aSB.2 av,hs⟩,Z⟩,by simp⟩
  cases hs:Fx W.field l W.ao k with
  | none =>
   rw [hs] at fL pQ;exact .inl ⟨pQ,fL⟩
  | some c =>
   rw [hs] at fL pQ;obtain ⟨d1,d2,d3,d4,d5⟩:=alr hs;rw [pY] at d1 d2 d3 d4;obtain ⟨f1,f2,f3,f4,f5,f6,f7⟩:=amu d2 d3 d4.symm;exact .inr ⟨c,pQ,fL,d1,d2,f2,f1,by omega,f4⟩
end
section
structure aL where
 by_:Int
 kind:Int
 aQ:Int
 spot:ax
 what:Int
 deriving DecidableEq,Inhabited
namespace aL
def cells (a:aL):List Value:= [.int .i64 (a.by_), .int .i64 (a.kind), .int .i64 (a.aQ), .int .i64 (a.spot.x), .int .i64 (a.spot.y), .int .i64 (a.what)]
def ok (a:aL):Prop:=(Lit.int .i64 a.by_).wf=true∧(Lit.int .i64 a.kind).wf=true∧(Lit.int .i64 a.aQ).wf=true∧(Lit.int .i64 a.spot.x).wf=true∧(Lit.int .i64 a.spot.y).wf=true∧(Lit.int .i64 a.what).wf=true
def raw (j:Nat) (u:Value):Prop:=match j with
 | 0=>∃ n:Int,u= .int .i64 n
 | 1=>∃ n:Int,u= .int .i64 n
 | 2=>∃ n:Int,u= .int .i64 n
 | 3=>∃ n:Int,u= .int .i64 n
 | 4=>∃ n:Int,u= .int .i64 n
 | 5=>∃ n:Int,u= .int .i64 n
 | _=>True
theorem rr (a:aL):∀ (j:Nat) u,a.cells[j]? =some u→raw j u:=by
 intro j u hu
 match j,hu with
 | 0,hu=>exact ⟨_,(aRR hu).symm⟩
 | 1,hu=>exact ⟨_,(aRR hu).symm⟩
 | 2,hu=>exact ⟨_,(aRR hu).symm⟩
 | 3,hu=>exact ⟨_,(aRR hu).symm⟩
 | 4,hu=>exact ⟨_,(aRR hu).symm⟩
 | 5,hu=>exact ⟨_,(aRR hu).symm⟩
 | j+6,hu=>exact trivial
theorem rq (a:aL):∀ u∈a.cells,u.oneCell'=true:=by
 intro u hu;unfold cells at hu;simp only [aSc,aTg,aTX] at hu;rcases hu with rfl | rfl | rfl | rfl | rfl | rfl<;>rfl
def rep:τ aL:=τ.flat 6 cells ok raw (λ _=>rfl) rq rr
theorem plain:rep.Plain:=τ.oP
def zero:Value:= .agg #[.int .i64 0, .int .i64 0, .int .i64 0, .int .i64 0, .int .i64 0, .int .i64 0]
theorem iE:∀ (j:Nat) u,zero.cells[j]? =some u→rep.raw j u:=by
 intro j u hu;have hu:(#[(.int .i64 0:Value),(.int .i64 0:Value),(.int .i64 0:Value),(.int .i64 0:Value),(.int .i64 0:Value),(.int .i64 0:Value)]:Array Value)[j]? =some u:=hu
 match j,hu with
 | 0,hu=>exact ⟨_,(aRR hu).symm⟩
 | 1,hu=>exact ⟨_,(aRR hu).symm⟩
 | 2,hu=>exact ⟨_,(aRR hu).symm⟩
 | 3,hu=>exact ⟨_,(aRR hu).symm⟩
 | 4,hu=>exact ⟨_,(aRR hu).symm⟩
 | 5,hu=>exact ⟨_,(aRR hu).symm⟩
 | j+6,hu=>cases hu
theorem info:(prog.info? 51).map (λ i=>(i.zero,i.size,i.bytes))=some (some zero,6,48):=by kernel_rfl
theorem mF {by_:Nat} {w:World} {A:Option Addr} {c:Nat} {l:List aL} (h:rep.aJ by_ w A c l):∀ a∈l,a.ok:=τ.aJ.yx (R:=rep) (Q:=ok) (fun {w cs a} (h:rep.has w cs a)=>(show cs=a.cells∧a.ok from h).2) h
def sh:gM:=(.cons (.int .i64) (.cons (.int .i64) (.cons (.int .i64) (.cons (.cons (.int .i64) (.cons (.int .i64) .nil)) (.cons (.int .i64) .nil)))))
end aL
end
section
theorem aoB:Jy prog aL.cells 51 :=by
 intro a b w;obtain ⟨a0,cf,a2,⟨a3,a4⟩,a5⟩:=a;obtain ⟨J8,kH,eZ,⟨gT,Ad⟩,J9⟩:=b;simp only [aL.cells,aL.mk.injEq,ax.mk.injEq];constructor
 ·go_simp
  repeat' split
  all_goals simp_all
 ·go_simp
  repeat' split
  all_goals simp_all
theorem aoA:(prog).eqGuardType (prog).depth 51 =false:=by kernel_rfl
theorem K6 {w:World} {cs:List Value} {a:aL} (h:aL.rep.has w cs a):cs=a.cells:=aTQ (show cs=a.cells∧a.ok from h)
def aL.bare (o:aL):aL:=⟨o.by_,o.kind,if o.kind=5 then 0 else o.aQ,if o.kind≠2∧o.kind≠3 then ⟨0,0⟩ else o.spot,if o.kind≠1∧o.kind≠5 then 0 else o.what⟩
def aL.Dd (o:aL):Bool:= !cO o.by_ 0 7 || !cO o.kind 1 5 || !cO o.aQ 0 1000000 || !cO o.spot.x (-1000) 1000 || !cO o.spot.y (-1000) 1000 || !cO o.what 0 1000000
def aL.bp (o:aL):Int:=if o.Dd=true then 1 else if (!decide (o.bare=o))=true then 4 else 0
theorem aL.Ur {o:aL} (h:o.Dd=true):o.bp=1:=by unfold aL.bp;rw [aR5 h]
theorem aL.aqM {o:aL} (h:o.Dd=false) (aa:(!decide (o.bare=o))=true):o.bp=4:=by unfold aL.bp;rw [aR0 (by rw [h];decide),aR5 aa]
theorem aL.aqN {o:aL} (h:o.Dd=false) (aa:(!decide (o.bare=o))=false):o.bp=0:=by unfold aL.bp;rw [aR0 (by rw [h];decide),aR0 (by rw [aa];decide)]
def hC (l:List aL):Int:=if 100<l.length then 2 else match l.find? (λ o=>o.bp != 0) with | some o=>o.bp | none=>0
theorem aAO {l:List aL} (h:100<l.length):hC l=2:=by unfold hC;rw [aR5 h]
theorem aAP {l:List aL} (h:l.length≤100) (aO:∀ i,i<l.length→(l.getD i default).bp=0):hC l=0:=by
 unfold hC;rw [aR0 (by omega)];have:l.find? (λ o=>o.bp != 0)=none:=aTe.2 λ x hx=>by
  obtain ⟨i,ar,rfl⟩:=aSP.1 hx;have:=aO i ar;rw [nu ar] at this;simp [this]
 rw [this]
theorem aAN {l:List aL} {k:Nat} (h:l.length≤100) (av:k<l.length) (aO:∀ i,i<k→(l.getD i default).bp=0) (Φ:¬ (l.getD k default).bp=0):hC l=(l.getD k default).bp:=by
 unfold hC;rw [aR0 (by omega)];have:l.find? (λ o=>o.bp != 0)=some (l.getD k default):=by
  rw [aUr];refine ⟨by simpa using Φ,k,av,(nu av).symm,λ j ay=> ?_⟩;have:=aO j ay;rw [nu (by omega)] at this;simp [this]
 rw [this]
theorem Io (n lo ar:Int) (w:World):
  Calls prog 145 #[.int .i64 n, .int .i64 lo, .int .i64 ar] w (λ e w'=>e= .returned (.bool (cO n lo ar))∧Ext w w'):=by
 refine cd (n:=15) func145 Z Z Z ?_;refine aj<|va Z<|ai<|aj<|vm Z<|vm Z<|J (j3 Z Z)<|vm Z<|aT Z Z Z Z (λ hc=>aH Z) Z<|aT Z Z Z Z (λ hc=>aH Z) Z<|aT Z Z Z Z (λ hc=>ble (gt hc Z) (gt hc Z)) Z<|J (dH Z Z Z Z)<|va Z<|ai<|rt<|a8 (.tmp Z .nil)<| ?_;exact ⟨Z,(Ext.bI w)⟩
theorem aAr (o:aL) (w:World):
  Calls prog 146 #[.agg #[.int .i64 o.by_, .int .i64 o.kind, .int .i64 o.aQ, .int .i64 o.spot.x, .int .i64 o.spot.y, .int .i64 o.what]] w (λ e w'=>e= .returned (.agg (aL.bare o).cells.toArray)∧Ext w w'):=by
 refine cd (n:=27) func146 Z Z Z ?_;refine aj<|cw Z Z Z Z λ cI bJ a7 dY ab=> ?_;have:=a7.size;have bk:=γ (Ext.bI w) a7;have ed:=ab.lt;refine al Z Pq Z Z λ er cu bj ht ae=> ?_;have:=bj.size;have bK:=γ bk bj;have hk:=ae.lt;refine ai<|az<|aj<|J (au pL Z)<| ?_;have ab:=ab.later bj;refine J (ak Z (ab.one ba Z))<|J (beq Z Z)<|ai<| ?_;refine jA Z (λ ir=> ?_) (λ ir=> ?_)
 ·refine rg<|J (au Cq Z)<|st (new:= [.int .i64 o.by_, .int .i64 o.kind, .int .i64 0, .int .i64 o.spot.x, .int .i64 o.spot.y, .int .i64 o.what]) Z Z ab Z dr Z Z Z λ wh p3 ab=> ?_;have:=p3.size;have jk:=Ext.mod bK p3 bs;refine ai<|az<|aj<|J (au pL Z)<|J (ak Z (ab.one ba Z))<|J (bne Z Z)<|vm Z<|aT Z Z Z Z (λ hc=>au pL Z) Z<|aT Z Z Z Z (λ hc=>ak (gt hc Z) (ab.one ba Z)) Z<|aT Z Z Z Z (λ hc=>bne (gt hc Z) Z) Z<|J (dH Z Z Z Z)<|ai<| ?_;refine dE Z (λ AF=> ?_) (λ AF=> ?_)
  ·simp only [cy] at AF;refine rg<|J (v:= .agg #[.int .i64 0, .int .i64 0]) (cE Z (by kernel_rfl))<|J (au Cr Z)<|st (new:= [.int .i64 o.by_, .int .i64 o.kind, .int .i64 0, .int .i64 0, .int .i64 0, .int .i64 o.what]) Z Z ab Z bT Z Z Z λ zz p4 ab=> ?_;have:=p4.size;have kC:=Ext.mod jk p4 bs;refine ai<|az<|aj<|J (au pL Z)<|J (ak Z (ab.one ba Z))<|J (bne Z Z)<|vm Z<|aT Z Z Z Z (λ hc=>au pL Z) Z<|aT Z Z Z Z (λ hc=>ak (gt hc Z) (ab.one ba Z)) Z<|aT Z Z Z Z (λ hc=>bne (gt hc Z) Z) Z<|J (dH Z Z Z Z)<|ai<| ?_;refine dE Z (λ sM=> ?_) (λ sM=> ?_)
   ·simp only [cy] at sM;refine rg<|J (au Cs Z)<|st (new:= [.int .i64 o.by_, .int .i64 o.kind, .int .i64 0, .int .i64 0, .int .i64 0, .int .i64 0]) Z Z ab Z dr Z Z Z λ Dw h2 ab=> ?_;have:=h2.size;have sk:=Ext.mod kC h2 bs;refine ai<|aj<|J (ak Z (ab.all iZ fC))<| ?_;have ae:=ae.mod p3 aN;have ae:=ae.mod p4 aN;have ae:=ae.mod h2 aN;refine st (new:= [.int .i64 o.by_, .int .i64 o.kind, .int .i64 0, .int .i64 0, .int .i64 0, .int .i64 0]) Z Z ae Z fC Z Z Z λ Bn xH ae=> ?_;have:=xH.size;have pb:=Ext.mod sk xH bs;refine ai<|rt<|a8 (.cell Z (ae.all iZ fC) .nil)<| ?_;exact ⟨by rw [show aL.bare o=(⟨o.by_,o.kind,0,⟨0,0⟩,0⟩:aL) from by unfold aL.bare;congr 1<;>(first | rfl | (split<;>first | rfl | omega))];rfl,pb⟩
   ·simp only [cy] at sM;refine bt<|aj<|J (ak Z (ab.all iZ fC))<| ?_;have ae:=ae.mod p3 aN;have ae:=ae.mod p4 aN;refine st (new:= [.int .i64 o.by_, .int .i64 o.kind, .int .i64 0, .int .i64 0, .int .i64 0, .int .i64 o.what]) Z Z ae Z fC Z Z Z λ FU kb ae=> ?_;have:=kb.size;have q4:=Ext.mod kC kb bs;refine ai<|rt<|a8 (.cell Z (ae.all iZ fC) .nil)<| ?_;exact ⟨by rw [show aL.bare o=(⟨o.by_,o.kind,0,⟨0,0⟩,o.what⟩:aL) from by unfold aL.bare;congr 1<;>(first | rfl | (split<;>first | rfl | omega))];rfl,q4⟩
  ·simp only [cy] at AF;refine bt<|az<|aj<|J (au pL Z)<|J (ak Z (ab.one ba Z))<|J (bne Z Z)<|vm Z<|aT Z Z Z Z (λ hc=>au pL Z) Z<|aT Z Z Z Z (λ hc=>ak (gt hc Z) (ab.one ba Z)) Z<|aT Z Z Z Z (λ hc=>bne (gt hc Z) Z) Z<|J (dH Z Z Z Z)<|ai<| ?_;refine dE Z (λ rJ=> ?_) (λ rJ=> ?_)
   ·simp only [cy] at rJ;refine rg<|J (au Cs Z)<|st (new:= [.int .i64 o.by_, .int .i64 o.kind, .int .i64 0, .int .i64 o.spot.x, .int .i64 o.spot.y, .int .i64 0]) Z Z ab Z dr Z Z Z λ uM k8 ab=> ?_;have:=k8.size;have ll:=Ext.mod jk k8 bs;refine ai<|aj<|J (ak Z (ab.all iZ fC))<| ?_;have ae:=ae.mod p3 aN;have ae:=ae.mod k8 aN;refine st (new:= [.int .i64 o.by_, .int .i64 o.kind, .int .i64 0, .int .i64 o.spot.x, .int .i64 o.spot.y, .int .i64 0]) Z Z ae Z fC Z Z Z λ wk l1 ae=> ?_;have:=l1.size;have jm:=Ext.mod ll l1 bs;refine ai<|rt<|a8 (.cell Z (ae.all iZ fC) .nil)<| ?_;exact ⟨by rw [show aL.bare o=(⟨o.by_,o.kind,0,⟨o.spot.x,o.spot.y⟩,0⟩:aL) from by unfold aL.bare;congr 1<;>(first | rfl | (split<;>first | rfl | omega))];rfl,jm⟩
   ·simp only [cy] at rJ;refine bt<|aj<|J (ak Z (ab.all iZ fC))<| ?_;have ae:=ae.mod p3 aN;refine st (new:= [.int .i64 o.by_, .int .i64 o.kind, .int .i64 0, .int .i64 o.spot.x, .int .i64 o.spot.y, .int .i64 o.what]) Z Z ae Z fC Z Z Z λ FV Ft ae=> ?_;have:=Ft.size;have tz:=Ext.mod jk Ft bs;refine ai<|rt<|a8 (.cell Z (ae.all iZ fC) .nil)<| ?_;exact ⟨by rw [show aL.bare o=(⟨o.by_,o.kind,0,⟨o.spot.x,o.spot.y⟩,o.what⟩:aL) from by unfold aL.bare;congr 1<;>(first | rfl | (split<;>first | rfl | omega))];rfl,tz⟩
 ·refine bt<|az<|aj<|J (au pL Z)<|J (ak Z (ab.one ba Z))<|J (bne Z Z)<|vm Z<|aT Z Z Z Z (λ hc=>au pL Z) Z<|aT Z Z Z Z (λ hc=>ak (gt hc Z) (ab.one ba Z)) Z<|aT Z Z Z Z (λ hc=>bne (gt hc Z) Z) Z<|J (dH Z Z Z Z)<|ai<| ?_;refine dE Z (λ xm=> ?_) (λ xm=> ?_)
  ·simp only [cy] at xm;refine rg<|J (v:= .agg #[.int .i64 0, .int .i64 0]) (cE Z (by kernel_rfl))<|J (au Cr Z)<|st (new:= [.int .i64 o.by_, .int .i64 o.kind, .int .i64 o.aQ, .int .i64 0, .int .i64 0, .int .i64 o.what]) Z Z ab Z bT Z Z Z λ FW gQ ab=> ?_;have:=gQ.size;have ox:=Ext.mod bK gQ bs;refine ai<|az<|aj<|J (au pL Z)<|J (ak Z (ab.one ba Z))<|J (bne Z Z)<|vm Z<|aT Z Z Z Z (λ hc=>au pL Z) Z<|aT Z Z Z Z (λ hc=>ak (gt hc Z) (ab.one ba Z)) Z<|aT Z Z Z Z (λ hc=>bne (gt hc Z) Z) Z<|J (dH Z Z Z Z)<|ai<| ?_;refine dE Z (λ KU=> ?_) (λ KU=> ?_)
   ·simp only [cy] at KU;refine rg<|J (au Cs Z)<|st (new:= [.int .i64 o.by_, .int .i64 o.kind, .int .i64 o.aQ, .int .i64 0, .int .i64 0, .int .i64 0]) Z Z ab Z dr Z Z Z λ qd k9 ab=> ?_;have:=k9.size;have hI:=Ext.mod ox k9 bs;refine ai<|aj<|J (ak Z (ab.all iZ fC))<| ?_;have ae:=ae.mod gQ aN;have ae:=ae.mod k9 aN;refine st (new:= [.int .i64 o.by_, .int .i64 o.kind, .int .i64 o.aQ, .int .i64 0, .int .i64 0, .int .i64 0]) Z Z ae Z fC Z Z Z λ Ng y_ ae=> ?_;have:=y_.size;have sq:=Ext.mod hI y_ bs;refine ai<|rt<|a8 (.cell Z (ae.all iZ fC) .nil)<| ?_;exact ⟨by rw [show aL.bare o=(⟨o.by_,o.kind,o.aQ,⟨0,0⟩,0⟩:aL) from by unfold aL.bare;congr 1<;>(first | rfl | (split<;>first | rfl | omega))];rfl,sq⟩
   ·simp only [cy] at KU;refine bt<|aj<|J (ak Z (ab.all iZ fC))<| ?_;have ae:=ae.mod gQ aN;refine st (new:= [.int .i64 o.by_, .int .i64 o.kind, .int .i64 o.aQ, .int .i64 0, .int .i64 0, .int .i64 o.what]) Z Z ae Z fC Z Z Z λ IZ X4 ae=> ?_;have:=X4.size;have ql:=Ext.mod ox X4 bs;refine ai<|rt<|a8 (.cell Z (ae.all iZ fC) .nil)<| ?_;exact ⟨by rw [show aL.bare o=(⟨o.by_,o.kind,o.aQ,⟨0,0⟩,o.what⟩:aL) from by unfold aL.bare;congr 1<;>(first | rfl | (split<;>first | rfl | omega))];rfl,ql⟩
  ·simp only [cy] at xm;refine bt<|az<|aj<|J (au pL Z)<|J (ak Z (ab.one ba Z))<|J (bne Z Z)<|vm Z<|aT Z Z Z Z (λ hc=>au pL Z) Z<|aT Z Z Z Z (λ hc=>ak (gt hc Z) (ab.one ba Z)) Z<|aT Z Z Z Z (λ hc=>bne (gt hc Z) Z) Z<|J (dH Z Z Z Z)<|ai<| ?_;refine dE Z (λ KW=> ?_) (λ KW=> ?_)
   ·simp only [cy] at KW;refine rg<|J (au Cs Z)<|st (new:= [.int .i64 o.by_, .int .i64 o.kind, .int .i64 o.aQ, .int .i64 o.spot.x, .int .i64 o.spot.y, .int .i64 0]) Z Z ab Z dr Z Z Z λ Ni kq ab=> ?_;have:=kq.size;have x9:=Ext.mod bK kq bs;refine ai<|aj<|J (ak Z (ab.all iZ fC))<| ?_;have ae:=ae.mod kq aN;refine st (new:= [.int .i64 o.by_, .int .i64 o.kind, .int .i64 o.aQ, .int .i64 o.spot.x, .int .i64 o.spot.y, .int .i64 0]) Z Z ae Z fC Z Z Z λ I0 p6 ae=> ?_;have:=p6.size;have ss:=Ext.mod x9 p6 bs;refine ai<|rt<|a8 (.cell Z (ae.all iZ fC) .nil)<| ?_;exact ⟨by rw [show aL.bare o=(⟨o.by_,o.kind,o.aQ,⟨o.spot.x,o.spot.y⟩,0⟩:aL) from by unfold aL.bare;congr 1<;>(first | rfl | (split<;>first | rfl | omega))];rfl,ss⟩
   ·simp only [cy] at KW;refine bt<|aj<|J (ak Z (ab.all iZ fC))<|st (new:= [.int .i64 o.by_, .int .i64 o.kind, .int .i64 o.aQ, .int .i64 o.spot.x, .int .i64 o.spot.y, .int .i64 o.what]) Z Z ae Z fC Z Z Z λ amq ajt ae=> ?_;have:=ajt.size;have NI:=Ext.mod bK ajt bs;refine ai<|rt<|a8 (.cell Z (ae.all iZ fC) .nil)<| ?_;exact ⟨by rw [show aL.bare o=(⟨o.by_,o.kind,o.aQ,⟨o.spot.x,o.spot.y⟩,o.what⟩:aL) from by unfold aL.bare;congr 1<;>(first | rfl | (split<;>first | rfl | omega))];rfl,NI⟩
theorem Yi (o:aL) (w:World):
  Calls prog 104 #[.agg #[.int .i64 o.by_, .int .i64 o.kind, .int .i64 o.aQ, .int .i64 o.spot.x, .int .i64 o.spot.y, .int .i64 o.what]] w (λ e w'=>e= .returned (.int .i64 o.bp)∧Ext w w'):=by
 refine cd (n:=43) func104 Z Z Z ?_;refine aj<|cw Z Z Z Z λ cI bJ a7 dY ab=> ?_;have:=a7.size;have bk:=γ (Ext.bI w) a7;have ed:=ab.lt;refine va Z<|ai<|az<|aj<|J (au tW Z)<|J (ak Z (ab.one ba Z))<|ca G6 Z Z ((Io o.by_ 0 7 _).mono ?_);rintro e er ⟨rfl,cD⟩;refine ⟨_,Z, ?_⟩;have:=cD.size;have bK:=γ bk cD;refine J (eg Z)<|vm Z<|aT Z Z Z Z (λ hc=>au pL Z) Z<| ?_;have ab:=ab.later cD;refine aT Z Z Z Z (λ hc=>ak (gt hc Z) (ab.one ba Z)) Z<|o9 Z Z Z Z G6 (λ hc=>e7 (gt hc Z) (e7 Z (e7 Z Z))) (λ hc=>Io o.kind 1 5 _) Z λ wg mX=> ?_;have:=mX.size;have kB:=γ bK mX;refine aT Z Z Z Z (λ hc=>eg (gt hc Z)) Z<|J (eE Z Z Z Z)<|vm Z<|aT Z Z Z Z (λ hc=>au Cq Z) Z<| ?_;have ab:=ab.later mX;refine aT Z Z Z Z (λ hc=>ak (gt hc Z) (ab.one ba Z)) Z<|o9 Z Z Z Z G6 (λ hc=>e7 (gt hc Z) (e7 Z (e7 Z Z))) (λ hc=>Io o.aQ 0 1000000 _) Z λ IM qg=> ?_;have:=qg.size;have wx:=γ kB qg;refine aT Z Z Z Z (λ hc=>eg (gt hc Z)) Z<|J (eE Z Z Z Z)<|vm Z<|aT Z Z Z Z (λ hc=>au Cr Z) Z<|aT Z Z Z Z (λ hc=>au iJ (gt hc Z)) Z<| ?_;have ab:=ab.later qg;refine aT Z Z Z Z (λ hc=>ak (gt hc Z) (ab.one ba Z)) Z<|o9 Z Z Z Z G6 (λ hc=>e7 (gt hc Z) (e7 Z (e7 Z Z))) (λ hc=>Io o.spot.x (-1000) 1000 _) Z λ M9 l7=> ?_;have:=l7.size;have tv:=γ wx l7;refine aT Z Z Z Z (λ hc=>eg (gt hc Z)) Z<|J (eE Z Z Z Z)<|vm Z<|aT Z Z Z Z (λ hc=>au Cr Z) Z<|aT Z Z Z Z (λ hc=>au iK (gt hc Z)) Z<| ?_;have ab:=ab.later l7;refine aT Z Z Z Z (λ hc=>ak (gt hc Z) (ab.one ba Z)) Z<|o9 Z Z Z Z G6 (λ hc=>e7 (gt hc Z) (e7 Z (e7 Z Z))) (λ hc=>Io o.spot.y (-1000) 1000 _) Z λ wj hE=> ?_;have:=hE.size;have jW:=γ tv hE;refine aT Z Z Z Z (λ hc=>eg (gt hc Z)) Z<|J (eE Z Z Z Z)<|vm Z<|aT Z Z Z Z (λ hc=>au Cs Z) Z<| ?_;have ab:=ab.later hE;refine aT Z Z Z Z (λ hc=>ak (gt hc Z) (ab.one ba Z)) Z<|o9 Z Z Z Z G6 (λ hc=>e7 (gt hc Z) (e7 Z (e7 Z Z))) (λ hc=>Io o.what 0 1000000 _) Z λ Bl dO=> ?_;have:=dO.size;have ke:=γ jW dO;refine aT Z Z Z Z (λ hc=>eg (gt hc Z)) Z<|J (eE Z Z Z Z)<|ai<| ?_;refine dE Z (λ rI=> ?_) (λ rI=> ?_)
 ·refine aj<|va Z<|ai<|rt<|bO<|a8 (.tmp Z .nil)<| ?_;exact ⟨by rw [aL.Ur rI];rfl,ke⟩
 ·refine bt<|az<|az<| ?_;refine rd [(0,0),(1,0),(2,0)] [0,1,2,3] (by kernel_rfl) (by kernel_rfl) ?_;have ab:=ab.later dO;refine bA Z (λ _ x=>ak Z ((ab.later x).all iZ fC))<|pN Z Z asC Z (λ _ x=>aAr o _) Z<|bA Z (λ _ x=>ak Z ((ab.later x).all iZ fC))<|aq Z (λ _=>OV aoB aoA (p:=aL.bare o) (q:=o) Z Z)<|fn λ M_ nQ=> ?_;have:=nQ.size;have wy:=γ ke nQ;refine aV<| ?_;refine dE Z (λ KQ=> ?_) (λ KQ=> ?_)
  ·refine aj<|va Z<|ai<|rt<|bO<|a8 (.tmp Z .nil)<| ?_;exact ⟨by rw [aL.aqM rI KQ];rfl,wy⟩
  ·refine bt<|aj<|va Z<|ai<|rt<|a8 (.tmp Z .nil)<| ?_;exact ⟨by rw [aL.aqN rI KQ];rfl,wy⟩
theorem Yh (A:Option Addr) (c:Nat) (l:List aL) (w:World) (aB:aL.rep.aJ 48 w A c l):
  Calls prog 87 #[.slice A l.length c] w (λ e w'=>e= .returned (.int .i64 (hC l))∧Ext w w'):=by
 have oT:=aB.dU;refine cd (n:=21) func87 Z Z Z ?_;refine aj<|va Z<|ai<|az<|aj<|vm Z<|J (cm underlying44 Z)<|J (h0 Z Z)<|ai<| ?_;refine en Z (λ j_=> ?_) (λ j_=> ?_)
 ·refine aj<|va Z<|ai<|rt<|bO<|a8 (.tmp Z .nil)<| ?_;exact ⟨by rw [aAO (by omega)];rfl,(Ext.bI w)⟩
 ·refine bt<|az<|aj<|vm Z<|J (cm underlying44 Z)<|vm Z<|ai<|bS<| ?_;refine fk (λ cn cl a1=>∃ k:Nat,cl= [(9, .slice A l.length c),(10, .int .i64 (l.length:Int)),(11, .int .i64 (k:Int))]∧cn=l.length - k∧Ext w a1∧(k≤l.length)∧(∀ i,i<k→(l.getD i default).bp=0)) _ _ ⟨0,Z,Z,(Ext.bI w),by omega,λ i ar=>by omega⟩ (.cons Z (.cons Z (.cons (b2 Z (by first | omega | rfl | (simp<;>omega))) .nil))) ?_;rintro Mt Jx kv ⟨k,rfl,rfl,cW,av,aO⟩;have:=cW.size;refine aj<|J (blt Z Z)<|ai<|az<| ?_;refine en Z (λ mK=> ?_) (λ mK=> ?_)
  ·refine bt<|az<|bS<|aj<|J (b_ k underlying44 fC Z Z ((aB.keep cW).bP (bb k)) Z (by omega))<|J (ak Z (τ.aJ.hq K6 ((aB.keep cW).cB (bb k)) (dn (l:=l) (u:=default) (by omega)) iZ fC))<|al Z Pq Z Z λ FY OM cD ayI mz=> ?_;have:=cD.size;have oy:=γ cW cD;have aBK:=mz.lt;refine st (new:= [.int .i64 ((l.getD k default).by_), .int .i64 ((l.getD k default).kind), .int .i64 ((l.getD k default).aQ), .int .i64 ((l.getD k default).spot.x), .int .i64 ((l.getD k default).spot.y), .int .i64 ((l.getD k default).what)]) Z Z mz Z fC Z Z Z λ IM ur mz=> ?_;have:=ur.size;have wx:=Ext.mod oy ur bs;refine ai<|aj<|J (ak Z (mz.all iZ fC))<|ca UN Z Z ((Yi (l.getD k default) _).mono ?_);rintro e uK ⟨rfl,hl⟩;refine ⟨_,Z, ?_⟩;have:=hl.size;have h8:=γ wx hl;refine va Z<|ai<|aj<|vm Z<|J (bne Z Z)<|ai<| ?_;refine ey Z (λ vD=> ?_) (λ vD=> ?_)
   ·refine aj<|vm Z<|va Z<|ai<|rt<|eF<|bO<|mq<|eF<|bO<|a8 (.tmp Z .nil)<| ?_;exact ⟨by rw [aAN (by omega) (show k<l.length by omega) aO (by simpa using vD)];rfl,h8⟩
   ·refine fo<|bY<|aV<|rg<|J (bad Z Z (bH (by omega)))<|vm Z<|nl<| ?_;exact c' _ _ ⟨k+1,Z,Z,h8,by omega,sU aO (by simpa using vD)⟩ (by omega) (.cons Z (.cons Z (.cons (b2 Z (by first | omega | rfl | (simp<;>omega))) .nil)))
  ·refine dK<|dJ<|ei<|dI<|aV<|aj<|va Z<|ai<|rt<|a8 (.tmp Z .nil)<| ?_;exact ⟨by rw [aAP (by omega) (λ i ar=>aO i (by omega))];rfl,cW⟩
end
end Go.Proofs.YtlikikpgmmkjbaaGreat
