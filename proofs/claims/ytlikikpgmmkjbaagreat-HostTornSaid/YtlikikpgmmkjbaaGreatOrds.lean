import Derived.Test.YtlikikpgmmkjbaaGreatLawA
set_option linter.unusedVariables false
set_option linter.unusedSimpArgs false
set_option maxRecDepth 100000
set_option maxHeartbeats 4000000
open Go.RowKit
namespace Go.Proofs.YtlikikpgmmkjbaaGreat
open Tryz
abbrev aRF:=@List.pairwise_iff_getElem
abbrev aTj:=@List.drop_zero
abbrev aTn:=@List.mem_iff_getElem?
abbrev aTX:=@List.getElem_cons_zero
abbrev aTY:=@List.getElem_cons_succ
abbrev aVU:=@Nat.lt_trichotomy
abbrev aVX:=@List.pairwise_map
section
theorem ay1:∀ (n:Nat) (l:List Nat),l.Nodup→(∀ x∈l,x<n)→l.length≤n:=by
 intro n;induction n with
 | zero =>
  intro l _ h;cases l with
  | nil=>exact aQW _
  | cons x r=>exact absurd (h x aRa) (by omega)
 | succ n bt =>
  intro l hn h;by_cases hm:n∈l
  ·have γ:=bt (l.erase n) (hn.erase _) (λ x hx=>by
    have:=h x (List.mem_of_mem_erase hx);have fb:x≠n:=λ e=>by subst e;exact (List.Nodup.not_mem_erase hn) hx
    omega)
   rw [List.length_erase_of_mem hm] at γ;omega
  ·have:=bt l hn (λ x hx=>by
    have:=h x hx;have fb:x≠n:=λ e=>hm (by rw [← e];exact hx)
    omega)
   omega
section
variable {f:aE} {a b c x y:ax} {d D:Int} {a8:List Int} {aA:ax→Int}
theorem apk (hf:f.bn=0) {l:List ax} (hn:l.Nodup) (ar:∀ x∈l,f.fe x=true):l.length≤f.aW.length:=by
 have γ:(l.map f.at_).Nodup:=by
  have:∀ l:List ax,l.Nodup→(∀ x∈l,f.fe x=true)→(l.map f.at_).Nodup:=by
   intro l;induction l with
   | nil=>intro _ _;exact aU7
   | cons x r bt =>
    intro hn ar;rw [aT1] at hn;rw [aRw,aT1];refine ⟨λ hm=> ?_,bt hn.2 λ y aK=>ar y (aQ1 _ aK)⟩;obtain ⟨y,aK,e⟩:=aRs.1 hm;have:=aE.abj hf (ar y (aQ1 _ aK)) (ar x aRa) e;subst this;exact hn.1 aK
  exact this l hn ar
 have:=ay1 f.aW.length _ γ (λ i hm=>by
  obtain ⟨y,aK,rfl⟩:=aRs.1 hm;exact (aE.ya hf (ar y aK)).1)
 rwa [aRz] at this
abbrev l9 (f:aE) (a:ax):ax→Int→Prop:=p6.od f.cP f.gu (λ s=>s=a)
abbrev rX (f:aE) (a:ax):ax→Int→Prop:=p6.s3 f.cP f.gu (λ s=>s=a)
theorem l9.qq (r:l9 f a x d):0≤d:=p6.od.qq (aE.Xk f) r
theorem l9.ground (ha:f.ground a=true) (r:l9 f a x d):f.ground x=true:=by
 induction r with
 | start hs=>rw [hs];exact ha
 | step _ aK _=>exact (aE.LL.1 aK).2
theorem l9.t_ (r:l9 f a x d) {e:Int} (q:l9 f x y e):l9 f a y (d+e):=by
 induction q with
 | start hs=>rw [hs,Int.add_zero];exact r
 | step _ aK bt=>rw [← Int.add_assoc];exact .step bt aK
theorem rX.pred (h:rX f a x d):(x=a∧d=0)∨∃ p e,rX f a p e∧x∈f.cP p∧d=e+f.gu x:=by
 obtain ⟨r,hm⟩:=h;cases r with
 | start hs=>exact .inl ⟨hs,rfl⟩
 | @step p _ e hp aK =>
  obtain ⟨e',he⟩:=p6.od.agu (aE.Xk f) hp;have γ:=he.2 _ hp;have ab:=hm _ (.step he.1 aK);have:e=e':=by omega
  subst this;exact .inr ⟨p,e,he,aK,Z⟩
theorem rX.chain (hf:f.bn=0) (ha:f.ground a=true):∀ (n:Nat) (x:ax) (d:Int),rX f a x d→d.toNat=n→∃ l:List ax,l.Nodup∧(∀ y∈l,f.fe y=true∧∃ e,rX f a y e∧e≤d)∧d+3≤3 * (l.length:Int):=by
 intro n;induction n using Nat.strongRecOn with
 | ind n bt =>
  intro x d h hn;have hx:=aE.jO (l9.ground ha h.1);rcases h.pred with ⟨γ,ab⟩ | ⟨p,e,γ,ab,aw⟩
  ·refine ⟨[x],by simp,λ y aK=> ?_,by rw [ab];simp⟩;rw [aQJ.1 aK];exact ⟨hx,d,h,aSe _⟩
  ·have av:=f.pG (c:=x);have he:=l9.qq γ.1;obtain ⟨l,er,js,EF⟩:=bt e.toNat (by omega) p e γ rfl;refine ⟨x::l,aT1.2 ⟨λ hm=> ?_,er⟩,λ y aK=> ?_,by rw [aQQ];omega⟩
   ·obtain ⟨_,e',aX,bF⟩:=js x hm;have:=aX.uniq h;omega
   ·rcases aQ7.1 aK with rfl | aK
    ·exact ⟨hx,d,h,aSe _⟩
    ·obtain ⟨aX,e',bF,cb⟩:=js y aK;exact ⟨aX,e',bF,by omega⟩
theorem rX.cG (hf:f.bn=0) (ha:f.ground a=true) (h:rX f a x d):d+3≤3 * (f.aW.length:Int):=by
 obtain ⟨l,er,js,EF⟩:=h.chain hf ha _ x d rfl;have:=apk hf er λ y aK=>(js y aK).1;omega
def cellAt (f:aE) (i:Nat):ax:=⟨(i:Int) % f.wide,(i:Int) / f.wide⟩
theorem ape (hf:f.bn=0) (hc:f.fe c=true):cellAt f (f.at_ c)=c:=by
 obtain ⟨_,_,a2,a3,a4,a5⟩:=aE.idx hf hc;have h:=(aE.ya hf hc).2;unfold cellAt;rw [h];have a_:(c.y * f.wide+c.x) % f.wide=c.x:=by rw [aUM,aTz,aUL a2 a3]
 have bh:(c.y * f.wide+c.x) / f.wide=c.y:=by rw [aUM,Int.add_mul_ediv_right _ _ (by omega),Int.ediv_eq_zero_of_lt a2 a3,Int.zero_add]
 rw [a_,bh]
theorem as4 (hf:f.bn=0) {g:ax→Int} (aM:∀ c,f.fe c=false→g c= -1):f.aA ((List.range f.aW.length).map λ i=>g (cellAt f i)) c=g c:=by
 cases hc:f.fe c with
 | false=>rw [aE.UC hc,aM c hc]
 | true =>
  rw [aE.GG hc,aQK,aQ4,aUp (aE.ya hf hc).1];show g (cellAt f (f.at_ c))=g c;rw [ape hf hc]
theorem ai1 (hf:f.bn=0) (ha:f.ground a=true) (b:ax):∃ a8,o9 f a b a8:=by
 let Q:ax→Int→Prop:=λ c d=>rX f a c d∧∀ D,rX f a b D→d+aE.kr b c≤D
 let g:ax→Int:=λ c=>@dite _ (∃ d,Q c d) (Classical.propDecidable _) (λ h=>h.choose) λ _=> -1
 have O9:∀ c d,Q c d→g c=d:=λ c d h=>by
  have hex:∃ d,Q c d:=⟨d,h⟩;show @dite _ (∃ d,Q c d) (Classical.propDecidable _) (λ h=>h.choose) (λ _=> -1)=d;rw [dif_pos hex];exact hex.choose_spec.1.uniq h.1
 have gn:∀ c,(¬ ∃ d,Q c d)→g c= -1:=λ c h=>by
  show @dite _ (∃ d,Q c d) (Classical.propDecidable _) (λ h=>h.choose) (λ _=> -1)= -1;rw [dif_neg h]
 have yp:∀ c,0≤g c→Q c (g c):=λ c h=>by
  by_cases hex:∃ d,Q c d
  ·obtain ⟨d,hd⟩:=hex;rw [O9 c d hd];exact hd
  ·rw [gn c hex] at h;omega
 have go:∀ c,f.fe c=false→g c= -1:=λ c hc=>gn c λ ⟨d,hd⟩=>by
  have:=aE.jO (l9.ground ha hd.1.1);rw [hc] at this;cases this
 have ml:∀ c,f.aA ((List.range f.aW.length).map λ i=>g (cellAt f i)) c=g c:=λ c=>as4 hf go;refine ⟨(List.range f.aW.length).map λ i=>g (cellAt f i),by rw [aRz,aVY],⟨λ c h=> ?_,λ c h=> ?_,λ c d hd hle=> ?_,λ c h=> ?_⟩,λ c=> ?_,λ c h=> ?_⟩
 ·rw [ml c] at h ⊢;by_cases hex:∃ d,Q c d
  ·obtain ⟨d,hd⟩:=hex;rw [O9 c d hd] at h;have:=l9.qq hd.1.1;omega
  ·exact gn c hex
 ·rw [ml c] at h ⊢;exact yp c h
 ·rw [ml c];exact O9 c d ⟨hd,hle⟩
 ·rw [ml c] at h ⊢;have I:=yp c h;rcases I.1.pred with γ | ⟨p,e,γ,ab,aw⟩
  ·exact .inl γ
  ·right;have he:=aE.Uo b (aE.LL.1 ab).1;have av:=f.pG (c:=c);have hp:g p=e:=O9 p e ⟨γ,λ D u_=>by have:=I.2 D u_;omega⟩;exact ⟨p,by rw [ml p,hp];exact l9.qq γ.1,ab,by rw [ml p,hp];exact aw⟩
 ·rw [ml c];by_cases h:0≤g c
  ·have:=(yp c h).1.cG hf ha;omega
  ·omega
 ·rw [ml c] at h;exact l9.ground ha (yp c h).1.1
theorem UB (hf:f.bn=0) (ha:f.ground a=true):p6.Spec f.cP f.gu (aE.kr b) (λ s=>s=a) b (cI f a b):=by
 obtain ⟨a8,h⟩:=ai1 hf ha b;rw [← h.O3];exact h.spec
theorem JS (hf:f.bn=0) (ha:f.ground a=true) (h:0≤cI f a b c):rX f a c (cI f a b c):=((UB hf ha).oj c h).1
theorem ad6 (hf:f.bn=0) (ha:f.ground a=true) (h:rX f a b d):cI f a b b=d:=(UB hf ha).end_ (aE.Un b) h
theorem as3 (hf:f.bn=0) (ha:f.ground a=true) (h:l9 f a b d):0≤cI f a b b∧cI f a b b≤d:=by
 obtain ⟨e,he⟩:=p6.od.agu (aE.Xk f) h;rw [ad6 hf ha he];exact ⟨l9.qq he.1,he.2 _ h⟩
theorem JT (hf:f.bn=0) (ha:f.ground a=true) (h:0≤cI f a b b):n' f a (cI f a b):=by
 obtain ⟨a8,hp⟩:=ai1 hf ha b;exact n'.EZ hp h
theorem aDV (h:n' f a aA):∀ (n:Nat) (c:ax),0≤aA c→(aA c).toNat=n→∀ x∈fJ f aA a c,0≤aA x∧aA x≤aA c∧f.ground x=true:=by
 intro n;induction n using Nat.strongRecOn with
 | ind n bt =>
  intro c hc hn x hx;by_cases e:c=a
  ·subst e;rw [AV h] at hx;rw [aQJ.1 hx];exact ⟨hc,aSe _,h.gr _ hc⟩
  ·obtain ⟨eK,fr,l0,vB⟩:=h.prev hc e;have av:=f.pG (c:=c);rw [AW h hc e] at hx;rcases aQ7.1 hx with rfl | hx
   ·exact ⟨hc,aSe _,h.gr _ hc⟩
   ·obtain ⟨la,mC,vC⟩:=bt _ (by omega) _ l0 rfl x hx;exact ⟨la,by omega,vC⟩
theorem Ut (he:gQ f a b=0):f.bn=0∧f.ground a=true∧f.ground b=true∧0≤cI f a b b∧ot f a b=cI f a b b∧fL f a b=(fJ f (cI f a b) a b).reverse:=by
 rcases Us f a b with ⟨γ,ab⟩ | ⟨γ,ab,aw⟩ | ⟨γ,ab,aw,aX⟩ | ⟨γ,ab,aw,aX | aX⟩
 ·rw [ab] at he;exact absurd he γ
 ·rw [aw] at he;exact absurd he ab
 ·rw [aX] at he;cases he
 ·rw [aX.2] at he;cases he
 ·refine ⟨γ,ab,aw,aX.1, ?_, ?_⟩
  ·unfold ot;rw [aQZ he]
  ·unfold fL;rw [aQZ he]
end
end
section
def aMm:List bg:= [⟨1,0,1,⟨2,0⟩,10,0⟩]
def aMl:List dj:= [⟨1,⟨2,0⟩⟩]
end
section
def Dl (s t:bg):Prop:=s.id<t.id∧s.spot≠t.spot
theorem UO {α:Type} [Inhabited α] {l:List α} {i:Nat} {t:α} (h:l[i]? =some t):l.getD i default=t:=by rw [aQK,h];rfl
theorem Good.awI {W:ag} (bC:Good W) {i j:Nat} {s t:bg} (jh:i<j) (hs:W.ak[i]? =some s) (aD:W.ak[j]? =some t):s.id<t.id:=by
 induction j generalizing t with
 | zero=>omega
 | succ j bt =>
  have ay:=(aQM.1 aD).1;obtain ⟨u,hu⟩:=hG (l:=W.ak) (i:=j) (by omega);have γ:=(bC.ids (j+1) t aD).1;have ab:W.jt (j+1)=u.id:=by
   unfold ag.jt;rw [aQV (by omega),aUx,UO hu]
  rcases aTO.1 jh with h | rfl
  ·have:=bt h hu;omega
  ·rw [hs] at hu;injection hu with hu;subst hu;omega
theorem Good.E3 {W:ag} (bC:Good W):W.ak.Pairwise Dl:=by
 rw [aRF];intro i j ar ay jh;have hs:=aQN ar;have aD:=aQN ay;refine ⟨bC.awI jh hs aD,λ e=> ?_⟩;have γ:=bC.iO j _ aD;rw [← e] at γ;have:(W.iO j).contains (W.ak[i]).spot=true:=by
  rw [aUc];unfold ag.iO;exact aRs.2 ⟨_,aTn.2 ⟨i,by rw [aRq,aQZ jh,hs]⟩,Z⟩
 rw [this] at γ;exact nomatch γ
theorem Good.each {W:ag} (bC:Good W) {t:bg} (aD:t∈W.ak):0<t.id∧t.id<W.next∧NN W.field W.aU.length t:=by
 obtain ⟨i,ar⟩:=aTn.1 aD;have γ:=bC.ids i t ar;exact ⟨by omega,γ.2.1,bC.ak i t ar⟩
theorem Good.aiN {W V:ag} (bC:Good W) (hf:V.field=W.field) (Φ:V.aU=W.aU) (hs:V.bj=W.bj) (hm:V.br=W.br) (hn:V.next=W.next) (b1:0≤V.now∧V.now≤1000000) (az:V.ak.length≤100) (ck:V.ak.Pairwise Dl)
  (dE:∀ t∈V.ak,0<t.id∧t.id<V.next∧NN V.field V.aU.length t):Good V where
 field:=by rw [hf];exact bC.field
 jU:=by rw [Φ];exact bC.jU
 eg:=az
 sl:=by rw [hs,Φ];exact bC.sl
 aU:=by rw [Φ,hf];exact bC.aU
 bj:=by rw [hs];exact bC.bj
 xd:=by rw [hm,hf];exact bC.xd
 br:=by rw [hm,hf];exact bC.br
 ak:=λ i t aD=>(dE t (aRo aD)).2.2
 ids:=λ i t aD=>by
  have γ:=dE t (aRo aD);unfold ag.jt;split
  ·exact ⟨γ.1,γ.2.1,aSe _⟩
  ·rename_i aF
   have ar:=(aQM.1 aD).1;obtain ⟨u,hu⟩:=hG (l:=V.ak) (i:=i - 1) (by omega);rw [UO hu];have ab:=dE u (aRo hu);have aw:=(aRF.1 ck) (i - 1) i (by omega) ar (by omega);have a_:V.ak[i - 1]'(by omega)=u:=(aQM.1 hu).2;have bh:V.ak[i]=t:=(aQM.1 aD).2;rw [a_,bh] at aw;exact ⟨aw.1,γ.2.1,by omega⟩
 iO:=λ i t aD=>by
  rw [aV0];intro hc;rw [aUc] at hc;unfold ag.iO at hc;obtain ⟨s,fc,gq⟩:=aRs.1 hc;obtain ⟨j,ay⟩:=aTn.1 fc;rw [aRq] at ay;split at ay
  ·rename_i hH
   have ar:=(aQM.1 aD).1;have aw:=(aRF.1 ck) j i (by omega) ar hH;have a_:V.ak[j]'(by omega)=s:=(aQM.1 ay).2;have bh:V.ak[i]=t:=(aQM.1 aD).2;rw [a_,bh] at aw;exact aw.2 gq
  ·exact nomatch ay
 next:=by rw [hn];exact bC.next
 now:=b1
end
section
def akt (l:List bg) (x:Int):Option bg:=l.find? λ t=>t.id == x
def aOJ (l:List bg) (x:Int):Value:= .tuple #[.agg ((akt l x).getD default).cells.toArray, .bool (akt l x).isSome]
def CI (l:List Int):Bool:=(List.range (l.length - 1)).all λ i=> !decide (l.getD (i+1) 0<l.getD i 0)
theorem aBO {l:List Int} (h:∀ i,i+1<l.length→¬ l.getD (i+1) 0<l.getD i 0):CI l=true:=by
 unfold CI;rw [aRD];intro i ar;have:=h i (by have:=aRt.1 ar;omega);simpa using this
def aOs {α:Type} (l:List α) (k:Nat):List α:=l.mapIdx λ i x=>if i<k∨l.length - k≤i then (l[l.length - 1 - i]?).getD x else x
end
section
def An (W:ag) (l:List dh):List bg:=(List.range W.ak.length).map (w5 W.ak (fy W l))
structure DS (W:ag) (l:List dh):Prop where
 j5:Good W
 bP:gw W l= {W with ak:=(An W l).filter λ t=>decide (0<t.cY)}
 bC:rG W l=((An W l).filter λ t=> !decide (0<t.cY)).map bg.id
 aum:∀ k,0≤(fy W l).getD k 0
 az:(fy W l).length=W.ak.length
theorem Q7 {W:ag} {l:List dh} (h:lU W l=0):DS W l :=
 ⟨Good.vy (N7 h).1,(Yb h rfl).1,(Yb h rfl).2,λ k=>((Vo h).2 k).1,(Vo h).1⟩
theorem P2 (W:ag) (l:List dh):(An W l).length=W.ak.length:=by simp [An]
theorem P1 {W:ag} {l:List dh} {k:Nat} {t:bg} (h:W.ak[k]? =some t):(An W l)[k]? =some {t with cY:=t.cY - (fy W l).getD k 0}:=by
 have av:=(aQM.1 h).1;unfold An;rw [aQ4,aUp av,aSn];unfold w5;rw [UO h]
theorem aws {W:ag} {l:List dh} {x:bg} (h:x∈An W l):∃ (k:Nat) (t:bg),W.ak[k]? =some t∧x= {t with cY:=t.cY - (fy W l).getD k 0}:=by
 obtain ⟨k,av⟩:=aTn.1 h;have bA:=(aQM.1 av).1;rw [P2] at bA;obtain ⟨t,aD⟩:=hG bA;rw [P1 aD] at av;injection av with av
 exact ⟨k,t,aD,av.symm⟩
theorem DS.E3 {W:ag} {l:List dh} (h:DS W l):(An W l).Pairwise Dl:=by
 rw [aRF];intro i j ar ay jh;rw [P2] at ar ay;obtain ⟨s,hs⟩:=hG ar;obtain ⟨t,aD⟩:=hG ay;have a_:=(aQM.1 (P1 (l:=l) hs)).2;have bh:=(aQM.1 (P1 (l:=l) aD)).2;rw [a_,bh];have:=(aRF.1 h.j5.E3) i j ar ay jh;rw [(aQM.1 hs).2,(aQM.1 aD).2] at this;exact this
theorem DS.right {W:ag} {l:List dh} (h:DS W l):Good (gw W l):=by
 rw [h.bP];refine Good.aiN h.j5 Z Z Z Z Z h.j5.now ?_ (h.E3.filter _) λ t aD=> ?_
 ·exact aRj (aTo _ _) (by rw [P2];exact h.j5.eg)
 ·obtain ⟨aD,hp⟩:=aS8.1 aD;obtain ⟨k,s,hs,rfl⟩:=aws aD;have γ:=h.j5.each (aRo hs);have ab:=h.aum k;have aw:=aR2 hp;refine ⟨γ.1,γ.2.1,⟨γ.2.2.kind,γ.2.2.owner,γ.2.2.ground, ?_,γ.2.2.load⟩⟩;have aX:=γ.2.2.cY;show 1≤s.cY - _∧s.cY - _≤ag.ju s.kind;have bF:0<s.cY - (fy W l).getD k 0:=aw;omega
theorem aj9 {l:List Int} (h:l.Pairwise (· < ·)):CI l=true:=by
 refine aBO λ i ar=> ?_;have:=(aRF.1 h) i (i+1) (by omega) ar (by omega);rw [aQK,aQK,aQN ar,aQN (by omega:i<l.length)];show ¬ l[i+1]<l[i];omega
theorem DS.sorted {W:ag} {l:List dh} (h:DS W l):CI (rG W l)=true:=by
 rw [h.bC];refine aj9 ?_;rw [aVX];exact (h.E3.filter _).imp λ h=>h.1
end
section
section
variable {f:aE} {a b c x y:ax} {d D:Int}
theorem az4 (hf:f.bn=0) (ha:f.ground a=true) (sf:0≤cI f a b c) (aeZ:0≤cI f a x c):k_ f (cI f a b) c=k_ f (cI f a x) c:=by
 have key:∀ t n,n∈dU c→0≤cI f a t c→((f.ground n && decide (0≤cI f a t n) && decide (cI f a t n+f.gu c=cI f a t c))=true↔∃ e,rX f a n e∧rX f a c (e+f.gu c)):=by
  intro t n hn aD;have hs:=UB (b:=t) hf ha;have afg:=JS hf ha aD;constructor
  ·intro h;simp only [aQT,aRg] at h;exact ⟨_,JS hf ha h.1.2,by rw [h.2];exact afg⟩
  ·rintro ⟨e,γ,ab⟩;have he:=afg.uniq ab;have PN:cI f a t n=e:=hs.known n e γ λ D u_=>by
    have:=(hs.oj c aD).2 D u_;have aw:=aE.Uo t (aE.X2 hn);have av:=f.pG (c:=c);omega
   rw [PN,l9.ground ha γ.1,aRi (l9.qq γ.1),aRi he.symm];rfl
 unfold k_;congr 1;apply find_congr;intro n hn;rw [aTa,key b n hn sf,key x n hn aeZ]
where
 find_congr {p q:ax→Bool}:∀ {l:List ax},(∀ n∈l,p n=q n)→l.find? p=l.find? q
  | [],_=>rfl
  | n::l,h=>by
   rw [List.find?_cons,List.find?_cons,h n aRa,find_congr λ m hm=>h m (aQ1 _ hm)]
theorem aDW (hf:f.bn=0) (ha:f.ground a=true) (Φ:0≤cI f a b b) (hx:0≤cI f a x x):∀ (n:Nat) (c:ax),0≤cI f a b c→0≤cI f a x c→(cI f a b c).toNat=n→fJ f (cI f a b) a c=fJ f (cI f a x) a c:=by
 have Si:=JT hf ha Φ;have Sj:=JT hf ha hx;intro n;induction n using Nat.strongRecOn with
 | ind n bt =>
  intro c γ ab hn;by_cases e:c=a
  ·subst e;rw [AV Si,AV Sj]
  ·have hp:=az4 (b:=b) (x:=x) hf ha γ ab;obtain ⟨eK,fr,l0,vB⟩:=Si.prev γ e;obtain ⟨la,mC,vC,E4⟩:=Sj.prev ab e;have av:=f.pG (c:=c);rw [AW Si γ e,AW Sj ab e,← hp];congr 1;exact bt _ (by omega) _ l0 (by rw [hp];exact vC) Z
theorem aDX {aA:ax→Int} (h:n' f a aA):∀ (n:Nat) (c:ax),0≤aA c→(aA c).toNat=n→∀ i,(ar:i<(fJ f aA a c).length)→(fJ f aA a c).drop i=fJ f aA a ((fJ f aA a c)[i])∧l9 f ((fJ f aA a c)[i]) c (aA c - aA ((fJ f aA a c)[i])):=by
 intro n;induction n using Nat.strongRecOn with
 | ind n bt =>
  intro c hc hn i ar;by_cases e:c=a
  ·subst e;rw [AV h] at ar;have:i=0:=by simpa using ar
   subst this;simp only [AV h,aTj,aTX];exact ⟨by first | trivial | rfl,by rw [aUK];exact .start rfl⟩
  ·have hQ:=AW h hc e;obtain ⟨eK,fr,l0,vB⟩:=h.prev hc e;have av:=f.pG (c:=c);cases i with
   | zero =>
    have e0:(fJ f aA a c)[0]=c:=by simp only [hQ,aTX]
    rw [e0,aTj,aUK];exact ⟨Z, .start Z⟩
   | succ i =>
    have Ai:i<(fJ f aA a (k_ f aA c)).length:=by rw [hQ] at ar;simpa using ar
    obtain ⟨dJ,eO⟩:=bt _ (by omega) _ l0 rfl i Ai;have a_:(fJ f aA a c)[i+1]=(fJ f aA a (k_ f aA c))[i]:=by simp only [hQ,aTY]
    rw [a_];refine ⟨by rw [← dJ,hQ,aVN], ?_⟩;have r:l9 f _ c (aA (k_ f aA c) - aA ((fJ f aA a (k_ f aA c))[i])+f.gu c):= .step eO (aE.LL.2 ⟨aE.X2 eK,h.gr c hc⟩);rw [show aA c - aA ((fJ f aA a (k_ f aA c))[i])=aA (k_ f aA c) - aA ((fJ f aA a (k_ f aA c))[i])+f.gu c by omega];exact r
theorem aD0 (he:gQ f a b=0) {n:Nat} (hn:n<(fL f a b).length) {x:ax} (hx:(fL f a b).getD n default=x):gQ f a x=0∧gQ f x b=0∧fL f a x=(fL f a b).take (n+1)∧ot f a x+ot f x b=ot f a b:=by
 obtain ⟨hf,ha,Φ,aF,av,hp⟩:=Ut he;have F:=JT hf ha aF;have az:(fL f a b).length=(fJ f (cI f a b) a b).length:=by rw [hp,aS1]
 have ar:(fJ f (cI f a b) a b).length - 1 - n<(fJ f (cI f a b) a b).length:=by omega
 obtain ⟨s1,s2⟩:=aDX F _ b aF rfl _ ar;have ex:(fJ f (cI f a b) a b)[(fJ f (cI f a b) a b).length - 1 - n]=x:=by
  rw [mW hn] at hx;rw [← hx];simp only [hp,aVE]
 rw [ex] at s1 s2;have K0:x∈fJ f (cI f a b) a b:=by rw [← ex];exact aRO ar
 obtain ⟨e2,ft,jl⟩:=aDV F _ b aF rfl x K0;have afi:=JS hf ha e2;have a_:=ad6 hf ha afi;have iL:0≤cI f a x x:=by rw [a_];exact e2
 have Ag:=Uu hf ha jl iL;have r2:=as3 hf jl s2;have agm:=Uu hf jl Φ r2.1;refine ⟨Ag,agm, ?_, ?_⟩
 ·have PU:fL f a x=(fJ f (cI f a x) a x).reverse:=by unfold fL;rw [aQZ Ag]
  rw [PU,← aDW hf ha aF iL _ x e2 iL rfl,← s1,hp,List.reverse_drop,az.symm.trans az];congr 1;have:(fJ f (cI f a b) a b).reverse.length=(fJ f (cI f a b) a b).length:=aS1;omega
 ·have dJ:ot f a x=cI f a x x:=by unfold ot;rw [aQZ Ag]
  have eO:ot f x b=cI f x b b:=by unfold ot;rw [aQZ agm]
  rw [dJ,eO,av,a_];have aw:=(JS hf ha aF).2 _ (l9.t_ afi.1 (JS hf jl r2.1).1);omega
end
end
section
theorem akj {f:aE} {l:List dj} {T:List bg} {k:Nat} {c:ax} (h:qt f l T k=some c):
  0≤ey l (T.getD k default).id∧gQ f (T.getD k default).spot (l.getD (ey l (T.getD k default).id).toNat default).bp=0∧2≤(fL f (T.getD k default).spot (l.getD (ey l (T.getD k default).id).toNat default).bp).length∧
  c=(fL f (T.getD k default).spot (l.getD (ey l (T.getD k default).id).toNat default).bp).getD 1 default∧iN T c≤0:=by
 unfold qt at h;split at h
 ·exact nomatch h
 ·split at h
  ·exact nomatch h
  ·split at h
   ·exact nomatch h
   ·split at h
    ·exact nomatch h
    ·rename_i γ ab aw aX
     injection h with h
     subst h;exact ⟨by omega,by simpa using ab,by omega,rfl,by omega⟩
theorem alj {f:aE} {a:ax} {aA:ax→Int} (h:n' f a aA) {c:ax} (hc:0≤aA c):∃ r,fJ f aA a c=c::r∧(r= []↔c=a):=by
 by_cases e:c=a
 ·subst e;exact ⟨[],AV h,by simp⟩
 ·obtain ⟨eK,fr,l0,vB⟩:=h.prev hc e;refine ⟨_,AW h hc e,⟨λ hr=> ?_,λ h=>absurd h e⟩⟩;by_cases bh:k_ f aA c=a
  ·rw [bh,AV h] at hr;exact nomatch hr
  ·rw [AW h l0 bh] at hr;exact nomatch hr
theorem alk {f:aE} {a b x:ax} (he:gQ f a b=0) (hn:2≤(fL f a b).length) (hx:(fL f a b).getD 1 default=x):
  gQ f a x=0∧gQ f x b=0∧ot f a x+ot f x b=ot f a b∧a∈dU x∧f.ground x=true∧x≠a∧fL f a x= [a,x]:=by
 obtain ⟨γ,ab,aw,aX⟩:=aD0 he (n:=1) (by omega) hx;obtain ⟨hf,ha,Φ,aF,av,hp⟩:=Ut he;obtain ⟨_,_,atA,iL,_,PU⟩:=Ut γ;have F:=JT hf ha aF;have Nn:=JT hf ha iL;have az:(fL f a x).length=2:=by rw [aw,aQP];omega
 rw [PU,aS1] at az;have Wm:x≠a:=by
  intro e;obtain ⟨r,a_,bh⟩:=alj Nn iL;rw [a_,bh.2 e] at az;simp at az
 have hQ:=AW Nn iL Wm;obtain ⟨eK,fr,l0,vB⟩:=Nn.prev iL Wm;obtain ⟨r,a_,bh⟩:=alj Nn l0;rw [hQ,a_] at az;have hr:r= []:=aRd (by simpa using az);have af4:=bh.1 hr;refine ⟨γ,ab,aX,by rw [← af4];exact eK,atA,Wm, ?_⟩;rw [PU,hQ,a_,hr,af4];rfl
theorem aBz {T:List bg} {k:Nat} {c:ax} (ck:T.Pairwise Dl) (av:k<T.length) (hc:iN T c≤0):(T.set k ((T.getD k default).bp c)).Pairwise Dl:=by
 have kt:∀ t∈T,t.spot≠c:=λ t aD e=>by have:=aza.2 ⟨t,aD,e⟩;omega
 have afl:T.getD k default=T[k]:=by rw [aQK,aQN av];rfl
 rw [aRF] at ck ⊢;intro i j ar ay jh;rw [aQS] at ar ay;have h:=ck i j ar ay jh;rw [List.getElem_set,List.getElem_set];split<;>split
 ·omega
 ·rename_i a_ bh
  subst a_;exact ⟨by have aqR:=aRS bg.id afl;have yr:=h.1;show (T.getD k default).id<_;omega,λ e=>kt _ (aRO ay) e.symm⟩
 ·rename_i a_ bh
  subst bh;exact ⟨by have aqR:=aRS bg.id afl;have yr:=h.1;show _<(T.getD k default).id;omega,kt _ (aRO ar)⟩
 ·exact h
theorem akh {f:aE} {l:List dj} {T:List bg} {Q:bg→Prop} (h1:∀ t c,Q t→f.ground c=true→Q (t.bp c)) (ck:T.Pairwise Dl) (b4:∀ t∈T,Q t):∀ k,k≤T.length→(jw f l T k).1.Pairwise Dl∧∀ t∈(jw f l T k).1,Q t
 | 0,_=>⟨ck,b4⟩
 | k+1,av=>by
  obtain ⟨agr,Wp⟩:=akh (l:=l) h1 ck b4 k (by omega);have az:=(Q4 (f:=f) (l:=l) (T:=T) k).1;cases hs:qt f l (jw f l T k).1 k with
  | none=>rw [E_ rfl hs];exact ⟨agr,Wp⟩
  | some c =>
   rw [Mf rfl hs];obtain ⟨d1,d2,d3,d4,d5⟩:=akj hs;obtain ⟨_,_,_,_,g,_⟩:=alk d2 d3 d4.symm;refine ⟨aBz agr (by omega) d5,λ t aD=> ?_⟩;rcases aSz aD with aD | rfl
   ·exact Wp t aD
   ·exact h1 _ _ (Wp _ (jj (by omega))) g
noncomputable def EV (f:aE) (l:List dj) (T:List bg) (i:Nat):Option ax:=qt f l (jw f l T i).1 i
theorem aCy {T:List bg} {k:Nat} {t:bg} (h:k<T.length):(T.set k t).getD k default=t:=by rw [aQK,aQ9 h];rfl
theorem aCx {T:List bg} {k i:Nat} {t:bg} (h:k≠i):(T.set k t).getD i default=T.getD i default:=by rw [aQK,aRf h,aQK]
theorem Q3 {f:aE} {l:List dj} {T:List bg}:∀ k,k≤T.length→∀ i,i<T.length→(jw f l T k).1.getD i default=if i<k then (match EV f l T i with | some c=>(T.getD i default).bp c | none=>T.getD i default) else T.getD i default
 | 0,_,i,ar=>by rw [aQV (by omega)];rfl
 | k+1,av,i,ar=>by
  have bt:=Q3 (f:=f) (l:=l) (T:=T) k (by omega);have az:=(Q4 (f:=f) (l:=l) (T:=T) k).1;have pC:=bt k (by omega);rw [aQV (by omega)] at pC;cases hs:EV f l T k with
  | none =>
   rw [E_ rfl hs,bt i ar];by_cases e:i=k
   ·subst e;rw [aQV (by omega),aQZ (by omega),hs]
   ·by_cases bh:i<k
    ·rw [aQZ bh,aQZ (by omega)]
    ·rw [aQV bh,aQV (by omega)]
  | some c =>
   rw [Mf rfl hs];by_cases e:i=k
   ·subst e;rw [aCy (by omega),aQZ (by omega),hs,pC]
   ·rw [aCx (λ h=>e h.symm),bt i ar];by_cases bh:i<k
    ·rw [aQZ bh,aQZ (by omega)]
    ·rw [aQV bh,aQV (by omega)]
theorem akg {f:aE} {l:List dj} {T:List bg}:∀ k,k≤T.length→(jw f l T k).2=((List.range k).filter λ i=>(EV f l T i).isSome).map λ i=>(T.getD i default).id
 | 0,_=>rfl
 | k+1,av=>by
  have bt:=akg (f:=f) (l:=l) (T:=T) k (by omega);have pC:=Q3 (f:=f) (l:=l) (T:=T) k (by omega) k (by omega);rw [aQV (by omega)] at pC;rw [aSo,aTd,aRc,aSf];cases hs:EV f l T k with
  | none=>rw [E_ rfl hs,bt];simp
  | some c=>rw [Mf rfl hs,bt,pC];simp
theorem ayu {W:ag} {l:List dj} (h:rB W l=0):W.bn=0∧gV W l=(W.lJ l).1∧oI W l=(W.lJ l).2:=by
 have hc:W.bn=0:=by
  apply aRX;intro hn;rw [(aio (l:=l) hn).1] at h;exact hn h
 by_cases az:(l.length:Int)≤200
 ·have:=Qr (l:=l) hc az;exact ⟨hc,this.2⟩
 ·rw [(aip (l:=l) hc (by omega)).1] at h;exact nomatch h
theorem W4 {W:ag} {l:List dj} (h:rB W l=0):
  Good (gV W l)∧(gV W l).ak.length=W.ak.length∧CI (oI W l)=true∧gV W l= {W with ak:=(gV W l).ak}∧
  ∀ k,k<W.ak.length→((oI W l).any (λ y=>(W.ak.getD k default).id == y)=false∧(gV W l).ak.getD k default=W.ak.getD k default)∨
   ∃ c:ax,(oI W l).any (λ y=>(W.ak.getD k default).id == y)=true∧(gV W l).ak.getD k default=(W.ak.getD k default).bp c∧0≤ey l (W.ak.getD k default).id∧
    gQ W.field (W.ak.getD k default).spot (l.getD (ey l (W.ak.getD k default).id).toNat default).bp=0∧gQ W.field c (l.getD (ey l (W.ak.getD k default).id).toNat default).bp=0∧gQ W.field (W.ak.getD k default).spot c=0∧
    ot W.field (W.ak.getD k default).spot (l.getD (ey l (W.ak.getD k default).id).toNat default).bp=ot W.field c (l.getD (ey l (W.ak.getD k default).id).toNat default).bp+ot W.field (W.ak.getD k default).spot c∧
    (W.ak.getD k default).spot∈dU c:=by
 obtain ⟨hc,asw,asv⟩:=ayu h;have bC:=Good.vy hc;rw [asw,asv];have dE:=akh (f:=W.field) (l:=l) (T:=W.ak) (Q:=λ t=>0<t.id∧t.id<W.next∧NN W.field W.aU.length t)
  (λ t c I aM=>⟨I.1,I.2.1,⟨I.2.2.kind,I.2.2.owner,aM,I.2.2.cY,I.2.2.load⟩⟩) bC.E3 (λ t aD=>bC.each aD) W.ak.length (aQW _)
 have hlen:=Ya W l;have mi:=akg (f:=W.field) (l:=l) (T:=W.ak) W.ak.length (aQW _);have Hb:=bC.E3;refine ⟨Good.aiN bC Z Z Z Z Z bC.now (by rw [hlen];exact bC.eg) dE.1 dE.2,hlen, ?_,Z,λ k av=> ?_⟩
 ·show CI (jw W.field l W.ak W.ak.length).2=true;rw [mi];refine aj9 ?_;rw [aVX];have hr:((List.range W.ak.length).filter λ i=>(EV W.field l W.ak i).isSome).Pairwise (· < ·):=List.Pairwise.filter _ List.pairwise_lt_range;refine List.Pairwise.imp_of_mem (fun {i j} ar ay jh=> ?_) hr;have ar:=aRt.1 (aS8.1 ar).1;have ay:=aRt.1 (aS8.1 ay).1;rw [mW ar,mW ay];exact ((aRF.1 Hb) i j ar ay jh).1
 ·have fq:=Q3 (f:=W.field) (l:=l) (T:=W.ak) W.ak.length (aQW _) k av;rw [aQZ av] at fq;have pC:=Q3 (f:=W.field) (l:=l) (T:=W.ak) k (by omega) k av;rw [aQV (by omega)] at pC;have po:((W.lJ l).2).any (λ y=>(W.ak.getD k default).id == y)=(EV W.field l W.ak k).isSome:=by
   show (jw W.field l W.ak W.ak.length).2.any _=_;rw [mi,aTa,aR6];constructor
   ·rintro ⟨y,aK,e⟩;obtain ⟨i,ar,rfl⟩:=aRs.1 aK;obtain ⟨Aj,Eu⟩:=aS8.1 ar;have Aj:=aRt.1 Aj;have e:(W.ak.getD k default).id=(W.ak.getD i default).id:=by simpa using e
    have:i=k:=by
     rw [mW av,mW Aj] at e;rcases aVU i k with q | q | q
     ·have:=((aRF.1 Hb) i k Aj av q).1;omega
     ·exact q
     ·have:=((aRF.1 Hb) k i av Aj q).1;omega
    rw [← this];exact Eu
   ·intro hs;exact ⟨_,aRs.2 ⟨k,aS8.2 ⟨aRt.2 av,hs⟩,Z⟩,by simp⟩
  cases hs:EV W.field l W.ak k with
  | none =>
   rw [hs] at fq po;exact .inl ⟨po,fq⟩
  | some c =>
   rw [hs] at fq po;obtain ⟨d1,d2,d3,d4,d5⟩:=akj hs;rw [pC] at d1 d2 d3 d4;obtain ⟨f1,f2,f3,f4,f5,f6,f7⟩:=alk d2 d3 d4.symm;exact .inr ⟨c,po,fq,d1,d2,f2,f1,by omega,f4⟩
end
section
structure aN where
 by_:Int
 kind:Int
 aS:Int
 spot:ax
 what:Int
 deriving DecidableEq,Inhabited
namespace aN
def cells (a:aN):List Value:= [.int .i64 (a.by_), .int .i64 (a.kind), .int .i64 (a.aS), .int .i64 (a.spot.x), .int .i64 (a.spot.y), .int .i64 (a.what)]
def ok (a:aN):Prop:=(Lit.int .i64 a.by_).wf=true∧(Lit.int .i64 a.kind).wf=true∧(Lit.int .i64 a.aS).wf=true∧(Lit.int .i64 a.spot.x).wf=true∧(Lit.int .i64 a.spot.y).wf=true∧(Lit.int .i64 a.what).wf=true
def raw (j:Nat) (u:Value):Prop:=match j with
 | 0=>∃ n:Int,u= .int .i64 n
 | 1=>∃ n:Int,u= .int .i64 n
 | 2=>∃ n:Int,u= .int .i64 n
 | 3=>∃ n:Int,u= .int .i64 n
 | 4=>∃ n:Int,u= .int .i64 n
 | 5=>∃ n:Int,u= .int .i64 n
 | _=>True
theorem qZ (a:aN):∀ (j:Nat) u,a.cells[j]? =some u→raw j u:=by
 intro j u hu
 match j,hu with
 | 0,hu=>exact ⟨_,(aQL hu).symm⟩
 | 1,hu=>exact ⟨_,(aQL hu).symm⟩
 | 2,hu=>exact ⟨_,(aQL hu).symm⟩
 | 3,hu=>exact ⟨_,(aQL hu).symm⟩
 | 4,hu=>exact ⟨_,(aQL hu).symm⟩
 | 5,hu=>exact ⟨_,(aQL hu).symm⟩
 | j+6,hu=>exact trivial
theorem qY (a:aN):∀ u∈a.cells,u.oneCell'=true:=by
 intro u hu;unfold cells at hu;simp only [aQ7,aSb,aSV] at hu;rcases hu with rfl | rfl | rfl | rfl | rfl | rfl<;>rfl
def rep:τ aN:=τ.flat 6 cells ok raw (λ _=>rfl) qY qZ
theorem plain:rep.Plain:=τ.ou
def zero:Value:= .agg #[.int .i64 0, .int .i64 0, .int .i64 0, .int .i64 0, .int .i64 0, .int .i64 0]
theorem iC:∀ (j:Nat) u,zero.cells[j]? =some u→rep.raw j u:=by
 intro j u hu;have hu:(#[(.int .i64 0:Value),(.int .i64 0:Value),(.int .i64 0:Value),(.int .i64 0:Value),(.int .i64 0:Value),(.int .i64 0:Value)]:Array Value)[j]? =some u:=hu
 match j,hu with
 | 0,hu=>exact ⟨_,(aQL hu).symm⟩
 | 1,hu=>exact ⟨_,(aQL hu).symm⟩
 | 2,hu=>exact ⟨_,(aQL hu).symm⟩
 | 3,hu=>exact ⟨_,(aQL hu).symm⟩
 | 4,hu=>exact ⟨_,(aQL hu).symm⟩
 | 5,hu=>exact ⟨_,(aQL hu).symm⟩
 | j+6,hu=>cases hu
theorem info:(prog.info? 51).map (λ i=>(i.zero,i.size,i.bytes))=some (some zero,6,48):=by kernel_rfl
theorem oh {by_:Nat} {w:World} {A:Option Addr} {c:Nat} {l:List aN} (h:rep.aI by_ w A c l):∀ a∈l,a.ok:=τ.aI.zL (R:=rep) (Q:=ok) (fun {w cs a} (h:rep.has w cs a)=>(show cs=a.cells∧a.ok from h).2) h
def sh:gi:=(.cons (.int .i64) (.cons (.int .i64) (.cons (.int .i64) (.cons (.cons (.int .i64) (.cons (.int .i64) .nil)) (.cons (.int .i64) .nil)))))
end aN
end
section
theorem ano:IK prog aN.cells 51 :=by
 intro a b w;obtain ⟨a0,cj,a2,⟨a3,a4⟩,a5⟩:=a;obtain ⟨Jn,ko,eZ,⟨gm,zM⟩,Jo⟩:=b;simp only [aN.cells,aN.mk.injEq,ax.mk.injEq];constructor
 ·go_simp
  repeat' split
  all_goals simp_all
 ·go_simp
  repeat' split
  all_goals simp_all
theorem ann:(prog).eqGuardType (prog).depth 51 =false:=by kernel_rfl
theorem Kp {w:World} {cs:List Value} {a:aN} (h:aN.rep.has w cs a):cs=a.cells:=aSO (show cs=a.cells∧a.ok from h)
def aN.bare (o:aN):aN:=⟨o.by_,o.kind,if o.kind=5 then 0 else o.aS,if o.kind≠2∧o.kind≠3 then ⟨0,0⟩ else o.spot,if o.kind≠1∧o.kind≠5 then 0 else o.what⟩
def aN.HI (o:aN):Bool:= !cL o.by_ 0 7 || !cL o.kind 1 5 || !cL o.aS 0 1000000 || !cL o.spot.x (-1000) 1000 || !cL o.spot.y (-1000) 1000 || !cL o.what 0 1000000
def aN.bn (o:aN):Int:=if o.HI=true then 1 else if (!decide (o.bare=o))=true then 4 else 0
theorem aN.ab3 {o:aN} (h:o.HI=true):o.bn=1:=by unfold aN.bn;rw [aQZ h]
theorem aN.apu {o:aN} (h:o.HI=false) (ab:(!decide (o.bare=o))=true):o.bn=4:=by unfold aN.bn;rw [aQV (by rw [h];decide),aQZ ab]
theorem aN.apv {o:aN} (h:o.HI=false) (ab:(!decide (o.bare=o))=false):o.bn=0:=by unfold aN.bn;rw [aQV (by rw [h];decide),aQV (by rw [ab];decide)]
def hi (l:List aN):Int:=if 100<l.length then 2 else match l.find? (λ o=>o.bn != 0) with | some o=>o.bn | none=>0
theorem azx {l:List aN} (h:100<l.length):hi l=2:=by unfold hi;rw [aQZ h]
theorem azy {l:List aN} (h:l.length≤100) (aM:∀ i,i<l.length→(l.getD i default).bn=0):hi l=0:=by
 unfold hi;rw [aQV (by omega)];have:l.find? (λ o=>o.bn != 0)=none:=aSa.2 λ x hx=>by
  obtain ⟨i,ar,rfl⟩:=aRM.1 hx;have:=aM i ar;rw [mW ar] at this;simp [this]
 rw [this]
theorem azw {l:List aN} {k:Nat} (h:l.length≤100) (av:k<l.length) (aM:∀ i,i<k→(l.getD i default).bn=0) (Φ:¬ (l.getD k default).bn=0):hi l=(l.getD k default).bn:=by
 unfold hi;rw [aQV (by omega)];have:l.find? (λ o=>o.bn != 0)=some (l.getD k default):=by
  rw [aTq];refine ⟨by simpa using Φ,k,av,(mW av).symm,λ j ay=> ?_⟩;have:=aM j ay;rw [mW (by omega)] at this;simp [this]
 rw [this]
theorem HJ (n lo ar:Int) (w:World):
  Calls prog 145 #[.int .i64 n, .int .i64 lo, .int .i64 ar] w (λ e w'=>e= .returned (.bool (cL n lo ar))∧Ext w w'):=by
 refine cd (n:=15) func145 Z Z Z ?_;refine aj<|va Z<|ai<|aj<|vm Z<|vm Z<|J (iI Z Z)<|vm Z<|aO Z Z Z Z (λ hc=>aH Z) Z<|aO Z Z Z Z (λ hc=>aH Z) Z<|aO Z Z Z Z (λ hc=>ble (gt hc Z) (gt hc Z)) Z<|J (di Z Z Z Z)<|va Z<|ai<|rt<|bb (.tmp Z .nil)<| ?_;exact ⟨Z,(Ext.bI w)⟩
theorem ay9 (o:aN) (w:World):
  Calls prog 146 #[.agg #[.int .i64 o.by_, .int .i64 o.kind, .int .i64 o.aS, .int .i64 o.spot.x, .int .i64 o.spot.y, .int .i64 o.what]] w (λ e w'=>e= .returned (.agg (aN.bare o).cells.toArray)∧Ext w w'):=by
 refine cd (n:=27) func146 Z Z Z ?_;refine aj<|cB Z Z Z Z λ cO bJ ba eb aa=> ?_;have:=ba.size;have bk:=κ (Ext.bI w) ba;have eh:=aa.lt;refine al Z OG Z Z λ eA cC bm hT ah=> ?_;have:=bm.size;have bO:=κ bk bm;have hI:=ah.lt;refine ai<|aB<|aj<|J (au ph Z)<| ?_;have aa:=aa.later bm;refine J (ao Z (aa.one bd Z))<|J (beq Z Z)<|ai<| ?_;refine jI Z (λ ib=> ?_) (λ ib=> ?_)
 ·refine rg<|J (au BK Z)<|st (new:= [.int .i64 o.by_, .int .i64 o.kind, .int .i64 0, .int .i64 o.spot.x, .int .i64 o.spot.y, .int .i64 o.what]) Z Z aa Z dr Z Z Z λ xw pI aa=> ?_;have:=pI.size;have kj:=Ext.mod bO pI bw;refine ai<|aB<|aj<|J (au ph Z)<|J (ao Z (aa.one bd Z))<|J (bne Z Z)<|vm Z<|aO Z Z Z Z (λ hc=>au ph Z) Z<|aO Z Z Z Z (λ hc=>ao (gt hc Z) (aa.one bd Z)) Z<|aO Z Z Z Z (λ hc=>bne (gt hc Z) Z) Z<|J (di Z Z Z Z)<|ai<| ?_;refine dT Z (λ Ae=> ?_) (λ Ae=> ?_)
  ·simp only [cv] at Ae;refine rg<|J (v:= .agg #[.int .i64 0, .int .i64 0]) (cG Z (by kernel_rfl))<|J (au BL Z)<|st (new:= [.int .i64 o.by_, .int .i64 o.kind, .int .i64 0, .int .i64 0, .int .i64 0, .int .i64 o.what]) Z Z aa Z bS Z Z Z λ xx my aa=> ?_;have:=my.size;have jC:=Ext.mod kj my bw;refine ai<|aB<|aj<|J (au ph Z)<|J (ao Z (aa.one bd Z))<|J (bne Z Z)<|vm Z<|aO Z Z Z Z (λ hc=>au ph Z) Z<|aO Z Z Z Z (λ hc=>ao (gt hc Z) (aa.one bd Z)) Z<|aO Z Z Z Z (λ hc=>bne (gt hc Z) Z) Z<|J (di Z Z Z Z)<|ai<| ?_;refine dT Z (λ se=> ?_) (λ se=> ?_)
   ·simp only [cv] at se;refine rg<|J (au BM Z)<|st (new:= [.int .i64 o.by_, .int .i64 o.kind, .int .i64 0, .int .i64 0, .int .i64 0, .int .i64 0]) Z Z aa Z dr Z Z Z λ C0 hU aa=> ?_;have:=hU.size;have rP:=Ext.mod jC hU bw;refine ai<|aj<|J (ao Z (aa.all jc fF))<| ?_;have ah:=ah.mod pI aR;have ah:=ah.mod my aR;have ah:=ah.mod hU aR;refine st (new:= [.int .i64 o.by_, .int .i64 o.kind, .int .i64 0, .int .i64 0, .int .i64 0, .int .i64 0]) Z Z ah Z fF Z Z Z λ AS xc ah=> ?_;have:=xc.size;have oS:=Ext.mod rP xc bw;refine ai<|rt<|bb (.cell Z (ah.all jc fF) .nil)<| ?_;exact ⟨by rw [show aN.bare o=(⟨o.by_,o.kind,0,⟨0,0⟩,0⟩:aN) from by unfold aN.bare;congr 1<;>(first | rfl | (split<;>first | rfl | omega))];rfl,oS⟩
   ·simp only [cv] at se;refine bs<|aj<|J (ao Z (aa.all jc fF))<| ?_;have ah:=ah.mod pI aR;have ah:=ah.mod my aR;refine st (new:= [.int .i64 o.by_, .int .i64 o.kind, .int .i64 0, .int .i64 0, .int .i64 0, .int .i64 o.what]) Z Z ah Z fF Z Z Z λ Fj jT ah=> ?_;have:=jT.size;have qC:=Ext.mod jC jT bw;refine ai<|rt<|bb (.cell Z (ah.all jc fF) .nil)<| ?_;exact ⟨by rw [show aN.bare o=(⟨o.by_,o.kind,0,⟨0,0⟩,o.what⟩:aN) from by unfold aN.bare;congr 1<;>(first | rfl | (split<;>first | rfl | omega))];rfl,qC⟩
  ·simp only [cv] at Ae;refine bs<|aB<|aj<|J (au ph Z)<|J (ao Z (aa.one bd Z))<|J (bne Z Z)<|vm Z<|aO Z Z Z Z (λ hc=>au ph Z) Z<|aO Z Z Z Z (λ hc=>ao (gt hc Z) (aa.one bd Z)) Z<|aO Z Z Z Z (λ hc=>bne (gt hc Z) Z) Z<|J (di Z Z Z Z)<|ai<| ?_;refine dT Z (λ q9=> ?_) (λ q9=> ?_)
   ·simp only [cv] at q9;refine rg<|J (au BM Z)<|st (new:= [.int .i64 o.by_, .int .i64 o.kind, .int .i64 0, .int .i64 o.spot.x, .int .i64 o.spot.y, .int .i64 0]) Z Z aa Z dr Z Z Z λ vH kS aa=> ?_;have:=kS.size;have lQ:=Ext.mod kj kS bw;refine ai<|aj<|J (ao Z (aa.all jc fF))<| ?_;have ah:=ah.mod pI aR;have ah:=ah.mod kS aR;refine st (new:= [.int .i64 o.by_, .int .i64 o.kind, .int .i64 0, .int .i64 o.spot.x, .int .i64 o.spot.y, .int .i64 0]) Z Z ah Z fF Z Z Z λ xz lD ah=> ?_;have:=lD.size;have jD:=Ext.mod lQ lD bw;refine ai<|rt<|bb (.cell Z (ah.all jc fF) .nil)<| ?_;exact ⟨by rw [show aN.bare o=(⟨o.by_,o.kind,0,⟨o.spot.x,o.spot.y⟩,0⟩:aN) from by unfold aN.bare;congr 1<;>(first | rfl | (split<;>first | rfl | omega))];rfl,jD⟩
   ·simp only [cv] at q9;refine bs<|aj<|J (ao Z (aa.all jc fF))<| ?_;have ah:=ah.mod pI aR;refine st (new:= [.int .i64 o.by_, .int .i64 o.kind, .int .i64 0, .int .i64 o.spot.x, .int .i64 o.spot.y, .int .i64 o.what]) Z Z ah Z fF Z Z Z λ Fl ER ah=> ?_;have:=ER.size;have sT:=Ext.mod kj ER bw;refine ai<|rt<|bb (.cell Z (ah.all jc fF) .nil)<| ?_;exact ⟨by rw [show aN.bare o=(⟨o.by_,o.kind,0,⟨o.spot.x,o.spot.y⟩,o.what⟩:aN) from by unfold aN.bare;congr 1<;>(first | rfl | (split<;>first | rfl | omega))];rfl,sT⟩
 ·refine bs<|aB<|aj<|J (au ph Z)<|J (ao Z (aa.one bd Z))<|J (bne Z Z)<|vm Z<|aO Z Z Z Z (λ hc=>au ph Z) Z<|aO Z Z Z Z (λ hc=>ao (gt hc Z) (aa.one bd Z)) Z<|aO Z Z Z Z (λ hc=>bne (gt hc Z) Z) Z<|J (di Z Z Z Z)<|ai<| ?_;refine dT Z (λ wR=> ?_) (λ wR=> ?_)
  ·simp only [cv] at wR;refine rg<|J (v:= .agg #[.int .i64 0, .int .i64 0]) (cG Z (by kernel_rfl))<|J (au BL Z)<|st (new:= [.int .i64 o.by_, .int .i64 o.kind, .int .i64 o.aS, .int .i64 0, .int .i64 0, .int .i64 o.what]) Z Z aa Z bS Z Z Z λ C1 fW aa=> ?_;have:=fW.size;have mJ:=Ext.mod bO fW bw;refine ai<|aB<|aj<|J (au ph Z)<|J (ao Z (aa.one bd Z))<|J (bne Z Z)<|vm Z<|aO Z Z Z Z (λ hc=>au ph Z) Z<|aO Z Z Z Z (λ hc=>ao (gt hc Z) (aa.one bd Z)) Z<|aO Z Z Z Z (λ hc=>bne (gt hc Z) Z) Z<|J (di Z Z Z Z)<|ai<| ?_;refine dT Z (λ Vj=> ?_) (λ Vj=> ?_)
   ·simp only [cv] at Vj;refine rg<|J (au BM Z)<|st (new:= [.int .i64 o.by_, .int .i64 o.kind, .int .i64 o.aS, .int .i64 0, .int .i64 0, .int .i64 0]) Z Z aa Z dr Z Z Z λ pW kT aa=> ?_;have:=kT.size;have hy:=Ext.mod mJ kT bw;refine ai<|aj<|J (ao Z (aa.all jc fF))<| ?_;have ah:=ah.mod fW aR;have ah:=ah.mod kT aR;refine st (new:= [.int .i64 o.by_, .int .i64 o.kind, .int .i64 o.aS, .int .i64 0, .int .i64 0, .int .i64 0]) Z Z ah Z fF Z Z Z λ Mw yN ah=> ?_;have:=yN.size;have rR:=Ext.mod hy yN bw;refine ai<|rt<|bb (.cell Z (ah.all jc fF) .nil)<| ?_;exact ⟨by rw [show aN.bare o=(⟨o.by_,o.kind,o.aS,⟨0,0⟩,0⟩:aN) from by unfold aN.bare;congr 1<;>(first | rfl | (split<;>first | rfl | omega))];rfl,rR⟩
   ·simp only [cv] at Vj;refine bs<|aj<|J (ao Z (aa.all jc fF))<| ?_;have ah:=ah.mod fW aR;refine st (new:= [.int .i64 o.by_, .int .i64 o.kind, .int .i64 o.aS, .int .i64 0, .int .i64 0, .int .i64 o.what]) Z Z ah Z fF Z Z Z λ Ib WZ ah=> ?_;have:=WZ.size;have p2:=Ext.mod mJ WZ bw;refine ai<|rt<|bb (.cell Z (ah.all jc fF) .nil)<| ?_;exact ⟨by rw [show aN.bare o=(⟨o.by_,o.kind,o.aS,⟨0,0⟩,o.what⟩:aN) from by unfold aN.bare;congr 1<;>(first | rfl | (split<;>first | rfl | omega))];rfl,p2⟩
  ·simp only [cv] at wR;refine bs<|aB<|aj<|J (au ph Z)<|J (ao Z (aa.one bd Z))<|J (bne Z Z)<|vm Z<|aO Z Z Z Z (λ hc=>au ph Z) Z<|aO Z Z Z Z (λ hc=>ao (gt hc Z) (aa.one bd Z)) Z<|aO Z Z Z Z (λ hc=>bne (gt hc Z) Z) Z<|J (di Z Z Z Z)<|ai<| ?_;refine dT Z (λ Kg=> ?_) (λ Kg=> ?_)
   ·simp only [cv] at Kg;refine rg<|J (au BM Z)<|st (new:= [.int .i64 o.by_, .int .i64 o.kind, .int .i64 o.aS, .int .i64 o.spot.x, .int .i64 o.spot.y, .int .i64 0]) Z Z aa Z dr Z Z Z λ My ka aa=> ?_;have:=ka.size;have xL:=Ext.mod bO ka bw;refine ai<|aj<|J (ao Z (aa.all jc fF))<| ?_;have ah:=ah.mod ka aR;refine st (new:= [.int .i64 o.by_, .int .i64 o.kind, .int .i64 o.aS, .int .i64 o.spot.x, .int .i64 o.spot.y, .int .i64 0]) Z Z ah Z fF Z Z Z λ Ic pK ah=> ?_;have:=pK.size;have rU:=Ext.mod xL pK bw;refine ai<|rt<|bb (.cell Z (ah.all jc fF) .nil)<| ?_;exact ⟨by rw [show aN.bare o=(⟨o.by_,o.kind,o.aS,⟨o.spot.x,o.spot.y⟩,0⟩:aN) from by unfold aN.bare;congr 1<;>(first | rfl | (split<;>first | rfl | omega))];rfl,rU⟩
   ·simp only [cv] at Kg;refine bs<|aj<|J (ao Z (aa.all jc fF))<|st (new:= [.int .i64 o.by_, .int .i64 o.kind, .int .i64 o.aS, .int .i64 o.spot.x, .int .i64 o.spot.y, .int .i64 o.what]) Z Z ah Z fF Z Z Z λ YC ail ah=> ?_;have:=ail.size;have FK:=Ext.mod bO ail bw;refine ai<|rt<|bb (.cell Z (ah.all jc fF) .nil)<| ?_;exact ⟨by rw [show aN.bare o=(⟨o.by_,o.kind,o.aS,⟨o.spot.x,o.spot.y⟩,o.what⟩:aN) from by unfold aN.bare;congr 1<;>(first | rfl | (split<;>first | rfl | omega))];rfl,FK⟩
theorem Xd (o:aN) (w:World):
  Calls prog 104 #[.agg #[.int .i64 o.by_, .int .i64 o.kind, .int .i64 o.aS, .int .i64 o.spot.x, .int .i64 o.spot.y, .int .i64 o.what]] w (λ e w'=>e= .returned (.int .i64 o.bn)∧Ext w w'):=by
 refine cd (n:=43) func104 Z Z Z ?_;refine aj<|cB Z Z Z Z λ cO bJ ba eb aa=> ?_;have:=ba.size;have bk:=κ (Ext.bI w) ba;have eh:=aa.lt;refine va Z<|ai<|aB<|aj<|J (au tx Z)<|J (ao Z (aa.one bd Z))<|ca Gs Z Z ((HJ o.by_ 0 7 _).mono ?_);rintro e eA ⟨rfl,cF⟩;refine ⟨_,Z, ?_⟩;have:=cF.size;have bO:=κ bk cF;refine J (eg Z)<|vm Z<|aO Z Z Z Z (λ hc=>au ph Z) Z<| ?_;have aa:=aa.later cF;refine aO Z Z Z Z (λ hc=>ao (gt hc Z) (aa.one bd Z)) Z<|pV Z Z Z Z Gs (λ hc=>fp (gt hc Z) (fp Z (fp Z Z))) (λ hc=>HJ o.kind 1 5 _) Z λ uj kV=> ?_;have:=kV.size;have jB:=κ bO kV;refine aO Z Z Z Z (λ hc=>eg (gt hc Z)) Z<|J (ez Z Z Z Z)<|vm Z<|aO Z Z Z Z (λ hc=>au BK Z) Z<| ?_;have aa:=aa.later kV;refine aO Z Z Z Z (λ hc=>ao (gt hc Z) (aa.one bd Z)) Z<|pV Z Z Z Z Gs (λ hc=>fp (gt hc Z) (fp Z (fp Z Z))) (λ hc=>HJ o.aS 0 1000000 _) Z λ Fh pX=> ?_;have:=pX.size;have sR:=κ jB pX;refine aO Z Z Z Z (λ hc=>eg (gt hc Z)) Z<|J (ez Z Z Z Z)<|vm Z<|aO Z Z Z Z (λ hc=>au BL Z) Z<|aO Z Z Z Z (λ hc=>au iv (gt hc Z)) Z<| ?_;have aa:=aa.later pX;refine aO Z Z Z Z (λ hc=>ao (gt hc Z) (aa.one bd Z)) Z<|pV Z Z Z Z Gs (λ hc=>fp (gt hc Z) (fp Z (fp Z Z))) (λ hc=>HJ o.spot.x (-1000) 1000 _) Z λ Mn lM=> ?_;have:=lM.size;have sS:=κ sR lM;refine aO Z Z Z Z (λ hc=>eg (gt hc Z)) Z<|J (ez Z Z Z Z)<|vm Z<|aO Z Z Z Z (λ hc=>au BL Z) Z<|aO Z Z Z Z (λ hc=>au iw (gt hc Z)) Z<| ?_;have aa:=aa.later lM;refine aO Z Z Z Z (λ hc=>ao (gt hc Z) (aa.one bd Z)) Z<|pV Z Z Z Z Gs (λ hc=>fp (gt hc Z) (fp Z (fp Z Z))) (λ hc=>HJ o.spot.y (-1000) 1000 _) Z λ y9 hl=> ?_;have:=hl.size;have mI:=κ sS hl;refine aO Z Z Z Z (λ hc=>eg (gt hc Z)) Z<|J (ez Z Z Z Z)<|vm Z<|aO Z Z Z Z (λ hc=>au BM Z) Z<| ?_;have aa:=aa.later hl;refine aO Z Z Z Z (λ hc=>ao (gt hc Z) (aa.one bd Z)) Z<|pV Z Z Z Z Gs (λ hc=>fp (gt hc Z) (fp Z (fp Z Z))) (λ hc=>HJ o.what 0 1000000 _) Z λ CZ et=> ?_;have:=et.size;have ll:=κ mI et;refine aO Z Z Z Z (λ hc=>eg (gt hc Z)) Z<|J (ez Z Z Z Z)<|ai<| ?_;refine dT Z (λ wQ=> ?_) (λ wQ=> ?_)
 ·refine aj<|va Z<|ai<|rt<|bN<|bb (.tmp Z .nil)<| ?_;exact ⟨by rw [aN.ab3 wQ];rfl,ll⟩
 ·refine bs<|aB<|aB<| ?_;refine rd [(0,0),(1,0),(2,0)] [0,1,2,3] (by kernel_rfl) (by kernel_rfl) ?_;have aa:=aa.later et;refine bE Z (λ _ x=>ao Z ((aa.later x).all jc fF))<|pk Z Z ard Z (λ _ x=>ay9 o _) Z<|bE Z (λ _ x=>ao Z ((aa.later x).all jc fF))<|aq Z (λ _=>N9 ano ann (p:=aN.bare o) (q:=o) Z Z)<|fn λ Rw pY=> ?_;have:=pY.size;have zc:=κ ll pY;refine aV<| ?_;refine dT Z (λ Kb=> ?_) (λ Kb=> ?_)
  ·refine aj<|va Z<|ai<|rt<|bN<|bb (.tmp Z .nil)<| ?_;exact ⟨by rw [aN.apu wQ Kb];rfl,zc⟩
  ·refine bs<|aj<|va Z<|ai<|rt<|bb (.tmp Z .nil)<| ?_;exact ⟨by rw [aN.apv wQ Kb];rfl,zc⟩
theorem Xc (A:Option Addr) (c:Nat) (l:List aN) (w:World) (az:aN.rep.aI 48 w A c l):
  Calls prog 87 #[.slice A l.length c] w (λ e w'=>e= .returned (.int .i64 (hi l))∧Ext w w'):=by
 have pD:=az.d_;refine cd (n:=21) func87 Z Z Z ?_;refine aj<|va Z<|ai<|aB<|aj<|vm Z<|J (cu underlying44 Z)<|J (iu Z Z)<|ai<| ?_;refine ef Z (λ jQ=> ?_) (λ jQ=> ?_)
 ·refine aj<|va Z<|ai<|rt<|bN<|bb (.tmp Z .nil)<| ?_;exact ⟨by rw [azx (by omega)];rfl,(Ext.bI w)⟩
 ·refine bs<|aB<|aj<|vm Z<|J (cu underlying44 Z)<|vm Z<|ai<|bR<| ?_;refine fg (λ cm cl a6=>∃ k:Nat,cl= [(9, .slice A l.length c),(10, .int .i64 (l.length:Int)),(11, .int .i64 (k:Int))]∧cm=l.length - k∧Ext w a6∧(k≤l.length)∧(∀ i,i<k→(l.getD i default).bn=0)) _ _ ⟨0,Z,Z,(Ext.bI w),by omega,λ i ar=>by omega⟩ (.cons Z (.cons Z (.cons (b2 Z (by first | omega | rfl | (simp<;>omega))) .nil))) ?_;rintro LK IJ ke ⟨k,rfl,rfl,cS,av,aM⟩;have:=cS.size;refine aj<|J (blt Z Z)<|ai<|aB<| ?_;refine ef Z (λ mj=> ?_) (λ mj=> ?_)
  ·refine bs<|aB<|bR<|aj<|J (b5 k underlying44 fF Z Z ((az.keep cS).bL (a7 k)) Z (by omega))<|J (ao Z (τ.aI.hE Kp ((az.keep cS).cA (a7 k)) (df (l:=l) (u:=default) (by omega)) jc fF))<|al Z OG Z Z λ Fo N0 cF axw l5=> ?_;have:=cF.size;have n8:=κ cS cF;have aAr:=l5.lt;refine st (new:= [.int .i64 ((l.getD k default).by_), .int .i64 ((l.getD k default).kind), .int .i64 ((l.getD k default).aS), .int .i64 ((l.getD k default).spot.x), .int .i64 ((l.getD k default).spot.y), .int .i64 ((l.getD k default).what)]) Z Z l5 Z fF Z Z Z λ Fh tS l5=> ?_;have:=tS.size;have sR:=Ext.mod n8 tS bw;refine ai<|aj<|J (ao Z (l5.all jc fF))<|ca TS Z Z ((Xd (l.getD k default) _).mono ?_);rintro e uk ⟨rfl,gY⟩;refine ⟨_,Z, ?_⟩;have:=gY.size;have hY:=κ sR gY;refine va Z<|ai<|aj<|vm Z<|J (bne Z Z)<|ai<| ?_;refine eH Z (λ u'=> ?_) (λ u'=> ?_)
   ·refine aj<|vm Z<|va Z<|ai<|rt<|ej<|bN<|lK<|ej<|bN<|bb (.tmp Z .nil)<| ?_;exact ⟨by rw [azw (by omega) (show k<l.length by omega) aM (by simpa using u')];rfl,hY⟩
   ·refine e6<|bX<|aV<|rg<|J (bad Z Z (bG (by omega)))<|vm Z<|nl<| ?_;exact c' _ _ ⟨k+1,Z,Z,hY,by omega,sq aM (by simpa using u')⟩ (by omega) (.cons Z (.cons Z (.cons (b2 Z (by first | omega | rfl | (simp<;>omega))) .nil)))
  ·refine dN<|dL<|ed<|dK<|aV<|aj<|va Z<|ai<|rt<|bb (.tmp Z .nil)<| ?_;exact ⟨by rw [azy (by omega) (λ i ar=>aM i (by omega))];rfl,cS⟩
end
end Go.Proofs.YtlikikpgmmkjbaaGreat
