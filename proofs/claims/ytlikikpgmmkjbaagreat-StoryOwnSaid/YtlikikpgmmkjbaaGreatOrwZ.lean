import Derived.Test.YtlikikpgmmkjbaaGreatPpt
set_option linter.unusedVariables false
set_option linter.unusedSimpArgs false
set_option maxRecDepth 100000
set_option maxHeartbeats 4000000
namespace Go.Proofs.YtlikikpgmmkjbaaGreat
open Tryz
section
open Go.RowKit
theorem ac4 {f:aC} {l:List cS} {T:List aW} {k:Nat} {c:ar} (h:oC f l T k=some c):
  0≤dP l (T.getD k default).id∧fT f (T.getD k default).spot (l.getD (dP l (T.getD k default).id).toNat default).bd=0∧2≤(eW f (T.getD k default).spot (l.getD (dP l (T.getD k default).id).toNat default).bd).length∧
  c=(eW f (T.getD k default).spot (l.getD (dP l (T.getD k default).id).toNat default).bd).getD 1 default∧hL T c≤0:=by
 unfold oC at h;split at h
 ·exact nomatch h
 ·split at h
  ·exact nomatch h
  ·split at h
   ·exact nomatch h
   ·split at h
    ·exact nomatch h
    ·rename_i γ aa au a1
     injection h with h
     subst h;exact ⟨by omega,by simpa using aa,by omega,rfl,by omega⟩
theorem ad1 {f:aC} {a:ar} {ax:ar→Int} (h:mD f a ax) {c:ar} (hc:0≤ax c):∃ r,eT f ax a c=c::r∧(r= []↔c=a):=by
 by_cases e:c=a
 ·subst e;exact ⟨[],x0 h,by simp⟩
 ·obtain ⟨dY,eS,lD,vM⟩:=h.prev hc e;refine ⟨_,x1 h hc e,⟨λ hr=> ?_,λ h=>absurd h e⟩⟩;by_cases bc:j0 f ax c=a
  ·rw [bc,x0 h] at hr;exact nomatch hr
  ·rw [x1 h lD bc] at hr;exact nomatch hr
theorem ad2 {f:aC} {a b x:ar} (he:fT f a b=0) (hn:2≤(eW f a b).length) (hx:(eW f a b).getD 1 default=x):
  fT f a x=0∧fT f x b=0∧mM f a x+mM f x b=mM f a b∧a∈dt x∧f.ground x=true∧x≠a∧eW f a x= [a,x]:=by
 obtain ⟨γ,aa,au,a1⟩:=avv he (n:=1) (by omega) hx;obtain ⟨hf,ha,Φ,aE,av,hp⟩:=OY he;obtain ⟨_,_,alp,hI,_,K5⟩:=OY γ;have F:=F2 hf ha aE;have IU:=F2 hf ha hI;have az:(eW f a x).length=2:=by rw [au,List.length_take];omega
 rw [K5,List.length_reverse] at az;have QF:x≠a:=by
  intro e;obtain ⟨r,aU,bc⟩:=ad1 IU hI;rw [aU,bc.2 e] at az;simp at az
 have fM:=x1 IU hI QF;obtain ⟨dY,eS,lD,vM⟩:=IU.prev hI QF;obtain ⟨r,aU,bc⟩:=ad1 IU lD;rw [fM,aU] at az;have hr:r= []:=List.eq_nil_of_length_eq_zero (by simpa using az);have Zr:=bc.1 hr;refine ⟨γ,aa,a1,by rw [← Zr];exact dY,alp,QF, ?_⟩;rw [K5,fM,aU,hr,Zr];rfl
theorem as2 {T:List aW} {k:Nat} {c:ar} (b3:T.Pairwise Aq) (av:k<T.length) (hc:hL T c≤0):(T.set k ((T.getD k default).bd c)).Pairwise Aq:=by
 have ji:∀ t∈T,t.spot≠c:=λ t aA e=>by have:=aqy.2 ⟨t,aA,e⟩;omega
 have YW:T.getD k default=T[k]:=by rw [List.getD_eq_getElem?_getD,List.getElem?_eq_getElem av];rfl
 rw [List.pairwise_iff_getElem] at b3 ⊢;intro i j ao ay ke;rw [List.length_set] at ao ay;have h:=b3 i j ao ay ke;rw [List.getElem_set,List.getElem_set];split<;>split
 ·omega
 ·rename_i aU bc
  subst aU;exact ⟨by have aiR:=congrArg aW.id YW;have p5:=h.1;show (T.getD k default).id<_;omega,λ e=>ji _ (List.getElem_mem ay) e.symm⟩
 ·rename_i aU bc
  subst bc;exact ⟨by have aiR:=congrArg aW.id YW;have p5:=h.1;show _<(T.getD k default).id;omega,ji _ (List.getElem_mem ao)⟩
 ·exact h
theorem ac2 {f:aC} {l:List cS} {T:List aW} {Q:aW→Prop} (gK:∀ t c,Q t→f.ground c=true→Q (t.bd c)) (b3:T.Pairwise Aq) (bQ:∀ t∈T,Q t):∀ k,k≤T.length→(ir f l T k).1.Pairwise Aq∧∀ t∈(ir f l T k).1,Q t
 | 0,_=>⟨b3,bQ⟩
 | k+1,av=>by
  obtain ⟨ZG,QI⟩:=ac2 (l:=l) gK b3 bQ k (by omega);have az:=(L8 (f:=f) (l:=l) (T:=T) k).1;cases hs:oC f l (ir f l T k).1 k with
  | none=>rw [B5 rfl hs];exact ⟨ZG,QI⟩
  | some c =>
   rw [HV rfl hs];obtain ⟨d1,d2,d3,d4,d5⟩:=ac4 hs;obtain ⟨_,_,_,_,g,_⟩:=ad2 d2 d3 d4.symm;refine ⟨as2 ZG (by omega) d5,λ t aA=> ?_⟩;rcases List.mem_or_eq_of_mem_set aA with aA | rfl
   ·exact QI t aA
   ·exact gK _ _ (QI _ (lz (by omega))) g
noncomputable def BT (f:aC) (l:List cS) (T:List aW) (i:Nat):Option ar:=oC f l (ir f l T i).1 i
theorem atX {T:List aW} {k:Nat} {t:aW} (h:k<T.length):(T.set k t).getD k default=t:=by rw [List.getD_eq_getElem?_getD,List.getElem?_set_self h];rfl
theorem atW {T:List aW} {k i:Nat} {t:aW} (h:k≠i):(T.set k t).getD i default=T.getD i default:=by rw [List.getD_eq_getElem?_getD,List.getElem?_set_ne h,List.getD_eq_getElem?_getD]
theorem L7 {f:aC} {l:List cS} {T:List aW}:∀ k,k≤T.length→∀ i,i<T.length→(ir f l T k).1.getD i default=if i<k then (match BT f l T i with | some c=>(T.getD i default).bd c | none=>T.getD i default) else T.getD i default
 | 0,_,i,ao=>by rw [if_neg (by omega)];rfl
 | k+1,av,i,ao=>by
  have bk:=L7 (f:=f) (l:=l) (T:=T) k (by omega);have az:=(L8 (f:=f) (l:=l) (T:=T) k).1;have nP:=bk k (by omega);rw [if_neg (by omega)] at nP;cases hs:BT f l T k with
  | none =>
   rw [B5 rfl hs,bk i ao];by_cases e:i=k
   ·subst e;rw [if_neg (by omega),if_pos (by omega),hs]
   ·by_cases bc:i<k
    ·rw [if_pos bc,if_pos (by omega)]
    ·rw [if_neg bc,if_neg (by omega)]
  | some c =>
   rw [HV rfl hs];by_cases e:i=k
   ·subst e;rw [atX (by omega),if_pos (by omega),hs,nP]
   ·rw [atW (λ h=>e h.symm),bk i ao];by_cases bc:i<k
    ·rw [if_pos bc,if_pos (by omega)]
    ·rw [if_neg bc,if_neg (by omega)]
theorem ac1 {f:aC} {l:List cS} {T:List aW}:∀ k,k≤T.length→(ir f l T k).2=((List.range k).filter λ i=>(BT f l T i).isSome).map λ i=>(T.getD i default).id
 | 0,_=>rfl
 | k+1,av=>by
  have bk:=ac1 (f:=f) (l:=l) (T:=T) k (by omega);have nP:=L7 (f:=f) (l:=l) (T:=T) k (by omega) k (by omega);rw [if_neg (by omega)] at nP;rw [List.range_succ,List.filter_append,List.map_append,List.filter_cons];cases hs:BT f l T k with
  | none=>rw [B5 rfl hs,bk];simp
  | some c=>rw [HV rfl hs,bk,nP];simp
theorem apT {W:ae} {l:List cS} (h:px W l=0):W.bh=0∧fN W l=(W.kn l).1∧mj W l=(W.kn l).2:=by
 have hc:W.bh=0:=by
  apply Classical.byContradiction;intro hn;rw [(abk (l:=l) hn).1] at h;exact hn h
 by_cases az:(l.length:Int)≤200
 ·have:=Lu (l:=l) hc az;exact ⟨hc,this.2⟩
 ·rw [(abl (l:=l) hc (by omega)).1] at h;exact nomatch h
theorem apS {W:ae} {l:List cS} (h:px W l=0):
  Good (fN W l)∧(fN W l).ag.length=W.ag.length∧HS (mj W l)=true∧fN W l= {W with ag:=(fN W l).ag}∧
  ∀ k,k<W.ag.length→((mj W l).any (λ y=>(W.ag.getD k default).id == y)=false∧(fN W l).ag.getD k default=W.ag.getD k default)∨
   ∃ c:ar,(mj W l).any (λ y=>(W.ag.getD k default).id == y)=true∧(fN W l).ag.getD k default=(W.ag.getD k default).bd c∧0≤dP l (W.ag.getD k default).id∧
    fT W.field (W.ag.getD k default).spot (l.getD (dP l (W.ag.getD k default).id).toNat default).bd=0∧fT W.field c (l.getD (dP l (W.ag.getD k default).id).toNat default).bd=0∧fT W.field (W.ag.getD k default).spot c=0∧
    mM W.field (W.ag.getD k default).spot (l.getD (dP l (W.ag.getD k default).id).toNat default).bd=mM W.field c (l.getD (dP l (W.ag.getD k default).id).toNat default).bd+mM W.field (W.ag.getD k default).spot c∧
    (W.ag.getD k default).spot∈dt c:=by
 obtain ⟨hc,akj,akc⟩:=apT h;have bq:=Good.zD hc;rw [akj,akc];have di:=ac2 (f:=W.field) (l:=l) (T:=W.ag) (Q:=λ t=>0<t.id∧t.id<W.next∧Jd W.field W.aY.length t)
  (λ t c I aO=>⟨I.1,I.2.1,⟨I.2.2.kind,I.2.2.owner,aO,I.2.2.cG,I.2.2.load⟩⟩) bq.Eh (λ t aA=>bq.each aA) W.ag.length (Nat.le_refl _)
 have hlen:=Sj W l;have tI:=ac1 (f:=W.field) (l:=l) (T:=W.ag) W.ag.length (Nat.le_refl _);have DO:=bq.Eh;refine ⟨Good.abF bq Z Z Z Z Z bq.now (by rw [hlen];exact bq.eo) di.1 di.2,hlen, ?_,Z,λ k av=> ?_⟩
 ·show HS (ir W.field l W.ag W.ag.length).2=true;rw [tI];refine ate ?_;rw [List.pairwise_map];have hr:((List.range W.ag.length).filter λ i=>(BT W.field l W.ag i).isSome).Pairwise (· < ·):=List.Pairwise.filter _ List.pairwise_lt_range;refine List.Pairwise.imp_of_mem (fun {i j} ao ay ke=> ?_) hr;have ao:=List.mem_range.1 (List.mem_filter.1 ao).1;have ay:=List.mem_range.1 (List.mem_filter.1 ay).1;rw [nI ao,nI ay];exact ((List.pairwise_iff_getElem.1 DO) i j ao ay ke).1
 ·have dz:=L7 (f:=W.field) (l:=l) (T:=W.ag) W.ag.length (Nat.le_refl _) k av;rw [if_pos av] at dz;have nP:=L7 (f:=W.field) (l:=l) (T:=W.ag) k (by omega) k av;rw [if_neg (by omega)] at nP;have nK:((W.kn l).2).any (λ y=>(W.ag.getD k default).id == y)=(BT W.field l W.ag k).isSome:=by
   show (ir W.field l W.ag W.ag.length).2.any _=_;rw [tI,Bool.eq_iff_iff,List.any_eq_true];constructor
   ·rintro ⟨y,aG,e⟩;obtain ⟨i,ao,rfl⟩:=List.mem_map.1 aG;obtain ⟨xj,Bt⟩:=List.mem_filter.1 ao;have xj:=List.mem_range.1 xj;have e:(W.ag.getD k default).id=(W.ag.getD i default).id:=by simpa using e
    have:i=k:=by
     rw [nI av,nI xj] at e;rcases Nat.lt_trichotomy i k with q | q | q
     ·have:=((List.pairwise_iff_getElem.1 DO) i k xj av q).1;omega
     ·exact q
     ·have:=((List.pairwise_iff_getElem.1 DO) k i av xj q).1;omega
    rw [← this];exact Bt
   ·intro hs;exact ⟨_,List.mem_map.2 ⟨k,List.mem_filter.2 ⟨List.mem_range.2 av,hs⟩,Z⟩,by simp⟩
  cases hs:BT W.field l W.ag k with
  | none =>
   rw [hs] at dz nK;exact .inl ⟨nK,dz⟩
  | some c =>
   rw [hs] at dz nK;obtain ⟨d1,d2,d3,d4,d5⟩:=ac4 hs;rw [nP] at d1 d2 d3 d4;obtain ⟨f1,f2,f3,f4,f5,f6,f7⟩:=ad2 d2 d3 d4.symm;exact .inr ⟨c,nK,dz,d1,d2,f2,f1,by omega,f4⟩
end
section
open Go.RowKit
structure aI where
 by_:Int
 kind:Int
 aL:Int
 spot:ar
 what:Int
 deriving DecidableEq,Inhabited
namespace aI
def cells (a:aI):List Value:= [.int .i64 (a.by_), .int .i64 (a.kind), .int .i64 (a.aL), .int .i64 (a.spot.x), .int .i64 (a.spot.y), .int .i64 (a.what)]
def ok (a:aI):Prop:=(Lit.int .i64 a.by_).wf=true∧(Lit.int .i64 a.kind).wf=true∧(Lit.int .i64 a.aL).wf=true∧(Lit.int .i64 a.spot.x).wf=true∧(Lit.int .i64 a.spot.y).wf=true∧(Lit.int .i64 a.what).wf=true
def raw (j:Nat) (u:Value):Prop:=match j with
 | 0=>∃ n:Int,u= .int .i64 n
 | 1=>∃ n:Int,u= .int .i64 n
 | 2=>∃ n:Int,u= .int .i64 n
 | 3=>∃ n:Int,u= .int .i64 n
 | 4=>∃ n:Int,u= .int .i64 n
 | 5=>∃ n:Int,u= .int .i64 n
 | _=>True
theorem qY (a:aI):∀ (j:Nat) u,a.cells[j]? =some u→raw j u:=by
 intro j u hu
 match j,hu with
 | 0,hu=>exact ⟨_,(Option.some.inj hu).symm⟩
 | 1,hu=>exact ⟨_,(Option.some.inj hu).symm⟩
 | 2,hu=>exact ⟨_,(Option.some.inj hu).symm⟩
 | 3,hu=>exact ⟨_,(Option.some.inj hu).symm⟩
 | 4,hu=>exact ⟨_,(Option.some.inj hu).symm⟩
 | 5,hu=>exact ⟨_,(Option.some.inj hu).symm⟩
 | j+6,hu=>exact trivial
theorem qX (a:aI):∀ u∈a.cells,u.oneCell'=true:=by
 intro u hu;unfold cells at hu;simp only [List.mem_cons,List.not_mem_nil,or_false] at hu;rcases hu with rfl | rfl | rfl | rfl | rfl | rfl<;>rfl
def rep:κ aI:=κ.flat 6 cells ok raw (λ _=>rfl) qX qY
theorem plain:rep.Plain:=κ.r5
def zero:Value:= .agg #[.int .i64 0, .int .i64 0, .int .i64 0, .int .i64 0, .int .i64 0, .int .i64 0]
theorem lS:∀ (j:Nat) u,zero.cells[j]? =some u→rep.raw j u:=by
 intro j u hu;have hu:(#[(.int .i64 0:Value),(.int .i64 0:Value),(.int .i64 0:Value),(.int .i64 0:Value),(.int .i64 0:Value),(.int .i64 0:Value)]:Array Value)[j]? =some u:=hu
 match j,hu with
 | 0,hu=>exact ⟨_,(Option.some.inj hu).symm⟩
 | 1,hu=>exact ⟨_,(Option.some.inj hu).symm⟩
 | 2,hu=>exact ⟨_,(Option.some.inj hu).symm⟩
 | 3,hu=>exact ⟨_,(Option.some.inj hu).symm⟩
 | 4,hu=>exact ⟨_,(Option.some.inj hu).symm⟩
 | 5,hu=>exact ⟨_,(Option.some.inj hu).symm⟩
 | j+6,hu=>cases hu
theorem info:(prog.info? 51).map (λ i=>(i.zero,i.size,i.bytes))=some (some zero,6,48):=by kernel_rfl
theorem AU {by_:Nat} {w:World} {A:Option Addr} {c:Nat} {l:List aI} (h:rep.aH by_ w A c l):∀ a∈l,a.ok:=κ.aH.AT (R:=rep) (Q:=ok) (fun {w cs a} (h:rep.has w cs a)=>(show cs=a.cells∧a.ok from h).2) h
def sh:fr:=(.cons (.int .i64) (.cons (.int .i64) (.cons (.int .i64) (.cons (.cons (.int .i64) (.cons (.int .i64) .nil)) (.cons (.int .i64) .nil)))))
theorem opens (w:World) (cs:List Value) (h:sh.gY w cs):∃ a,rep.has w cs a:=by
 obtain ⟨_,_,rfl,_,_,⟨cK,rfl,sk⟩,⟨_,_,rfl,_,_,⟨eh,rfl,dk⟩,⟨_,_,rfl,_,_,⟨gT,rfl,ea⟩,⟨_,_,rfl,_,_,⟨_,_,rfl,_,_,⟨iv,rfl,jl⟩,⟨_,_,rfl,_,_,⟨n6,rfl,QM⟩,rfl⟩⟩,⟨_,_,rfl,_,_,⟨nj,rfl,G8⟩,rfl⟩⟩⟩⟩⟩:=h;exact ⟨⟨cK,eh,gT,⟨iv,n6⟩,nj⟩,Z,sk,dk,ea,jl,QM,G8⟩
end aI
end
section
open Go.RowKit
theorem afT:Fa prog aI.cells 51 :=by
 intro a b w;obtain ⟨a0,b7,a2,⟨a3,a4⟩,a5⟩:=a;obtain ⟨FG,kR,eF,⟨fK,wS⟩,C1⟩:=b;simp only [aI.cells,aI.mk.injEq,ar.mk.injEq];constructor
 ·go_simp
  repeat' split
  all_goals simp_all
 ·go_simp
  repeat' split
  all_goals simp_all
theorem afS:(prog).eqGuardType (prog).depth 51 =false:=by kernel_rfl
theorem Gr {w:World} {cs:List Value} {a:aI} (h:aI.rep.has w cs a):cs=a.cells:=And.left (show cs=a.cells∧a.ok from h)
def aI.bare (o:aI):aI:=⟨o.by_,o.kind,if o.kind=5 then 0 else o.aL,if o.kind≠2∧o.kind≠3 then ⟨0,0⟩ else o.spot,if o.kind≠1∧o.kind≠5 then 0 else o.what⟩
def aI.LL (o:aI):Bool:= !cw o.by_ 0 7 || !cw o.kind 1 5 || !cw o.aL 0 1000000 || !cw o.spot.x (-1000) 1000 || !cw o.spot.y (-1000) 1000 || !cw o.what 0 1000000
def aI.bh (o:aI):Int:=if o.LL=true then 1 else if (!decide (o.bare=o))=true then 4 else 0
theorem aI.ahH {o:aI} (h:o.LL=true):o.bh=1:=by unfold aI.bh;rw [if_pos h]
theorem aI.ahI {o:aI} (h:o.LL=false) (aa:(!decide (o.bare=o))=true):o.bh=4:=by unfold aI.bh;rw [if_neg (by rw [h];decide),if_pos aa]
theorem aI.ahJ {o:aI} (h:o.LL=false) (aa:(!decide (o.bare=o))=false):o.bh=0:=by unfold aI.bh;rw [if_neg (by rw [h];decide),if_neg (by rw [aa];decide)]
def iT (l:List aI):Int:=if 100<l.length then 2 else match l.find? (λ o=>o.bh != 0) with | some o=>o.bh | none=>0
theorem aqT {l:List aI} (h:100<l.length):iT l=2:=by unfold iT;rw [if_pos h]
theorem aqU {l:List aI} (h:l.length≤100) (aO:∀ i,i<l.length→(l.getD i default).bh=0):iT l=0:=by
 unfold iT;rw [if_neg (by omega)];have:l.find? (λ o=>o.bh != 0)=none:=List.find?_eq_none.2 λ x hx=>by
  obtain ⟨i,ao,rfl⟩:=List.mem_iff_getElem.1 hx;have:=aO i ao;rw [nI ao] at this;simp [this]
 rw [this]
theorem aqS {l:List aI} {k:Nat} (h:l.length≤100) (av:k<l.length) (aO:∀ i,i<k→(l.getD i default).bh=0) (Φ:¬ (l.getD k default).bh=0):iT l=(l.getD k default).bh:=by
 unfold iT;rw [if_neg (by omega)];have:l.find? (λ o=>o.bh != 0)=some (l.getD k default):=by
  rw [List.find?_eq_some_iff_getElem];refine ⟨by simpa using Φ,k,av,(nI av).symm,λ j ay=> ?_⟩;have:=aO j ay;rw [nI (by omega)] at this;simp [this]
 rw [this]
theorem Ed (n lo ao:Int) (w:World):
  Calls prog 145 #[.int .i64 n, .int .i64 lo, .int .i64 ao] w (λ e w'=>e= .returned (.bool (cw n lo ao))∧Ext w w'):=by
 refine cv (n:=15) func145 Z Z Z ?_;refine aj<|va Z<|ah<|aj<|vm Z<|vm Z<|J (l1 Z Z)<|vm Z<|bB Z Z Z Z (λ hc=>aJ Z) Z<|bB Z Z Z Z (λ hc=>aJ Z) Z<|bB Z Z Z Z (λ hc=>ble (gt hc Z) (gt hc Z)) Z<|J (eA Z Z Z Z)<|va Z<|ah<|rt<|bp (.tmp Z .nil)<| ?_;exact ⟨Z,(Ext.bM w)⟩
theorem aqx (o:aI) (w:World):
  Calls prog 146 #[.agg #[.int .i64 o.by_, .int .i64 o.kind, .int .i64 o.aL, .int .i64 o.spot.x, .int .i64 o.spot.y, .int .i64 o.what]] w (λ e w'=>e= .returned (.agg (aI.bare o).cells.toArray)∧Ext w w'):=by
 refine cv (n:=27) func146 Z Z Z ?_;refine aj<|cI Z Z Z Z λ dw bC bg eY ab=> ?_;have:=bg.size;have br:=τ (Ext.bM w) bg;have eZ:=ab.lt;refine al Z JY Z Z λ eB c_ bj iF ai=> ?_;have:=bj.size;have bS:=τ br bj;have iJ:=ai.lt;refine ah<|aD<|aj<|J (aw nG Z)<| ?_;have ab:=ab.later bj;refine J (ak Z (ab.one aZ Z))<|J (beq Z Z)<|ah<| ?_;refine l3 Z (λ kD=> ?_) (λ kD=> ?_)
 ·refine rg<|J (aw yL Z)<|st (new:= [.int .i64 o.by_, .int .i64 o.kind, .int .i64 0, .int .i64 o.spot.x, .int .i64 o.spot.y, .int .i64 o.what]) Z Z ab Z cz Z Z Z λ xT sq ab=> ?_;have:=sq.size;have j6:=Ext.mod bS sq (bR (by omega));have:=sq.size;refine ah<|aD<|aj<|J (aw nG Z)<|J (ak Z (ab.one aZ Z))<|J (bne Z Z)<|vm Z<|bB Z Z Z Z (λ hc=>aw nG Z) Z<|bB Z Z Z Z (λ hc=>ak (gt hc Z) (ab.one aZ Z)) Z<|bB Z Z Z Z (λ hc=>bne (gt hc Z) Z) Z<|J (eA Z Z Z Z)<|ah<| ?_;refine fk Z (λ PG=> ?_) (λ PG=> ?_)
  ·simp only [cB] at PG;refine rg<|J (v:= .agg #[.int .i64 0, .int .i64 0]) (cO Z (by kernel_rfl))<|J (aw yM Z)<|st (new:= [.int .i64 o.by_, .int .i64 o.kind, .int .i64 0, .int .i64 0, .int .i64 0, .int .i64 o.what]) Z Z ab Z bE Z Z Z λ xV jm ab=> ?_;have:=jm.size;have ks:=Ext.mod j6 jm (bR (by omega));have:=jm.size;refine ah<|aD<|aj<|J (aw nG Z)<|J (ak Z (ab.one aZ Z))<|J (bne Z Z)<|vm Z<|bB Z Z Z Z (λ hc=>aw nG Z) Z<|bB Z Z Z Z (λ hc=>ak (gt hc Z) (ab.one aZ Z)) Z<|bB Z Z Z Z (λ hc=>bne (gt hc Z) Z) Z<|J (eA Z Z Z Z)<|ah<| ?_;refine fk Z (λ yW=> ?_) (λ yW=> ?_)
   ·simp only [cB] at yW;refine rg<|J (aw yN Z)<|st (new:= [.int .i64 o.by_, .int .i64 o.kind, .int .i64 0, .int .i64 0, .int .i64 0, .int .i64 0]) Z Z ab Z cz Z Z Z λ oE sr ab=> ?_;have:=sr.size;have x4:=Ext.mod ks sr (bR (by omega));have:=sr.size;refine ah<|aj<|J (ak Z (ab.all je e6))<| ?_;have ai:=ai.mod sq (bb (by omega));have ai:=ai.mod jm (bb (by omega));have ai:=ai.mod sr (bb (by omega));refine st (new:= [.int .i64 o.by_, .int .i64 o.kind, .int .i64 0, .int .i64 0, .int .i64 0, .int .i64 0]) Z Z ai Z e6 Z Z Z λ xW rm ai=> ?_;have:=rm.size;have nt:=Ext.mod x4 rm (bR (by omega));have:=rm.size;refine ah<|rt<|bp (.cell Z (ai.all je e6) .nil)<| ?_;exact ⟨by rw [show aI.bare o=(⟨o.by_,o.kind,0,⟨0,0⟩,0⟩:aI) from by unfold aI.bare;congr 1<;>(first | rfl | (split<;>first | rfl | omega))];rfl,nt⟩
   ·simp only [cB] at yW;refine bx<|aj<|J (ak Z (ab.all je e6))<| ?_;have ai:=ai.mod sq (bb (by omega));have ai:=ai.mod jm (bb (by omega));refine st (new:= [.int .i64 o.by_, .int .i64 o.kind, .int .i64 0, .int .i64 0, .int .i64 0, .int .i64 o.what]) Z Z ai Z e6 Z Z Z λ EE il ai=> ?_;have:=il.size;have qB:=Ext.mod ks il (bR (by omega));have:=il.size;refine ah<|rt<|bp (.cell Z (ai.all je e6) .nil)<| ?_;exact ⟨by rw [show aI.bare o=(⟨o.by_,o.kind,0,⟨0,0⟩,o.what⟩:aI) from by unfold aI.bare;congr 1<;>(first | rfl | (split<;>first | rfl | omega))];rfl,qB⟩
  ·simp only [cB] at PG;refine bx<|aD<|aj<|J (aw nG Z)<|J (ak Z (ab.one aZ Z))<|J (bne Z Z)<|vm Z<|bB Z Z Z Z (λ hc=>aw nG Z) Z<|bB Z Z Z Z (λ hc=>ak (gt hc Z) (ab.one aZ Z)) Z<|bB Z Z Z Z (λ hc=>bne (gt hc Z) Z) Z<|J (eA Z Z Z Z)<|ah<| ?_;refine fk Z (λ Dy=> ?_) (λ Dy=> ?_)
   ·simp only [cB] at Dy;refine rg<|J (aw yN Z)<|st (new:= [.int .i64 o.by_, .int .i64 o.kind, .int .i64 0, .int .i64 o.spot.x, .int .i64 o.spot.y, .int .i64 0]) Z Z ab Z cz Z Z Z λ uJ im ab=> ?_;have:=im.size;have k7:=Ext.mod j6 im (bR (by omega));have:=im.size;refine ah<|aj<|J (ak Z (ab.all je e6))<| ?_;have ai:=ai.mod sq (bb (by omega));have ai:=ai.mod im (bb (by omega));refine st (new:= [.int .i64 o.by_, .int .i64 o.kind, .int .i64 0, .int .i64 o.spot.x, .int .i64 o.spot.y, .int .i64 0]) Z Z ai Z e6 Z Z Z λ xX mg ai=> ?_;have:=mg.size;have jM:=Ext.mod k7 mg (bR (by omega));have:=mg.size;refine ah<|rt<|bp (.cell Z (ai.all je e6) .nil)<| ?_;exact ⟨by rw [show aI.bare o=(⟨o.by_,o.kind,0,⟨o.spot.x,o.spot.y⟩,0⟩:aI) from by unfold aI.bare;congr 1<;>(first | rfl | (split<;>first | rfl | omega))];rfl,jM⟩
   ·simp only [cB] at Dy;refine bx<|aj<|J (ak Z (ab.all je e6))<| ?_;have ai:=ai.mod sq (bb (by omega));refine st (new:= [.int .i64 o.by_, .int .i64 o.kind, .int .i64 0, .int .i64 o.spot.x, .int .i64 o.spot.y, .int .i64 o.what]) Z Z ai Z e6 Z Z Z λ zY zy ai=> ?_;have:=zy.size;have oK:=Ext.mod j6 zy (bR (by omega));have:=zy.size;refine ah<|rt<|bp (.cell Z (ai.all je e6) .nil)<| ?_;exact ⟨by rw [show aI.bare o=(⟨o.by_,o.kind,0,⟨o.spot.x,o.spot.y⟩,o.what⟩:aI) from by unfold aI.bare;congr 1<;>(first | rfl | (split<;>first | rfl | omega))];rfl,oK⟩
 ·refine bx<|aD<|aj<|J (aw nG Z)<|J (ak Z (ab.one aZ Z))<|J (bne Z Z)<|vm Z<|bB Z Z Z Z (λ hc=>aw nG Z) Z<|bB Z Z Z Z (λ hc=>ak (gt hc Z) (ab.one aZ Z)) Z<|bB Z Z Z Z (λ hc=>bne (gt hc Z) Z) Z<|J (eA Z Z Z Z)<|ah<| ?_;refine fk Z (λ Bf=> ?_) (λ Bf=> ?_)
  ·simp only [cB] at Bf;refine rg<|J (v:= .agg #[.int .i64 0, .int .i64 0]) (cO Z (by kernel_rfl))<|J (aw yM Z)<|st (new:= [.int .i64 o.by_, .int .i64 o.kind, .int .i64 o.aL, .int .i64 0, .int .i64 0, .int .i64 o.what]) Z Z ab Z bE Z Z Z λ EI fD ab=> ?_;have:=fD.size;have n':=Ext.mod bS fD (bR (by omega));have:=fD.size;refine ah<|aD<|aj<|J (aw nG Z)<|J (ak Z (ab.one aZ Z))<|J (bne Z Z)<|vm Z<|bB Z Z Z Z (λ hc=>aw nG Z) Z<|bB Z Z Z Z (λ hc=>ak (gt hc Z) (ab.one aZ Z)) Z<|bB Z Z Z Z (λ hc=>bne (gt hc Z) Z) Z<|J (eA Z Z Z Z)<|ah<| ?_;refine fk Z (λ PQ=> ?_) (λ PQ=> ?_)
   ·simp only [cB] at PQ;refine rg<|J (aw yN Z)<|st (new:= [.int .i64 o.by_, .int .i64 o.kind, .int .i64 o.aL, .int .i64 0, .int .i64 0, .int .i64 0]) Z Z ab Z cz Z Z Z λ sF mZ ab=> ?_;have:=mZ.size;have jN:=Ext.mod n' mZ (bR (by omega));have:=mZ.size;refine ah<|aj<|J (ak Z (ab.all je e6))<| ?_;have ai:=ai.mod fD (bb (by omega));have ai:=ai.mod mZ (bb (by omega));refine st (new:= [.int .i64 o.by_, .int .i64 o.kind, .int .i64 o.aL, .int .i64 0, .int .i64 0, .int .i64 0]) Z Z ai Z e6 Z Z Z λ H6 uo ai=> ?_;have:=uo.size;have pO:=Ext.mod jN uo (bR (by omega));have:=uo.size;refine ah<|rt<|bp (.cell Z (ai.all je e6) .nil)<| ?_;exact ⟨by rw [show aI.bare o=(⟨o.by_,o.kind,o.aL,⟨0,0⟩,0⟩:aI) from by unfold aI.bare;congr 1<;>(first | rfl | (split<;>first | rfl | omega))];rfl,pO⟩
   ·simp only [cB] at PQ;refine bx<|aj<|J (ak Z (ab.all je e6))<| ?_;have ai:=ai.mod fD (bb (by omega));refine st (new:= [.int .i64 o.by_, .int .i64 o.kind, .int .i64 o.aL, .int .i64 0, .int .i64 0, .int .i64 o.what]) Z Z ai Z e6 Z Z Z λ H8 Lr ai=> ?_;have:=Lr.size;have pP:=Ext.mod n' Lr (bR (by omega));have:=Lr.size;refine ah<|rt<|bp (.cell Z (ai.all je e6) .nil)<| ?_;exact ⟨by rw [show aI.bare o=(⟨o.by_,o.kind,o.aL,⟨0,0⟩,o.what⟩:aI) from by unfold aI.bare;congr 1<;>(first | rfl | (split<;>first | rfl | omega))];rfl,pP⟩
  ·simp only [cB] at Bf;refine bx<|aD<|aj<|J (aw nG Z)<|J (ak Z (ab.one aZ Z))<|J (bne Z Z)<|vm Z<|bB Z Z Z Z (λ hc=>aw nG Z) Z<|bB Z Z Z Z (λ hc=>ak (gt hc Z) (ab.one aZ Z)) Z<|bB Z Z Z Z (λ hc=>bne (gt hc Z) Z) Z<|J (eA Z Z Z Z)<|ah<| ?_;refine fk Z (λ Bg=> ?_) (λ Bg=> ?_)
   ·simp only [cB] at Bg;refine rg<|J (aw yN Z)<|st (new:= [.int .i64 o.by_, .int .i64 o.kind, .int .i64 o.aL, .int .i64 o.spot.x, .int .i64 o.spot.y, .int .i64 0]) Z Z ab Z cz Z Z Z λ Mt h8 ab=> ?_;have:=h8.size;have x7:=Ext.mod bS h8 (bR (by omega));have:=h8.size;refine ah<|aj<|J (ak Z (ab.all je e6))<| ?_;have ai:=ai.mod h8 (bb (by omega));refine st (new:= [.int .i64 o.by_, .int .i64 o.kind, .int .i64 o.aL, .int .i64 o.spot.x, .int .i64 o.spot.y, .int .i64 0]) Z Z ai Z e6 Z Z Z λ H9 mh ai=> ?_;have:=mh.size;have uT:=Ext.mod x7 mh (bR (by omega));have:=mh.size;refine ah<|rt<|bp (.cell Z (ai.all je e6) .nil)<| ?_;exact ⟨by rw [show aI.bare o=(⟨o.by_,o.kind,o.aL,⟨o.spot.x,o.spot.y⟩,0⟩:aI) from by unfold aI.bare;congr 1<;>(first | rfl | (split<;>first | rfl | omega))];rfl,uT⟩
   ·simp only [cB] at Bg;refine bx<|aj<|J (ak Z (ab.all je e6))<|st (new:= [.int .i64 o.by_, .int .i64 o.kind, .int .i64 o.aL, .int .i64 o.spot.x, .int .i64 o.spot.y, .int .i64 o.what]) Z Z ai Z e6 Z Z Z λ adW Rf ai=> ?_;have:=Rf.size;have Ix:=Ext.mod bS Rf (bR (by omega));have:=Rf.size;refine ah<|rt<|bp (.cell Z (ai.all je e6) .nil)<| ?_;exact ⟨by rw [show aI.bare o=(⟨o.by_,o.kind,o.aL,⟨o.spot.x,o.spot.y⟩,o.what⟩:aI) from by unfold aI.bare;congr 1<;>(first | rfl | (split<;>first | rfl | omega))];rfl,Ix⟩
theorem aqC (o:aI) (w:World):
  Calls prog 104 #[.agg #[.int .i64 o.by_, .int .i64 o.kind, .int .i64 o.aL, .int .i64 o.spot.x, .int .i64 o.spot.y, .int .i64 o.what]] w (λ e w'=>e= .returned (.int .i64 o.bh)∧Ext w w'):=by
 refine cv (n:=43) func104 Z Z Z ?_;refine aj<|cI Z Z Z Z λ dw bC bg eY ab=> ?_;have:=bg.size;have br:=τ (Ext.bM w) bg;have eZ:=ab.lt;refine va Z<|ah<|aD<|aj<|J (aw w1 Z)<|J (ak Z (ab.one aZ Z))<|ca Dd Z Z ((Ed o.by_ 0 7 _).mono ?_);rintro e eB ⟨rfl,dn⟩;refine ⟨_,Z, ?_⟩;have:=dn.size;have bS:=τ br dn;refine J (eo Z)<|vm Z<|bB Z Z Z Z (λ hc=>aw nG Z) Z<| ?_;have ab:=ab.later dn;refine bB Z Z Z Z (λ hc=>ak (gt hc Z) (ab.one aZ Z)) Z<|uH Z Z Z Z Dd (λ hc=>fB (gt hc Z) (fB Z (fB Z Z))) (λ hc=>Ed o.kind 1 5 _) Z λ B_ lM=> ?_;have:=lM.size;have pM:=τ bS lM;refine bB Z Z Z Z (λ hc=>eo (gt hc Z)) Z<|J (gy Z Z Z Z)<|vm Z<|bB Z Z Z Z (λ hc=>aw yL Z) Z<| ?_;have ab:=ab.later lM;refine bB Z Z Z Z (λ hc=>ak (gt hc Z) (ab.one aZ Z)) Z<|uH Z Z Z Z Dd (λ hc=>fB (gt hc Z) (fB Z (fB Z Z))) (λ hc=>Ed o.aL 0 1000000 _) Z λ EC n7=> ?_;have:=n7.size;have uQ:=τ pM n7;refine bB Z Z Z Z (λ hc=>eo (gt hc Z)) Z<|J (gy Z Z Z Z)<|vm Z<|bB Z Z Z Z (λ hc=>aw yM Z) Z<|bB Z Z Z Z (λ hc=>aw gJ (gt hc Z)) Z<| ?_;have ab:=ab.later n7;refine bB Z Z Z Z (λ hc=>ak (gt hc Z) (ab.one aZ Z)) Z<|uH Z Z Z Z Dd (λ hc=>fB (gt hc Z) (fB Z (fB Z Z))) (λ hc=>Ed o.spot.x (-1000) 1000 _) Z λ wa h_=> ?_;have:=h_.size;have rI:=τ uQ h_;refine bB Z Z Z Z (λ hc=>eo (gt hc Z)) Z<|J (gy Z Z Z Z)<|vm Z<|bB Z Z Z Z (λ hc=>aw yM Z) Z<|bB Z Z Z Z (λ hc=>aw hh (gt hc Z)) Z<| ?_;have ab:=ab.later h_;refine bB Z Z Z Z (λ hc=>ak (gt hc Z) (ab.one aZ Z)) Z<|uH Z Z Z Z Dd (λ hc=>fB (gt hc Z) (fB Z (fB Z Z))) (λ hc=>Ed o.spot.y (-1000) 1000 _) Z λ xU js=> ?_;have:=js.size;have np:=τ rI js;refine bB Z Z Z Z (λ hc=>eo (gt hc Z)) Z<|J (gy Z Z Z Z)<|vm Z<|bB Z Z Z Z (λ hc=>aw yN Z) Z<| ?_;have ab:=ab.later js;refine bB Z Z Z Z (λ hc=>ak (gt hc Z) (ab.one aZ Z)) Z<|uH Z Z Z Z Dd (λ hc=>fB (gt hc Z) (fB Z (fB Z Z))) (λ hc=>Ed o.what 0 1000000 _) Z λ H5 fP=> ?_;have:=fP.size;have n_:=τ np fP;refine bB Z Z Z Z (λ hc=>eo (gt hc Z)) Z<|J (gy Z Z Z Z)<|ah<| ?_;refine fk Z (λ tL=> ?_) (λ tL=> ?_)
 ·refine aj<|va Z<|ah<|rt<|cf<|bp (.tmp Z .nil)<| ?_;exact ⟨by rw [aI.ahH tL];rfl,n_⟩
 ·refine bx<|aD<|aD<| ?_;refine rd [(0,0),(1,0),(2,0)] [0,1,2,3] (by kernel_rfl) (by kernel_rfl) ?_;have ab:=ab.later fP;refine bD Z (λ _ x=>ak Z ((ab.later x).all je e6))<|o8 Z Z aja Z (λ _ x=>aqx o _) Z<|bD Z (λ _ x=>ak Z ((ab.later x).all je e6))<|aq Z (λ _=>Jx afT afS (p:=aI.bare o) (q:=o) Z Z)<|fn λ SE sM=> ?_;have:=sM.size;have Aj:=τ n_ sM;refine a6<| ?_;refine fk Z (λ PK=> ?_) (λ PK=> ?_)
  ·refine aj<|va Z<|ah<|rt<|cf<|bp (.tmp Z .nil)<| ?_;exact ⟨by rw [aI.ahI tL PK];rfl,Aj⟩
  ·refine bx<|aj<|va Z<|ah<|rt<|bp (.tmp Z .nil)<| ?_;exact ⟨by rw [aI.ahJ tL PK];rfl,Aj⟩
theorem Rq (A:Option Addr) (c:Nat) (l:List aI) (w:World) (az:aI.rep.aH 48 w A c l):
  Calls prog 87 #[.slice A l.length c] w (λ e w'=>e= .returned (.int .i64 (iT l))∧Ext w w'):=by
 have ot:=az.ez;refine cv (n:=21) func87 Z Z Z ?_;refine aj<|va Z<|ah<|aD<|aj<|vm Z<|J (cW underlying44 Z)<|J (jC Z Z)<|ah<| ?_;refine ef Z (λ ll=> ?_) (λ ll=> ?_)
 ·refine aj<|va Z<|ah<|rt<|cf<|bp (.tmp Z .nil)<| ?_;exact ⟨by rw [aqT (by omega)];rfl,(Ext.bM w)⟩
 ·refine bx<|aD<|aj<|vm Z<|J (cW underlying44 Z)<|vm Z<|ah<|bP<| ?_;refine fe (λ ck ch aS=>∃ k:Nat,ch= [(9, .slice A l.length c),(10, .int .i64 (l.length:Int)),(11, .int .i64 (k:Int))]∧ck=l.length - k∧Ext w aS∧(k≤l.length)∧(∀ i,i<k→(l.getD i default).bh=0)) _ _ ⟨0,Z,Z,(Ext.bM w),by omega,λ i ao=>by omega⟩ (.cons Z (.cons Z (.cons (bX Z (by first | omega | rfl | (simp<;>omega))) .nil))) ?_;rintro D9 CN qs ⟨k,rfl,rfl,c0,av,aO⟩;have:=c0.size;refine aj<|J (blt Z Z)<|ah<|aD<| ?_;refine ef Z (λ l9=> ?_) (λ l9=> ?_)
  ·refine bx<|aD<|bP<|aj<|J (bY k underlying44 e6 Z Z ((az.keep c0).bA (a8 k (by omega))) Z (by omega))<|J (ak Z (κ.aH.ic Gr ((az.keep c0).cL (a8 k (by omega))) (dO (l:=l) (u:=default) (by omega)) je e6))<|al Z JY Z Z λ xY yA dn aoX ku=> ?_;have:=dn.size;have j7:=τ c0 dn;have arT:=ku.lt;refine st (new:= [.int .i64 ((l.getD k default).by_), .int .i64 ((l.getD k default).kind), .int .i64 ((l.getD k default).aL), .int .i64 ((l.getD k default).spot.x), .int .i64 ((l.getD k default).spot.y), .int .i64 ((l.getD k default).what)]) Z Z ku Z e6 Z Z Z λ EC D4 ku=> ?_;have:=D4.size;have uQ:=Ext.mod j7 D4 (bR (by omega));have:=D4.size;refine ah<|aj<|J (ak Z (ku.all je e6))<|ca ajb Z Z ((aqC (l.getD k default) _).mono ?_);rintro e zV ⟨rfl,iL⟩;refine ⟨_,Z, ?_⟩;have:=iL.size;have lQ:=τ uQ iL;refine va Z<|ah<|aj<|vm Z<|J (bne Z Z)<|ah<| ?_;refine hg Z (λ vz=> ?_) (λ vz=> ?_)
   ·refine aj<|vm Z<|va Z<|ah<|rt<|gF<|cf<|sA<|gF<|cf<|bp (.tmp Z .nil)<| ?_;exact ⟨by rw [aqS (by omega) (show k<l.length by omega) aO (by simpa using vz)];rfl,lQ⟩
   ·refine hk<|cg<|a6<|rg<|J (bad Z Z (bF (by omega)))<|vm Z<|nl<| ?_;exact du _ _ ⟨k+1,Z,Z,lQ,by omega,vE aO (by simpa using vz)⟩ (by omega) (.cons Z (.cons Z (.cons (bX Z (by first | omega | rfl | (simp<;>omega))) .nil)))
  ·refine dG<|dF<|eb<|dE<|a6<|aj<|va Z<|ah<|rt<|bp (.tmp Z .nil)<| ?_;exact ⟨by rw [aqU (by omega) (λ i ao=>aO i (by omega))];rfl,c0⟩
end
section
open Go.RowKit
theorem agd:ff prog cR.rep 123 223 16:=ff.lB (z:=cR.zero) (k:=2) underlying123 cR.info rfl rfl (by decide) cR.lS
theorem age:ff prog cS.rep 124 225 24:=ff.lB (z:=cS.zero) (k:=3) underlying124 cS.info rfl rfl (by decide) cS.lS
theorem NC:ff prog b1.rep 125 178 40:=ff.lB (z:=b1.zero) (k:=5) underlying125 b1.info rfl rfl (by decide) b1.lS
def lF (o:aI):List cR:=if o.kind=1 then [⟨o.aL,o.what⟩] else []
def lH (o:aI):List cS:=if o.kind=2 then [⟨o.aL,⟨o.spot.x,o.spot.y⟩⟩] else []
def lG (o:aI):List b1:=if o.kind=3 then [⟨1,o.aL,⟨o.spot.x,o.spot.y⟩,0⟩] else if o.kind=4 then [⟨2,o.aL,⟨0,0⟩,0⟩] else if o.kind=5 then [⟨3,o.by_,⟨0,0⟩,o.what⟩] else []
theorem Vj (o:aI) (w0:World) (qU:Nat) (A B C:Option Addr) (a b c:Nat) (vO:List cR) (vQ:List cS) (vP:List b1) (w:World) (hI:Ext w0 w) (cV:o.ok) (hS:aK w qU [.slice A vO.length a, .slice B vQ.length b, .slice C vP.length c] 169 (0,0)) (hA:cR.rep.aF 223 16 w w0.heap.size (κ.af A) A a vO) (aX:cS.rep.aF 225 24 w w0.heap.size (κ.af B) B b vQ) (e8:b1.rep.aF 178 40 w w0.heap.size (κ.af C) C c vP) (r0:∀ q∈κ.af A,q=qU→False) (r3:∀ q∈κ.af B,q=qU→False) (p0:∀ q∈κ.af C,q=qU→False) (yH:∀ q∈κ.af B,q∈κ.af A→False) (vn:∀ q∈κ.af C,q∈κ.af A→False) (vo:∀ q∈κ.af C,q∈κ.af B→False) (BU:vO.length≤100) (rq:vQ.length≤100) (nX:vP.length≤100):
  Calls prog 94 #[.pointer (some ⟨qU,0,none⟩), .agg #[.int .i64 o.by_, .int .i64 o.kind, .int .i64 o.aL, .int .i64 o.spot.x, .int .i64 o.spot.y, .int .i64 o.what]] w (λ e w'=>∃ bH a' oM kz At bW,e= .returned (.tuple #[])∧aK w' qU [.slice bH (vO++lF o).length a', .slice oM (vQ++lH o).length kz, .slice At (vP++lG o).length bW] 169 (0,0)∧cR.rep.aF 223 16 w' w0.heap.size (κ.af bH) bH a' (vO++lF o)∧cS.rep.aF 225 24 w' w0.heap.size (κ.af oM) oM kz (vQ++lH o)∧b1.rep.aF 178 40 w' w0.heap.size (κ.af At) At bW (vP++lG o)∧(∀ q∈κ.af bH,q=qU→False)∧(∀ q∈κ.af oM,q=qU→False)∧(∀ q∈κ.af At,q=qU→False)∧(∀ q∈κ.af oM,q∈κ.af bH→False)∧(∀ q∈κ.af At,q∈κ.af bH→False)∧(∀ q∈κ.af At,q∈κ.af oM→False)∧(∀ q∈κ.af bH,q∈κ.af A∨w.heap.size≤q)∧(∀ q∈κ.af oM,q∈κ.af B∨w.heap.size≤q)∧(∀ q∈κ.af At,q∈κ.af C∨w.heap.size≤q)∧Mod (qU::(κ.af A++(κ.af B++κ.af C))) w w'):=by
 have aAM:=hI.size;have jq:=hS.lt;have Md:=λ q I=>(hA.lt q I).2;have Ev:=λ q I=>(aX.lt q I).2;have adm:=λ q I=>(e8.lt q I).2;have aBf:∀ q∈κ.af A,w0.heap.size≤q:=λ q I=>(hA.lt q I).1;have QV:∀ q∈κ.af B,w0.heap.size≤q:=λ q I=>(aX.lt q I).1;have aBg:∀ q∈κ.af C,w0.heap.size≤q:=λ q I=>(e8.lt q I).1;refine cv (n:=84) func94 Z Z Z ?_;refine aj<|cI Z Z Z Z λ dw bC bg eY ab=> ?_;have:=bg.size;have br:=(Mod.bM (qU::(κ.af A++(κ.af B++κ.af C))) w).trans (Mod.bG bg);have eZ:=ab.lt;refine ah<|aj<|J (aw nG Z)<|J (ak Z (ab.one aZ Z))<|ah<|bP<|aj<|J (beq Z Z)<|va Z<|ah<| ?_;refine l3 Z (λ Bi=> ?_) (λ Bi=> ?_)
 ·refine rd [(4,0),(6,0),(8,0),(10,2),(11,3),(14,3)] [0,1,2,3,4,5,6,7,8,9,10,11,12,13,14] (by kernel_rfl) (by kernel_rfl) ?_;refine aq Z (λ _=>aJ Z)<|aq Z (λ _=>aJ Z)<|aq Z (λ _=>cn Z)<|aq Z (λ _=>aw Oq Z)<| ?_;have hS:=hS.later bg;refine bD Z (λ _ x=>ak Z ((hS.later x).one W_ Z))<|aq Z (λ _=>aw yL Z)<|bD Z (λ _ x=>ak Z ((ab.later x).one aZ Z))<|aq Z (λ _=>aw yN Z)<|bD Z (λ _ x=>ak Z ((ab.later x).one aZ Z))<|r7 (v:= .agg #[.int .i64 o.aL, .int .i64 o.what]) Z Z (λ _=>cO Z (by kernel_rfl)) Z<|gu Z Z Z λ uK bj Q hK=>cH (e:= 223) (cs:= [.int .i64 o.aL, .int .i64 o.what]) Z (λ _=>by kernel_rfl) Z λ B_ FH eC aaY oN=>hK _ _ ⟨τ bj eC, ?_⟩;have:=bj.size;have iy:=br.trans (Mod.bG bj);have:=eC.size;have pM:=iy.trans (Mod.bG eC);have arX:=oN.lt;have hA:=hA.later (τ bg (τ bj eC));refine fc Z Z Z λ ED rE Q hK=>ap agd κ.dV (hA.later rE) ((aK.gv (R:=cR.rep) (by_:=16) (q:=(⟨o.aL,o.what⟩:cR)) oN ⟨Z,(by obtain ⟨BV,nc,kk,lC,ml,nZ⟩:=cV;exact ⟨kk,nZ⟩)⟩ (by decide)).keep rE) Z Z (by simp only [List.length_cons,List.length_nil];omega) (by simp only [List.length_cons,List.length_nil];omega) (by have:=rE.size;omega) Z λ xV Ao N_ oz qQ Dp aqi=>hK _ _ ?_;have:=rE.size;have rJ:=pM.trans (Mod.bG rE);have:=oz.size;have ks:=rJ.md oz (λ q I=> .inl (List.mem_cons_of_mem _ (List.mem_append.2 (.inl I))));have adu:=λ q I=>(qQ.lt q I).2;have:=oz.size;refine aq Z (λ _=>cn Z)<|aq Z (λ _=>aw Oq Z)<| ?_;have hS:=hS.later (τ bj (τ eC rE));have hS:=hS.mod oz (λ I=>r0 _ I rfl);refine fc Z Z Z λ we kI Q hK=>st (new:= [.slice Ao ((vO++ [(⟨o.aL,o.what⟩:cR)]).length) N_, .slice B vQ.length b, .slice C vP.length c]) Z Z (hS.later kI) Z ajc Z Z Z λ EE il hS=>hK _ _ ?_;have:=kI.size;have mB:=ks.trans (Mod.bG kI);have:=il.size;have qB:=mB.md il (λ q I=> .inl (by rw [List.mem_singleton.1 I];exact List.mem_cons_self));have:=il.size;refine fn λ uJ dQ=> ?_;have:=dQ.size;have k7:=qB.trans (Mod.bG dQ);refine cg<|ne<|bp .nil<| ?_;have hS:=hS.later dQ;have qQ:=qQ.later kI;have qQ:=qQ.mod il (λ q I h=>by have Φ:=List.mem_singleton.1 h;exfalso;(exact Or.elim (Dp q I) (λ aaA=>by (exact r0 q aaA Φ)) (λ aaA=>by omega)));have qQ:=qQ.later dQ;have aX:=aX.later (τ bg (τ bj (τ eC rE)));have aX:=aX.mod oz (λ q I h=>by exfalso;(exact yH q I h));have aX:=aX.later kI;have aX:=aX.mod il (λ q I h=>by have Φ:=List.mem_singleton.1 h;exfalso;(exact r3 q I Φ));have aX:=aX.later dQ;have e8:=e8.later (τ bg (τ bj (τ eC rE)));have e8:=e8.mod oz (λ q I h=>by exfalso;(exact vn q I h));have e8:=e8.later kI;have e8:=e8.mod il (λ q I h=>by have Φ:=List.mem_singleton.1 h;exfalso;(exact p0 q I Φ));have e8:=e8.later dQ;have aU:lF o= [(⟨o.aL,o.what⟩:cR)]:=by unfold lF;simp [*]
  have bc:lH o= []:=by unfold lH;simp [*]
  have cy:lG o= []:=by unfold lG;simp [*]
  rw [aU,bc,cy];simp only [List.append_nil];exact ⟨Ao,N_,B,b,C,c,Z,hS,qQ,aX,e8,(λ q I Φ=>by (exact Or.elim (Dp q I) (λ aaB=>by (exact r0 q aaB Φ)) (λ aaB=>by omega))),(λ q I Φ=>by (exact r3 q I Φ)),(λ q I Φ=>by (exact p0 q I Φ)),(λ q I Φ=>by (exact Or.elim (Dp q Φ) (λ aaC=>by (exact yH q I aaC)) (λ aaC=>by (have:=Ev q I;omega)))),(λ q I Φ=>by (exact Or.elim (Dp q Φ) (λ aaD=>by (exact vn q I aaD)) (λ aaD=>by (have:=adm q I;omega)))),(λ q I Φ=>by (exact vo q I Φ)),(λ q I=>(Dp q I).imp id λ h=>by omega),(λ q I=> .inl I),(λ q I=> .inl I),k7⟩
 ·refine aj<|J (beq Z Z)<|va Z<|ah<| ?_;refine l3 Z (λ alX=> ?_) (λ alX=> ?_)
  ·refine rd [(4,0),(6,0),(8,0),(10,2),(11,3),(14,3)] [0,1,2,3,4,5,6,7,8,9,10,11,12,13,14] (by kernel_rfl) (by kernel_rfl) ?_;refine aq Z (λ _=>aJ Z)<|aq Z (λ _=>aJ Z)<|aq Z (λ _=>cn Z)<|aq Z (λ _=>aw Ot Z)<| ?_;have hS:=hS.later bg;refine bD Z (λ _ x=>ak Z ((hS.later x).one W' Z))<|aq Z (λ _=>aw yL Z)<|bD Z (λ _ x=>ak Z ((ab.later x).one aZ Z))<|aq Z (λ _=>aw yM Z)<|bD Z (λ _ x=>ak Z ((ab.later x).par [.int .i64 o.spot.x, .int .i64 o.spot.y] bZ bE Z))<|r7 (v:= .agg #[.int .i64 o.aL, .int .i64 o.spot.x, .int .i64 o.spot.y]) Z Z (λ _=>cO Z (by kernel_rfl)) Z<|gu Z Z Z λ zY gV Q hK=>cH (e:= 225) (cs:= [.int .i64 o.aL, .int .i64 o.spot.x, .int .i64 o.spot.y]) Z (λ _=>by kernel_rfl) Z λ adP wU gl aa0 rR=>hK _ _ ⟨τ gV gl, ?_⟩;have:=gV.size;have oK:=br.trans (Mod.bG gV);have:=gl.size;have It:=oK.trans (Mod.bG gl);have Ej:=rR.lt;have aX:=aX.later (τ bg (τ gV gl));refine fc Z Z Z λ sF eU Q hK=>ap age κ.dV (aX.later eU) ((aK.gv (R:=cS.rep) (by_:=24) (q:=(⟨o.aL,⟨o.spot.x,o.spot.y⟩⟩:cS)) rR ⟨Z,(by obtain ⟨BV,nc,kk,lC,ml,nZ⟩:=cV;exact ⟨kk,lC,ml⟩)⟩ (by decide)).keep eU) Z Z (by simp only [List.length_cons,List.length_nil];omega) (by simp only [List.length_cons,List.length_nil];omega) (by have:=eU.size;omega) Z λ adR TM VY uo yq F_ aDe=>hK _ _ ?_;have:=eU.size;have jN:=It.trans (Mod.bG eU);have:=uo.size;have Cw:=jN.md uo (λ q I=> .inl (List.mem_cons_of_mem _ (List.mem_append.2 (.inr (List.mem_append.2 (.inl I))))));have Ml:=λ q I=>(yq.lt q I).2;have:=uo.size;refine aq Z (λ _=>cn Z)<|aq Z (λ _=>aw Ot Z)<| ?_;have hS:=hS.later (τ gV (τ gl eU));have hS:=hS.mod uo (λ I=>r3 _ I rfl);refine fc Z Z Z λ Mt uP Q hK=>st (new:= [.slice A vO.length a, .slice TM ((vQ++ [(⟨o.aL,⟨o.spot.x,o.spot.y⟩⟩:cS)]).length) VY, .slice C vP.length c]) Z Z (hS.later uP) Z ajd Z Z Z λ sG pq hS=>hK _ _ ?_;have:=uP.size;have x7:=Cw.trans (Mod.bG uP);have:=pq.size;have rO:=x7.md pq (λ q I=> .inl (by rw [List.mem_singleton.1 I];exact List.mem_cons_self));have:=pq.size;refine fn λ Mu df=> ?_;have:=df.size;have qD:=rO.trans (Mod.bG df);refine cg<|ne<|bp .nil<| ?_;have hS:=hS.later df;have hA:=hA.later (τ bg (τ gV (τ gl eU)));have hA:=hA.mod uo (λ q I h=>by exfalso;(exact yH q h I));have hA:=hA.later uP;have hA:=hA.mod pq (λ q I h=>by have Φ:=List.mem_singleton.1 h;exfalso;(exact r0 q I Φ));have hA:=hA.later df;have yq:=yq.later uP;have yq:=yq.mod pq (λ q I h=>by have Φ:=List.mem_singleton.1 h;exfalso;(exact Or.elim (F_ q I) (λ Hl=>by (exact r3 q Hl Φ)) (λ Hl=>by omega)));have yq:=yq.later df;have e8:=e8.later (τ bg (τ gV (τ gl eU)));have e8:=e8.mod uo (λ q I h=>by exfalso;(exact vo q I h));have e8:=e8.later uP;have e8:=e8.mod pq (λ q I h=>by have Φ:=List.mem_singleton.1 h;exfalso;(exact p0 q I Φ));have e8:=e8.later df;have aU:lF o= []:=by unfold lF;simp [*]
   have bc:lH o= [(⟨o.aL,⟨o.spot.x,o.spot.y⟩⟩:cS)]:=by unfold lH;simp [*]
   have cy:lG o= []:=by unfold lG;simp [*]
   rw [aU,bc,cy];simp only [List.append_nil];exact ⟨A,a,TM,VY,C,c,Z,hS,hA,yq,e8,(λ q I Φ=>by (exact r0 q I Φ)),(λ q I Φ=>by (exact Or.elim (F_ q I) (λ aaK=>by (exact r3 q aaK Φ)) (λ aaK=>by omega))),(λ q I Φ=>by (exact p0 q I Φ)),(λ q I Φ=>by (exact Or.elim (F_ q I) (λ Hm=>by (exact yH q Hm Φ)) (λ Hm=>by (have:=Md q Φ;omega)))),(λ q I Φ=>by (exact vn q I Φ)),(λ q I Φ=>by (exact Or.elim (F_ q Φ) (λ aaL=>by (exact vo q I aaL)) (λ aaL=>by (have:=adm q I;omega)))),(λ q I=> .inl I),(λ q I=>(F_ q I).imp id λ h=>by omega),(λ q I=> .inl I),qD⟩
  ·refine aj<|J (beq Z Z)<|va Z<|ah<| ?_;refine l3 Z (λ tM=> ?_) (λ tM=> ?_)
   ·refine rd [(4,0),(6,0),(8,0),(10,2),(11,3),(14,3)] [0,1,2,3,4,5,6,7,8,9,10,11,12,13,14] (by kernel_rfl) (by kernel_rfl) ?_;refine aq Z (λ _=>aJ Z)<|aq Z (λ _=>aJ Z)<|aq Z (λ _=>cn Z)<|aq Z (λ _=>aw A5 Z)<| ?_;have hS:=hS.later bg;refine bD Z (λ _ x=>ak Z ((hS.later x).one J0 Z))<|aq Z (λ _=>aw yL Z)<|bD Z (λ _ x=>ak Z ((ab.later x).one aZ Z))<|aq Z (λ _=>aw yM Z)<|bD Z (λ _ x=>ak Z ((ab.later x).par [.int .i64 o.spot.x, .int .i64 o.spot.y] bZ bE Z))<|r7 (v:= .agg #[.int .i64 1, .int .i64 o.aL, .int .i64 o.spot.x, .int .i64 o.spot.y, .int .i64 0]) Z Z (λ _=>cO Z (by kernel_rfl)) Z<|gu Z Z Z λ Mv fF Q hK=>cH (e:= 178) (cs:= [.int .i64 1, .int .i64 o.aL, .int .i64 o.spot.x, .int .i64 o.spot.y, .int .i64 0]) Z (λ _=>by kernel_rfl) Z λ H_ ayt k6 aCa IN=>hK _ _ ⟨τ fF k6, ?_⟩;have:=fF.size;have wm:=br.trans (Mod.bG fF);have:=k6.size;have kt:=wm.trans (Mod.bG k6);have aEz:=IN.lt;have e8:=e8.later (τ bg (τ fF k6));refine fc Z Z Z λ SR qy Q hK=>ap NC κ.dV (e8.later qy) ((aK.gv (R:=b1.rep) (by_:=40) (q:=(⟨1,o.aL,⟨o.spot.x,o.spot.y⟩,0⟩:b1)) IN ⟨Z,(by obtain ⟨BV,nc,kk,lC,ml,nZ⟩:=cV;exact ⟨bt.2 (by (try dsimp only);omega),kk,lC,ml,bt.2 (by (try dsimp only);omega)⟩)⟩ (by decide)).keep qy) Z Z (by simp only [List.length_cons,List.length_nil];omega) (by simp only [List.length_cons,List.length_nil];omega) (by have:=qy.size;omega) Z λ SS TO VZ BK yl F4 aCQ=>hK _ _ ?_;have:=qy.size;have CA:=kt.trans (Mod.bG qy);have:=BK.size;have CB:=CA.md BK (λ q I=> .inl (List.mem_cons_of_mem _ (List.mem_append.2 (.inr (List.mem_append.2 (.inr I))))));have aEU:=λ q I=>(yl.lt q I).2;have:=BK.size;refine aq Z (λ _=>cn Z)<|aq Z (λ _=>aw A5 Z)<| ?_;have hS:=hS.later (τ fF (τ k6 qy));have hS:=hS.mod BK (λ I=>p0 _ I rfl);refine fc Z Z Z λ auU iw Q hK=>st (new:= [.slice A vO.length a, .slice B vQ.length b, .slice TO ((vP++ [(⟨1,o.aL,⟨o.spot.x,o.spot.y⟩,0⟩:b1)]).length) VZ]) Z Z (hS.later iw) Z Ou Z Z Z λ auV iH hS=>hK _ _ ?_;have:=iw.size;have S6:=CB.trans (Mod.bG iw);have:=iH.size;have S7:=S6.md iH (λ q I=> .inl (by rw [List.mem_singleton.1 I];exact List.mem_cons_self));have:=iH.size;refine fn λ adG rD=> ?_;have:=rD.size;have Ik:=S7.trans (Mod.bG rD);refine cg<|ne<|bp .nil<| ?_;have hS:=hS.later rD;have hA:=hA.later (τ bg (τ fF (τ k6 qy)));have hA:=hA.mod BK (λ q I h=>by exfalso;(exact vn q h I));have hA:=hA.later iw;have hA:=hA.mod iH (λ q I h=>by have Φ:=List.mem_singleton.1 h;exfalso;(exact r0 q I Φ));have hA:=hA.later rD;have aX:=aX.later (τ bg (τ fF (τ k6 qy)));have aX:=aX.mod BK (λ q I h=>by exfalso;(exact vo q h I));have aX:=aX.later iw;have aX:=aX.mod iH (λ q I h=>by have Φ:=List.mem_singleton.1 h;exfalso;(exact r3 q I Φ));have aX:=aX.later rD;have yl:=yl.later iw;have yl:=yl.mod iH (λ q I h=>by have Φ:=List.mem_singleton.1 h;exfalso;(exact Or.elim (F4 q I) (λ zk=>by (exact p0 q zk Φ)) (λ zk=>by omega)));have yl:=yl.later rD;have aU:lF o= []:=by unfold lF;simp [*]
    have bc:lH o= []:=by unfold lH;simp [*]
    have cy:lG o= [(⟨1,o.aL,⟨o.spot.x,o.spot.y⟩,0⟩:b1)]:=by unfold lG;simp [*]
    rw [aU,bc,cy];simp only [List.append_nil];exact ⟨A,a,B,b,TO,VZ,Z,hS,hA,aX,yl,(λ q I Φ=>by (exact r0 q I Φ)),(λ q I Φ=>by (exact r3 q I Φ)),(λ q I Φ=>by (exact Or.elim (F4 q I) (λ Hc=>by (exact p0 q Hc Φ)) (λ Hc=>by omega))),(λ q I Φ=>by (exact yH q I Φ)),(λ q I Φ=>by (exact Or.elim (F4 q I) (λ Hd=>by (exact vn q Hd Φ)) (λ Hd=>by (have:=Md q Φ;omega)))),(λ q I Φ=>by (exact Or.elim (F4 q I) (λ He=>by (exact vo q He Φ)) (λ He=>by (have:=Ev q Φ;omega)))),(λ q I=> .inl I),(λ q I=> .inl I),(λ q I=>(F4 q I).imp id λ h=>by omega),Ik⟩
   ·refine aj<|J (beq Z Z)<|va Z<|ah<| ?_;refine l3 Z (λ alH=> ?_) (λ alH=> ?_)
    ·refine rd [(4,0),(6,0),(8,2),(9,3),(12,3)] [0,1,2,3,4,5,6,7,8,9,10,11,12] (by kernel_rfl) (by kernel_rfl) ?_;refine aq Z (λ _=>aJ Z)<|aq Z (λ _=>aJ Z)<|aq Z (λ _=>cn Z)<|aq Z (λ _=>aw A5 Z)<| ?_;have hS:=hS.later bg;refine bD Z (λ _ x=>ak Z ((hS.later x).one J0 Z))<|aq Z (λ _=>aw yL Z)<|bD Z (λ _ x=>ak Z ((ab.later x).one aZ Z))<|r7 (v:= .agg #[.int .i64 2, .int .i64 o.aL, .int .i64 0, .int .i64 0, .int .i64 0]) Z Z (λ _=>cO Z (by kernel_rfl)) Z<|gu Z Z Z λ auY Ch Q hK=>cH (e:= 178) (cs:= [.int .i64 2, .int .i64 o.aL, .int .i64 0, .int .i64 0, .int .i64 0]) Z (λ _=>by kernel_rfl) Z λ aFN axT Ci aBq TX=>hK _ _ ⟨τ Ch Ci, ?_⟩;have:=Ch.size;have S_:=br.trans (Mod.bG Ch);have:=Ci.size;have av3:=S_.trans (Mod.bG Ci);have arU:=TX.lt;have e8:=e8.later (τ bg (τ Ch Ci));refine fc Z Z Z λ adJ z_ Q hK=>ap NC κ.dV (e8.later z_) ((aK.gv (R:=b1.rep) (by_:=40) (q:=(⟨2,o.aL,⟨0,0⟩,0⟩:b1)) TX ⟨Z,(by obtain ⟨BV,nc,kk,lC,ml,nZ⟩:=cV;exact ⟨bt.2 (by (try dsimp only);omega),kk,bt.2 (by (try dsimp only);omega),bt.2 (by (try dsimp only);omega),bt.2 (by (try dsimp only);omega)⟩)⟩ (by decide)).keep z_) Z Z (by simp only [List.length_cons,List.length_nil];omega) (by simp only [List.length_cons,List.length_nil];omega) (by have:=z_.size;omega) Z λ au0 TG VT D2 ym F6 aCX=>hK _ _ ?_;have:=z_.size;have Io:=av3.trans (Mod.bG z_);have:=D2.size;have Cs:=Io.md D2 (λ q I=> .inl (List.mem_cons_of_mem _ (List.mem_append.2 (.inr (List.mem_append.2 (.inr I))))));have aE1:=λ q I=>(ym.lt q I).2;have:=D2.size;refine aq Z (λ _=>cn Z)<|aq Z (λ _=>aw A5 Z)<| ?_;have hS:=hS.later (τ Ch (τ Ci z_));have hS:=hS.mod D2 (λ I=>p0 _ I rfl);refine fc Z Z Z λ aFW EP Q hK=>st (new:= [.slice A vO.length a, .slice B vQ.length b, .slice TG ((vP++ [(⟨2,o.aL,⟨0,0⟩,0⟩:b1)]).length) VT]) Z Z (hS.later EP) Z Ou Z Z Z λ adK ue hS=>hK _ _ ?_;have:=EP.size;have awa:=Cs.trans (Mod.bG EP);have:=ue.size;have E0:=awa.md ue (λ q I=> .inl (by rw [List.mem_singleton.1 I];exact List.mem_cons_self));have:=ue.size;refine fn λ aFY n8=> ?_;have:=n8.size;have awc:=E0.trans (Mod.bG n8);refine cg<|ne<|bp .nil<| ?_;have hS:=hS.later n8;have hA:=hA.later (τ bg (τ Ch (τ Ci z_)));have hA:=hA.mod D2 (λ q I h=>by exfalso;(exact vn q h I));have hA:=hA.later EP;have hA:=hA.mod ue (λ q I h=>by have Φ:=List.mem_singleton.1 h;exfalso;(exact r0 q I Φ));have hA:=hA.later n8;have aX:=aX.later (τ bg (τ Ch (τ Ci z_)));have aX:=aX.mod D2 (λ q I h=>by exfalso;(exact vo q h I));have aX:=aX.later EP;have aX:=aX.mod ue (λ q I h=>by have Φ:=List.mem_singleton.1 h;exfalso;(exact r3 q I Φ));have aX:=aX.later n8;have ym:=ym.later EP;have ym:=ym.mod ue (λ q I h=>by have Φ:=List.mem_singleton.1 h;exfalso;(exact Or.elim (F6 q I) (λ Hh=>by (exact p0 q Hh Φ)) (λ Hh=>by omega)));have ym:=ym.later n8;have aU:lF o= []:=by unfold lF;simp [*]
     have bc:lH o= []:=by unfold lH;simp [*]
     have cy:lG o= [(⟨2,o.aL,⟨0,0⟩,0⟩:b1)]:=by unfold lG;simp [*]
     rw [aU,bc,cy];simp only [List.append_nil];exact ⟨A,a,B,b,TG,VT,Z,hS,hA,aX,ym,(λ q I Φ=>by (exact r0 q I Φ)),(λ q I Φ=>by (exact r3 q I Φ)),(λ q I Φ=>by (exact Or.elim (F6 q I) (λ ZY=>by (exact p0 q ZY Φ)) (λ ZY=>by omega))),(λ q I Φ=>by (exact yH q I Φ)),(λ q I Φ=>by (exact Or.elim (F6 q I) (λ ZZ=>by (exact vn q ZZ Φ)) (λ ZZ=>by (have:=Md q Φ;omega)))),(λ q I Φ=>by (exact Or.elim (F6 q I) (λ Z0=>by (exact vo q Z0 Φ)) (λ Z0=>by (have:=Ev q Φ;omega)))),(λ q I=> .inl I),(λ q I=> .inl I),(λ q I=>(F6 q I).imp id λ h=>by omega),awc⟩
    ·refine aj<|J (beq Z Z)<|va Z<|ah<| ?_;refine l3 Z (λ alO=> ?_) (λ alO=> ?_)
     ·refine rd [(4,0),(6,0),(8,0),(10,2),(11,3),(14,3)] [0,1,2,3,4,5,6,7,8,9,10,11,12,13,14] (by kernel_rfl) (by kernel_rfl) ?_;refine aq Z (λ _=>aJ Z)<|aq Z (λ _=>aJ Z)<|aq Z (λ _=>cn Z)<|aq Z (λ _=>aw A5 Z)<| ?_;have hS:=hS.later bg;refine bD Z (λ _ x=>ak Z ((hS.later x).one J0 Z))<|aq Z (λ _=>aw w1 Z)<|bD Z (λ _ x=>ak Z ((ab.later x).one aZ Z))<|aq Z (λ _=>aw yN Z)<|bD Z (λ _ x=>ak Z ((ab.later x).one aZ Z))<|r7 (v:= .agg #[.int .i64 3, .int .i64 o.by_, .int .i64 0, .int .i64 0, .int .i64 o.what]) Z Z (λ _=>cO Z (by kernel_rfl)) Z<|gu Z Z Z λ aF0 Cm Q hK=>cH (e:= 178) (cs:= [.int .i64 3, .int .i64 o.by_, .int .i64 0, .int .i64 0, .int .i64 o.what]) Z (λ _=>by kernel_rfl) Z λ au8 ax0 Cn aBz T5=>hK _ _ ⟨τ Cm Cn, ?_⟩;have:=Cm.size;have awd:=br.trans (Mod.bG Cm);have:=Cn.size;have Tg:=awd.trans (Mod.bG Cn);have aD0:=T5.lt;have e8:=e8.later (τ bg (τ Cm Cn));refine fc Z Z Z λ aF5 Aa Q hK=>ap NC κ.dV (e8.later Aa) ((aK.gv (R:=b1.rep) (by_:=40) (q:=(⟨3,o.by_,⟨0,0⟩,o.what⟩:b1)) T5 ⟨Z,(by obtain ⟨BV,nc,kk,lC,ml,nZ⟩:=cV;exact ⟨bt.2 (by (try dsimp only);omega),BV,bt.2 (by (try dsimp only);omega),bt.2 (by (try dsimp only);omega),nZ⟩)⟩ (by decide)).keep Aa) Z Z (by simp only [List.length_cons,List.length_nil];omega) (by simp only [List.length_cons,List.length_nil];omega) (by have:=Aa.size;omega) Z λ aF6 TK VV D7 yo F7 aC4=>hK _ _ ?_;have:=Aa.size;have awi:=Tg.trans (Mod.bG Aa);have:=D7.size;have awj:=awi.md D7 (λ q I=> .inl (List.mem_cons_of_mem _ (List.mem_append.2 (.inr (List.mem_append.2 (.inr I))))));have aFb:=λ q I=>(yo.lt q I).2;have:=D7.size;refine aq Z (λ _=>cn Z)<|aq Z (λ _=>aw A5 Z)<| ?_;have hS:=hS.later (τ Cm (τ Cn Aa));have hS:=hS.mod D7 (λ I=>p0 _ I rfl);refine fc Z Z Z λ ava ES Q hK=>st (new:= [.slice A vO.length a, .slice B vQ.length b, .slice TK ((vP++ [(⟨3,o.by_,⟨0,0⟩,o.what⟩:b1)]).length) VV]) Z Z (hS.later ES) Z Ou Z Z Z λ aGc D8 hS=>hK _ _ ?_;have:=ES.size;have Th:=awj.trans (Mod.bG ES);have:=D8.size;have awo:=Th.md D8 (λ q I=> .inl (by rw [List.mem_singleton.1 I];exact List.mem_cons_self));have:=D8.size;refine fn λ adM j2=> ?_;have:=j2.size;have E1:=awo.trans (Mod.bG j2);refine cg<|ne<|bp .nil<| ?_;have hS:=hS.later j2;have hA:=hA.later (τ bg (τ Cm (τ Cn Aa)));have hA:=hA.mod D7 (λ q I h=>by exfalso;(exact vn q h I));have hA:=hA.later ES;have hA:=hA.mod D8 (λ q I h=>by have Φ:=List.mem_singleton.1 h;exfalso;(exact r0 q I Φ));have hA:=hA.later j2;have aX:=aX.later (τ bg (τ Cm (τ Cn Aa)));have aX:=aX.mod D7 (λ q I h=>by exfalso;(exact vo q h I));have aX:=aX.later ES;have aX:=aX.mod D8 (λ q I h=>by have Φ:=List.mem_singleton.1 h;exfalso;(exact r3 q I Φ));have aX:=aX.later j2;have yo:=yo.later ES;have yo:=yo.mod D8 (λ q I h=>by have Φ:=List.mem_singleton.1 h;exfalso;(exact Or.elim (F7 q I) (λ aab=>by (exact p0 q aab Φ)) (λ aab=>by omega)));have yo:=yo.later j2;have aU:lF o= []:=by unfold lF;simp [*]
      have bc:lH o= []:=by unfold lH;simp [*]
      have cy:lG o= [(⟨3,o.by_,⟨0,0⟩,o.what⟩:b1)]:=by unfold lG;simp [*]
      rw [aU,bc,cy];simp only [List.append_nil];exact ⟨A,a,B,b,TK,VV,Z,hS,hA,aX,yo,(λ q I Φ=>by (exact r0 q I Φ)),(λ q I Φ=>by (exact r3 q I Φ)),(λ q I Φ=>by (exact Or.elim (F7 q I) (λ aac=>by (exact p0 q aac Φ)) (λ aac=>by omega))),(λ q I Φ=>by (exact yH q I Φ)),(λ q I Φ=>by (exact Or.elim (F7 q I) (λ Hj=>by (exact vn q Hj Φ)) (λ Hj=>by (have:=Md q Φ;omega)))),(λ q I Φ=>by (exact Or.elim (F7 q I) (λ aad=>by (exact vo q aad Φ)) (λ aad=>by (have:=Ev q Φ;omega)))),(λ q I=> .inl I),(λ q I=> .inl I),(λ q I=>(F7 q I).imp id λ h=>by omega),E1⟩
     ·refine hk<|cg<|ne<|bp .nil<| ?_;have hS:=hS.later bg;have hA:=hA.later bg;have aX:=aX.later bg;have e8:=e8.later bg;have aU:lF o= []:=by unfold lF;simp [*]
      have bc:lH o= []:=by unfold lH;simp [*]
      have cy:lG o= []:=by unfold lG;simp [*]
      rw [aU,bc,cy];simp only [List.append_nil];exact ⟨A,a,B,b,C,c,Z,hS,hA,aX,e8,(λ q I Φ=>by (exact r0 q I Φ)),(λ q I Φ=>by (exact r3 q I Φ)),(λ q I Φ=>by (exact p0 q I Φ)),(λ q I Φ=>by (exact yH q I Φ)),(λ q I Φ=>by (exact vn q I Φ)),(λ q I Φ=>by (exact vo q I Φ)),(λ q I=> .inl I),(λ q I=> .inl I),(λ q I=> .inl I),br⟩
end
section
open Go.RowKit
theorem HI {l:List aI} (h:iT l=0):l.length≤100∧∀ o∈l,o.bh=0:=by
 unfold iT at h;split at h
 ·cases h
 ·refine ⟨by omega,λ o bJ=> ?_⟩;split at h
  ·rename_i x hx
   have:=List.find?_some hx;rw [h] at this;exact nomatch this
  ·rename_i hx
   have:=List.find?_eq_none.1 hx o bJ;simpa using this
end
end Go.Proofs.YtlikikpgmmkjbaaGreat
