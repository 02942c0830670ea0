import Derived.Test.YtooonebcoaleiaaGreatFcs
import Derived.RangeFuncNested
import Derived.OrdersIn
import Derived.LoopNIn
set_option linter.all false
set_option maxRecDepth 100000
set_option maxHeartbeats 4000000
open Go.RowKit
namespace Go.Proofs.YtooonebcoaleiaaGreat
open Tryz
abbrev baI:=@List.take_succ_eq_append_getElem
abbrev bbI:=@Int.le_refl
abbrev bbM:=@List.not_mem_nil
abbrev bbP:=@Int.mul_le_mul
abbrev bca:=@Int.mul_nonneg
abbrev bcH:=@or_false
abbrev bcK:=@List.mem_of_mem_take
abbrev bc9:=@List.all_eq_false
abbrev bde:=@Bool.and_eq_false_iff
abbrev bdi:=@Bool.true_and
abbrev bdt:=@Int.mul_comm
abbrev bdy:=@Int.tdiv_eq_ediv_of_nonneg
abbrev bdE:=@List.getElem?_set
abbrev bdP:=@Go.Oper.semAt_eq
abbrev bdZ:=@Go.IntKind.wrap_i64
abbrev bek:=@Nat.add_sub_cancel
abbrev beO:=@Int.ediv_nonneg
abbrev beT:=@List.perm_append_singleton
abbrev beV:=@List.Perm.refl
abbrev beX:=@Bool.and_false
abbrev beZ:=@Go.wpIn_region_lit
abbrev be4:=@List.map_take
section
namespace dh
section
variable{α:Type}[Inhabited α]{key:α->Int}{l:List α}{i j n k:Nat}{x:α}
def swp(l:List α)(i j:Nat):List α:=(l.set i (l.getD j default)).set j (l.getD i default)
def oT:(swp l i j).length=l.length:=by unfold swp;rw[bak,bak]
def alR{i k:Nat}(a:i<l.length):(l.set i x).getD k default=if k=i then x else l.getD k default:=by
 rw[baa,baa,bdE];by_cases e:i=k
 .subst e;rw[bap rfl,bap rfl];simp[a]
 .rw[ban e,ban (λ h=>e h.symm)]
def swp_get(b:i<l.length)(a:j<l.length):(swp l i j).getD k default=if k=j then l.getD i default else if k=i then l.getD j default else l.getD k default:=by
 unfold swp;rw[alR (by rw[bak];exact a),alR b]
def HP(b:i<l.length)(a:j<l.length):(swp l i j).Perm l:=by
 have h:=Array.swap_perm (xs:=l.toArray) (i:=i) (j:=j) (by simpa using b) (by simpa using a);have h:=h.toList;have e:(l.toArray.swap i j (by simpa using b) (by simpa using a)).toList=swp l i j:=by
  unfold swp;rw[baa,baa,bac b,bac a];simp[Array.swap]
 rw[e]at h;simpa using h
def sL(key:α->Int)(l:List α)(j:Nat):List α :=
 if 0<j/\key (l.getD j default)<key (l.getD ((j-1) / 2) default)then sL key (swp l ((j-1) / 2) j) ((j-1) / 2)else l
termination_by j
decreasing_by omega
def qP(key:α->Int)(n:Nat)(l:List α)(i:Nat):Nat:=if 2*i+2<n/\key (l.getD (2*i+2) default)<key (l.getD (2*i+1) default)then 2*i+2 else 2*i+1
def Rf:i<qP key n l i:=by unfold qP;split<;>omega
def aer(h:2*i+1<n):qP key n l i<n:=by unfold qP;split<;>omega
def aKv:(qP key n l i-1) / 2=i:=by unfold qP;split<;>omega
def aqj(c:0<k)(b:k<n)(d:(k-1) / 2=i):key (l.getD (qP key n l i) default)<=key (l.getD k default):=by
 have:k=2*i+1\/k=2*i+2:=GE
 unfold qP;split
 .rename_i h
  rcases this with rfl|rfl
  .omega
  .exact bbI _
 .rename_i h
  rcases this with rfl|rfl
  .exact bbI _
  .have:¬key (l.getD (2*i+2) default)<key (l.getD (2*i+1) default):=λ a=>h ⟨b,a⟩;omega
def lX(key:α->Int)(n:Nat)(l:List α)(i:Nat):List α :=
 if 2*i+1<n/\key (l.getD (qP key n l i) default)<key (l.getD i default)then lX key n (swp l i (qP key n l i)) (qP key n l i)else l
termination_by n-i
decreasing_by rename_i h;have:=Rf (key:=key) (n:=n) (l:=l) (i:=i);omega
def aQv:∀(j:Nat) (l:List α),(sL key l j).length=l.length:=by
 intro j;induction j using Nat.strongRecOn with
 | ind j a =>
  intro l;unfold sL;split
  .rw[a _ GE,oT]
  .rfl
def aQw:∀(j:Nat) (l:List α),j<l.length->(sL key l j).Perm l:=by
 intro j;induction j using Nat.strongRecOn with
 | ind j b =>
  intro l a;unfold sL;split
  .exact(b _ GE _ (by rw[oT];omega)).trans (HP GE a)
  .exact beV _
def akh(n:Nat):∀(m i:Nat) (l:List α),n-i<=m->(lX key n l i).length=l.length:=by
 intro m;induction m with
 | zero=>intro i l h;unfold lX;rw[ban GE]
 | succ m a =>
  intro i l h;unfold lX;split
  .have:=Rf (key:=key) (n:=n) (l:=l) (i:=i);rw[a _ _ GE,oT]
  .rfl
def aki(n:Nat):∀(m i:Nat) (l:List α),n-i<=m->n<=l.length->i<l.length->(lX key n l i).Perm l:=by
 intro m;induction m with
 | zero=>intro i l h _ _;unfold lX;rw[ban GE]
 | succ m b =>
  intro i l h d a;unfold lX;split
  .rename_i c
   have:=Rf (key:=key) (n:=n) (l:=l) (i:=i);have:=aer (key:=key) (l:=l) c.1;exact(b _ _ GE (by rw[oT];exact d) (by rw[oT];omega)).trans (HP a GE)
  .exact beV _
theorem aBz(n:Nat):∀(m i:Nat) (l:List α),n-i<=m->n<=l.length->i<l.length->∀ k,n<=k->i<n->(lX key n l i).getD k default=l.getD k default:=by
 intro m;induction m with
 | zero=>intro i l h _ _ k _ _;unfold lX;rw[ban GE]
 | succ m d =>
  intro i l h f b k c j;unfold lX;split
  .rename_i e
   have g:=Rf (key:=key) (n:=n) (l:=l) (i:=i);have a:=aer (key:=key) (l:=l) e.1;rw[d _ _ GE (by rw[oT];exact f) (by rw[oT];omega) k c a,swp_get b GE,ban GE,ban GE]
  .rfl
def Heap(key:α->Int)(n:Nat)(l:List α):Prop:=∀ i,0<i->i<n->key (l.getD ((i-1) / 2) default)<=key (l.getD i default)
theorem aQu(n:Nat):∀(j:Nat) (l:List α),j<n->n<=l.length->(∀ i,0<i->i<n->i≠j->key (l.getD ((i-1) / 2) default)<=key (l.getD i default))->
  (∀ i,0<i->i<n->(i-1) / 2=j->0<j->key (l.getD ((j-1) / 2) default)<=key (l.getD i default))->Heap key n (sL key l j):=by
 intro j;induction j using Nat.strongRecOn with
 | ind j s =>
  intro l w u c r;unfold sL;split
  .rename_i m
   obtain⟨q,x⟩:=m;have d:∀ k,(swp l ((j-1) / 2) j).getD k default=if k=j then l.getD ((j-1) / 2) default else if k=(j-1) / 2 then l.getD j default else l.getD k default:=λ k=>swp_get GE GE
   refine s _ GE _ GE (by rw[oT];exact u) (λ i a b t=>?_) (λ i a b v o=>?_)
   .rw[d,d];by_cases e:i=j
    .subst e;rw[bap rfl,ban GE,bap rfl];omega
    .rw[ban e,ban t];by_cases f:(i-1) / 2=j
     .rw[bap f];exact r i a b f q
     .rw[ban f];by_cases g:(i-1) / 2=(j-1) / 2
      .rw[bap g];have:=c i a b e;rw[g]at this;omega
      .rw[ban g];exact c i a b e
   .rw[d,d];rw[ban GE,ban GE];have p:=c ((j-1) / 2) o GE GE;by_cases e:i=j
    .rw[bap e];exact p
    .rw[ban e,ban GE];have:=c i a b e;rw[v]at this;omega
  .rename_i m
   intro i a b;by_cases e:i=j
   .subst e;have:¬key (l.getD i default)<key (l.getD ((i-1) / 2) default):=λ h=>m ⟨a,h⟩;omega
   .exact c i a b e
theorem aBy(n:Nat):∀(m a:Nat) (l:List α),n-a<=m->a<l.length->n<=l.length->(∀ i,0<i->i<n->(i-1) / 2≠a->key (l.getD ((i-1) / 2) default)<=key (l.getD i default))->
  (∀ i,0<i->i<n->(i-1) / 2=a->0<a->key (l.getD ((a-1) / 2) default)<=key (l.getD i default))->Heap key n (lX key n l a):=by
 intro m;induction m with
 | zero =>
  intro a l h _ _ d _;unfold lX;rw[ban GE];intro i c b;exact d i c b GE
 | succ m w =>
  intro a l h t r d u;unfold lX;split
  .rename_i q
   obtain⟨o,A⟩:=q;have g1:=Rf (key:=key) (n:=n) (l:=l) (i:=a);have g2:=aer (key:=key) (l:=l) o;have g3:=aKv (key:=key) (n:=n) (l:=l) (i:=a);have g4:=λ k v r s=>aqj (key:=key) (n:=n) (l:=l) (i:=a) (k:=k) v r s;generalize z:qP key n l a=j at *
   have f:∀ k,(swp l a j).getD k default=if k=j then l.getD a default else if k=a then l.getD j default else l.getD k default:=λ k=>swp_get t GE
   refine w _ _ GE (by rw[oT];omega) (by rw[oT];exact r) (λ i c b x=>?_) (λ i c b s y=>?_)
   .rw[f,f];rw[ban x];by_cases e:(i-1) / 2=a
    .rw[bap e];by_cases g:i=j
     .rw[bap g];omega
     .rw[ban g,ban GE];exact g4 i c b e
    .rw[ban e];by_cases g:i=j
     .omega
     .rw[ban g];by_cases p:i=a
      .rw[bap p];have:=u j GE g2 g3 GE;rw[p];exact this
      .rw[ban p];exact d i c b e
   .rw[f,f,g3];rw[ban GE,bap rfl,ban GE,ban GE];have:=d i c b GE;rw[s]at this;exact this
  .rename_i q
   intro i c b;by_cases e:(i-1) / 2=a
   .have o:2*a+1<n:=GE
    have:¬key (l.getD (qP key n l a) default)<key (l.getD a default):=λ h=>q ⟨o,h⟩;have:=aqj (key:=key) (n:=n) (l:=l) c b e;rw[e];omega
   .exact d i c b e
def Heap.min(h:Heap key n l):∀ i,i<n->key (l.getD 0 default)<=key (l.getD i default):=by
 intro i;induction i using Nat.strongRecOn with
 | ind i c =>
  intro b;by_cases a:0<i
  .exact Int.le_trans (c ((i-1) / 2) GE GE) (h i a b)
  .have:i=0:=GE
   subst this;exact bbI _
def push(key:α->Int)(l:List α)(x:α):List α:=sL key (l++ [x]) l.length
def Rx:(push key l x).length=l.length+1:=by unfold push;rw[aQv,bam];rfl
def arG:(push key l x).Perm (x::l):=(aQw _ _ (by rw[bam];simp)).trans (beT x l)
def ais(h:k<l.length):(l++ [x]).getD k default=l.getD k default:=by
 rw[baa,baa,baz h]
def aMV(h:Heap key l.length l):Heap key (push key l x).length (push key l x):=by
 rw[Rx];refine aQu _ _ _ GE Kx (λ i a b d=>?_) (λ i a b e c=>GE);rw[ais GE,ais GE];exact h i a GE
def A_(key:α->Int)(l:List α):List α:=lX key (l.length-1) (swp l 0 (l.length-1)) 0
def qU(key:α->Int)(l:List α):List α:=(A_ key l).take (l.length-1)
def arx:(A_ key l).length=l.length:=by unfold A_;rw[akh _ _ _ _ (bao _),oT]
def Ns:(qU key l).length=l.length-1:=by unfold qU;rw[baf,arx];omega
def arw(a:0<l.length):(A_ key l).getD (l.length-1) default=l.getD 0 default:=by
 unfold A_;by_cases b:l.length-1=0
 .unfold lX;rw[ban GE,swp_get a GE,bap rfl]
 .rw[aBz _ _ _ _ (bao _) (by rw[oT];omega) (by rw[oT];omega) _ (bao _) GE,swp_get a GE,bap rfl]
theorem arz(a:0<l.length):(l.getD 0 default::qU key l).Perm l:=by
 have b:(A_ key l).Perm l:=by
  unfold A_;exact(aki _ _ _ _ (bao _) (by rw[oT];omega) (by rw[oT];exact a)).trans (HP a GE)
 have c:qU key l++ [l.getD 0 default]=A_ key l:=by
  have e:=arw (key:=key) a;have d:=arx (key:=key) (l:=l);unfold qU;rw[<-e,baa,bac GE,bbq];rw[<-baI GE];exact baE GE
 exact((beT _ _).symm.trans (by rw[c])).trans b
theorem ary(h:Heap key l.length l)(a:0<l.length):Heap key (qU key l).length (qU key l):=by
 rw[Ns];have g:Heap key (l.length-1) (A_ key l):=by
  unfold A_;refine aBy _ _ _ _ (bao _) (by rw[oT];exact a) (by rw[oT];omega) (λ i c b f=>?_) (λ i _ _ _ a=>absurd a GE);rw[swp_get a GE,swp_get a GE,ban GE,ban f,ban GE,ban GE];exact h i c GE
 intro i c b;have d:∀ k,k<l.length-1->(qU key l).getD k default=(A_ key l).getD k default:=λ k e=>by
  unfold qU;rw[baa,baa,baR,bap e]
 rw[d _ GE,d _ b];exact g i c b
def Heap.least(h:Heap key l.length l):∀ y∈l,key (l.getD 0 default)<=key y:=by
 intro y b;obtain⟨i,a,rfl⟩:=bbf.1 b;have:=h.min i a
 rwa [show l.getD i default=l[i] by rw[baa,bac a];rfl]at this
end
end dh
end
section
namespace sW
section
variable{α:Type}{dM:α->List α}{k h:α->Int}{src:α->Prop}{x y s b:α}{d uj D:Int}{aD Ej:α->Int}{Q s3:List (α×Int)}{rest:List α}{e:α×Int}
inductive pd (dM:α->List α) (k:α->Int) (src:α->Prop):α->Int->Prop
 | start {s:α} (hs:src s):pd dM k src s 0
 | step {x y:α} {d:Int} (hx:pd dM k src x d) (aP:y∈dM x):pd dM k src y (d+k y)
def xe(a:α->List α)(k:α->Int)(b:α->Prop)(x:α)(d:Int):Prop:=pd a k b x d/\∀ c,pd a k b x c->d<=c
structure jF(dM:α->List α)(k h:α->Int):Prop where
 AP:∀ x,∀ y∈dM x,0<k y
 aN:∀ x,0<=h x
 au:∀ x,∀ y∈dM x,h x<=k y+h y
def pd.uW(o:jF dM k h)(r:pd dM k src x d):0<=d:=by
 induction r with
 | start _=>exact bbI 0
 | step _ a b=>have:=o.AP _ _ a;omega
def xe.uniq(a:xe dM k src x d)(b:xe dM k src x uj):d=uj:=Int.le_antisymm (a.2 _ b.1) (b.2 _ a.1)
structure Inv(dM:α->List α)(k h:α->Int)(src:α->Prop)(aD:α->Int)(Q:List (α×Int))(eb:α)(rest:List α):Prop where
 q:∀ e∈Q,(src e.1/\e.2=0)\/∃ p,0<=aD p/\e.1∈dM p/\e.2=aD p+k e.1
 neg:∀ x,aD x<0->aD x= -1
 O:∀ x,0<=aD x->xe dM k src x (aD x)
 pred:∀ x,0<=aD x->(src x/\aD x=0)\/∃ p,0<=aD p/\x∈dM p/\aD x=aD p+k x
 Ru:∀ x,0<=aD x->∀ y∈dM x,0<=aD y\/(y,aD x+k y)∈Q\/(x=eb/\y∈rest)
 RQ:∀ s,src s->0<=aD s\/(s,0)∈Q
 mono:∀ x,0<=aD x->∀ e∈Q,aD x+h x<=e.2+h e.1
 auk:rest≠ []->0<=aD eb/\(∀ y∈rest,y∈dM eb)/\∀ z,0<=aD z->aD z+h z<=aD eb+h eb
def Inv.arZ(i:Inv dM k h src aD Q x rest)(d:e∈Q):pd dM k src e.1 e.2:=by
 rcases i.q e d with⟨a,b⟩|⟨p,a,b,c⟩
 .rw[b];exact .start a
 .rw[c];exact .step (i.O p a).1 b
theorem Inv.front(o:jF dM k h)(i:Inv dM k h src aD Q s [])(r:pd dM k src x d):aD x<0->∃ e∈Q,e.2+h e.1<=d+h x:=by
 induction r with
 | start hs =>
  intro c;rcases i.RQ _ hs with a|a
  .omega
  .exact⟨_,a,bbI _⟩
 | @step x y d r b f =>
  intro j;by_cases c:aD x<0
  .obtain⟨e,g,l⟩:=f c;have:=o.au x y b;exact⟨e,g,GE⟩
  .rcases i.Ru x GE y b with a|a|⟨_,a⟩
   .omega
   .have:=(i.O x GE).2 d r;exact⟨_,a,by dsimp only;omega⟩
   .simp at a
theorem Inv.aMF(i:Inv dM k h src aD Q x [])(l:Q.Perm (e::s3))(g:0<=aD e.1):Inv dM k h src aD s3 x []:=by
 have m:∀ z∈s3,z∈Q:=λ z f=>l.symm.subset (bav _ f);have I:∀ z∈Q,z=e\/z∈s3:=λ z f=>baB.1 (l.subset f);refine⟨λ z f=>i.q z (m z f),i.neg,i.O,i.pred,λ a j c o=>?_,λ s n=>?_,λ a j z f=>i.mono a j z (m z f),λ p=>absurd Z p⟩
 .rcases i.Ru a j c o with b|b|b
  .exact .inl b
  .rcases I _ b with d|d
   .left;rw[<-d]at g;exact g
   .exact .inr (.inl d)
  .exact .inr (.inr b)
 .rcases i.RQ s n with b|b
  .exact .inl b
  .rcases I _ b with d|d
   .left;rw[<-d]at g;exact g
   .exact .inr d
theorem Inv.aME(o:jF dM k h)(i:Inv dM k h src aD Q s [])(u:Q.Perm (e::s3))(E:aD e.1<0)(A:∀ z∈Q,e.2+h e.1<=z.2+h z.1)(n:Ej e.1=e.2)(m:∀ z,z≠e.1->Ej z=aD z):Inv dM k h src Ej s3 e.1 (dM e.1)/\0<=e.2:=by
 have C:∀ z∈s3,z∈Q:=λ z j=>u.symm.subset (bav _ j);have I:∀ z∈Q,z=e\/z∈s3:=λ z j=>baB.1 (u.subset j);have t:e∈Q:=u.symm.subset baZ;have w:=i.arZ t;have v:=w.uW o;have l:∀ z,0<=aD z->Ej z=aD z:=λ z j=>m z (λ f=>by rw[f]at j;omega);have F:xe dM k src e.1 e.2:=⟨w,λ H r=>by
  obtain⟨z,j,G⟩:=i.front o r E;have:=A z j
  omega⟩
 have x:∀ a,0<=Ej a->Ej a+h a<=e.2+h e.1:=λ a d=>by
  by_cases f:a=e.1
  .subst f;omega
  .rw[m a f]at d ⊢;exact i.mono a d e t
 refine⟨⟨λ z j=>?_,λ a d=>?_,λ a d=>?_,λ a d=>?_,λ a d c B=>?_,λ a d=>?_,λ a d z j=>?_,λ _=>⟨GE,λ y D=>D,λ a d=>by rw[n];exact x a d⟩⟩,v⟩
 .rcases i.q z (C z j)with b|⟨p,b,g,q⟩
  .exact .inl b
  .exact .inr ⟨p,by rw[l p b];exact b,g,by rw[l p b];exact q⟩
 .by_cases f:a=e.1
  .subst f;omega
  .rw[m a f]at d ⊢;exact i.neg a d
 .by_cases f:a=e.1
  .rw[f,n];exact F
  .rw[m a f]at d ⊢;exact i.O a d
 .by_cases f:a=e.1
  .rw[f,n];rcases i.q e t with b|⟨p,b,g,q⟩
   .exact .inl b
   .exact .inr ⟨p,by rw[l p b];exact b,g,by rw[l p b];exact q⟩
  .rw[m a f]at d ⊢;rcases i.pred a d with b|⟨p,b,g,q⟩
   .exact .inl b
   .exact .inr ⟨p,by rw[l p b];exact b,g,by rw[l p b];exact q⟩
 .by_cases f:a=e.1
  .exact .inr (.inr ⟨f,by rw[<-f];exact B⟩)
  .rw[m a f]at d ⊢;rcases i.Ru a d c B with b|b|⟨_,b⟩
   .left;rw[l c b];exact b
   .rcases I _ b with g|g
    .left;have:c=e.1:=by rw[<-g]
     rw[this,n];exact v
    .exact .inr (.inl g)
   .simp at b
 .rcases i.RQ a d with b|b
  .left;rw[l a b];exact b
  .rcases I _ b with g|g
   .left;have:a=e.1:=by rw[<-g]
    rw[this,n];exact v
   .exact .inr g
 .have:=x a d;have:=A z (C z j);omega
theorem Inv.push(o:jF dM k h)(i:Inv dM k h src aD Q x (y::rest))(j:s3.Perm ((y,aD x+k y)::Q)):Inv dM k h src aD s3 x rest:=by
 have p:∀ z∈Q,z∈s3:=λ z d=>j.symm.subset (bav _ d);have s:(y,aD x+k y)∈s3:=j.symm.subset baZ;have I:∀ z∈s3,z=(y,aD x+k y)\/z∈Q:=λ z d=>baB.1 (j.subset d);obtain⟨n,m,q⟩:=i.auk Kx;have l:=m y baZ;refine⟨λ z d=>?_,i.neg,i.O,i.pred,λ a e c g=>?_,λ a e=>(i.RQ a e).imp id (p _),λ a e z d=>?_,λ _=>⟨n,λ c g=>m c (bav _ g),q⟩⟩
 .rcases I z d with rfl|b
  .exact .inr ⟨x,n,l,Z⟩
  .exact i.q z b
 .rcases i.Ru a e c g with b|b|⟨b,r⟩
  .exact .inl b
  .exact .inr (.inl (p _ b))
  .rcases baB.1 r with f|f
   .subst b;subst f;exact .inr (.inl s)
   .exact .inr (.inr ⟨b,f⟩)
 .rcases I z d with rfl|b
  .have:=q a e;have:=o.au x y l;dsimp only;omega
  .exact i.mono a e z b
def Inv.skip(i:Inv dM k h src aD Q x (y::rest))(f:0<=aD y):Inv dM k h src aD Q x rest:=by
 obtain⟨l,j,n⟩:=i.auk Kx;refine⟨i.q,i.neg,i.O,i.pred,λ a m c e=>?_,i.RQ,i.mono,λ _=>⟨l,λ c e=>j c (bav _ e),n⟩⟩;rcases i.Ru a m c e with b|b|⟨b,g⟩
 .exact .inl b
 .exact .inr (.inl b)
 .rcases baB.1 g with d|d
  .subst d;exact .inl f
  .exact .inr (.inr ⟨b,d⟩)
def Inv.start(c:∀ x,aD x= -1)(I:∀ e∈Q,src e.1/\e.2=0)(g:∀ s,src s->(s,0)∈Q):Inv dM k h src aD Q x [] :=
 ⟨λ e f=> .inl (I e f),λ a _=>c a,λ a b=>by rw[c a]at b;omega,λ a b=>by rw[c a]at b;omega,λ a b=>by rw[c a]at b;omega,λ s d=> .inr (g s d),λ a b=>by rw[c a]at b;omega,λ d=>absurd rfl d⟩
def Inv.all(o:jF dM k h)(i:Inv dM k h src aD [] s [])(r:pd dM k src x d):0<=aD x:=by
 by_cases b:aD x<0
 .obtain⟨e,a,_⟩:=i.front o r b;simp at a
 .omega
structure Spec(dM:α->List α)(k h:α->Int)(src:α->Prop)(b:α)(aD:α->Int):Prop where
 neg:∀ x,aD x<0->aD x= -1
 O:∀ x,0<=aD x->xe dM k src x (aD x)/\∀ D,xe dM k src b D->aD x+h x<=D
 known:∀ x d,xe dM k src x d->(∀ D,xe dM k src b D->d+h x<=D)->aD x=d
 pred:∀ x,0<=aD x->(src x/\aD x=0)\/∃ p,0<=aD p/\x∈dM p/\aD x=aD p+k x
def Spec.uniq(a:Spec dM k h src b aD)(c:Spec dM k h src b Ej)(x:α):aD x=Ej x:=by
 by_cases d:0<=aD x
 .exact(c.known x _ (a.O x d).1 (a.O x d).2).symm
 .by_cases e:0<=Ej x
  .exact a.known x _ (c.O x e).1 (c.O x e).2
  .rw[a.neg x GE,c.neg x GE]
theorem Inv.ends(o:jF dM k h)(i:Inv dM k h src aD Q s [])(r:h b=0)(q:0<=aD b->∀ x,0<=aD x->aD x+h x<=aD b)(c:(0<=aD b/\∀ e∈Q,aD b<e.2+h e.1)\/Q=[]):Spec dM k h src b aD:=by
 refine⟨i.neg,λ x l=>⟨i.O x l,λ D m=>?_⟩,λ x d j p=>?_,i.pred⟩
 .by_cases a:0<=aD b
  .have:=q a x l;rw[m.uniq (i.O b a)];exact this
  .rcases c with c|c
   .omega
   .subst c;exact absurd (i.all o m.1) a
 .by_cases a:aD x<0
  .obtain⟨e,g,t⟩:=i.front o j.1 a;rcases c with⟨f,n⟩|f
   .have:=p _ (i.O b f);have:=n e g;omega
   .subst f;simp at g
  .exact(i.O x GE).uniq j
def Spec.end_(s:Spec dM k h src b aD)(d:h b=0)(a:xe dM k src b D):aD b=D:=s.known b D a λ e c=>by rw[d,a.uniq c];omega
def pd.sub{a:α->Prop}(f:∀ x,src x->a x)(r:pd dM k src x d):pd dM k a x d:=by
 induction r with
 | start c=>exact .start (f _ c)
 | step _ b e=>exact .step e b
theorem pd.aom(o:jF dM k h)(r:pd dM k src x d):∃ d,xe dM k src x d:=by
 have:∀ n:Nat,∀ d,pd dM k src x d->d.toNat=n->∃ d,xe dM k src x d:=by
  intro n;induction n using Nat.strongRecOn with
  | ind n f =>
   intro d r g;by_cases e:∃ a,pd dM k src x a/\a<d
   .obtain⟨a,b,c⟩:=e;have:=b.uW o;exact f a.toNat GE a b Z
   .exact⟨d,r,λ a b=>by
     by_cases c:a<d
     .exact absurd ⟨a,b,c⟩ e
     .omega⟩
 exact this _ d r Z
end
end sW
end
open Tryz

structure aw where
 x:Int
 y:Int
 deriving DecidableEq,Inhabited
namespace aw
def cells(a:aw):List Value:=[.int .i64 (a.x),.int .i64 (a.y)]
def ok(a:aw):Prop:=(Lit.int .i64 a.x).wf=true/\(Lit.int .i64 a.y).wf=true
def raw(j:Nat)(u:Value):Prop:=match j with
 | 0|1=>∃ n:Int,u=.int .i64 n
 | _=>True
def ui(a:aw):∀(j:Nat) u,a.cells[j]? =some u->raw j u:=by
 intro j u b
 match j,b with
 | 0,b|1,b=>exact⟨_,(bae b).symm⟩
 | j+2,b=>exact trivial
def cells_one(a:aw):∀ u∈a.cells,u.oneCell'=true:=by
 intro u b;unfold cells at b;simp only[baB,bbM,bcH]at b;rcases b with rfl|rfl<;>rfl
def ce:τ aw:=τ.flat 2 cells ok raw (λ _=>rfl) cells_one ui
def plain:ce.Y:=τ.nc
def zero:Value:=.agg #[.int .i64 0,.int .i64 0]
def M:∀(j:Nat) u,zero.cells[j]? =some u->ce.raw j u:=by
 intro j u a;have a:(#[(.int .i64 0:Value),(.int .i64 0:Value)]:Array Value)[j]? =some u:=a
 match j,a with
 | 0,a|1,a=>exact⟨_,(bae a).symm⟩
 | j+2,a=>cases a
def G:(prog.info? 41).map (λ i=>(i.zero,i.size,i.bytes))=some (some zero,2,16):=GT
def d9{by_:Nat}{w:World}{A:Option Addr}{c:Nat}{l:List aw}(h:ce.aF by_ w A c l)(f:0<l.length):
  ∃ b o,A=some ⟨b,o,none⟩/\∀(i:Nat) (a:aw),l[i]? =some a->w.cell? ⟨b,o+i*2,none⟩=some (.int .i64 (a.x))/\w.cell? ⟨b,o+i*2+1,none⟩=some (.int .i64 (a.y)):=by
 obtain⟨b,o,e,j⟩:=h.d9 f;refine⟨b,o,e,λ i a g=>?_⟩;obtain⟨es,⟨rfl,_⟩,d⟩:=j i a g;exact⟨d 0 _ Z,d 1 _ Z⟩
def C{by_:Nat}{w:World}{A:Option Addr}{c:Nat}{l:List aw}(h:ce.aF by_ w A c l):∀ a∈l,a.ok:=τ.aF.D1 (R:=ce) (Q:=ok) (λ{w cs a} (h:ce.bv w cs a)=>(show cs=a.cells/\a.ok from h).2) h
def iI{w:World}{g:Nat}{t:TypeId}{b:Nat×Nat}{a:aw}(h:aO w g a.cells t b):w.cell? ⟨g,0,none⟩=some (.int .i64 (a.x))/\w.cell? ⟨g,1,none⟩=some (.int .i64 (a.y)):=
 ⟨h.cell 0,h.cell 1⟩
def sh:hg:=(.cons (.int .i64) (.cons (.int .i64) .nil))
def opens(w:World)(cs:List Value)(h:sh.jF w cs):∃ a,ce.bv w cs a:=by
 obtain⟨_,_,rfl,_,_,⟨c,rfl,b⟩,⟨_,_,rfl,_,_,⟨e,rfl,d⟩,rfl⟩⟩:=h;exact⟨⟨c,e⟩,Z,b,d⟩
end aw
def ng{w:World}{cs:List Value}{a:aw}(h:aw.ce.bv w cs a):cs=a.cells:=bcs (show cs=a.cells/\a.ok from h)
open Tryz

structure bb where
 id:Int
 H:Int
 O:Int
 an:aw
 K:Int
 load:Int
 deriving DecidableEq,Inhabited
namespace bb
def cells(a:bb):List Value:=[.int .i64 (a.id),.int .i64 (a.H),.int .i64 (a.O),.int .i64 (a.an.x),.int .i64 (a.an.y),.int .i64 (a.K),.int .i64 (a.load)]
def ok(a:bb):Prop:=(Lit.int .i64 a.id).wf=true/\(Lit.int .i64 a.H).wf=true/\(Lit.int .i64 a.O).wf=true/\(Lit.int .i64 a.an.x).wf=true/\(Lit.int .i64 a.an.y).wf=true/\(Lit.int .i64 a.K).wf=true/\(Lit.int .i64 a.load).wf=true
def raw(j:Nat)(u:Value):Prop:=match j with
 | 0|1|2|3|4|5|6=>∃ n:Int,u=.int .i64 n
 | _=>True
def ui(a:bb):∀(j:Nat) u,a.cells[j]? =some u->raw j u:=by
 intro j u b
 match j,b with
 | 0,b|1,b|2,b|3,b|4,b|5,b|6,b=>exact⟨_,(bae b).symm⟩
 | j+7,b=>exact trivial
def cells_one(a:bb):∀ u∈a.cells,u.oneCell'=true:=by
 intro u b;unfold cells at b;simp only[baB,bbM,bcH]at b;rcases b with rfl|rfl|rfl|rfl|rfl|rfl|rfl<;>rfl
def ce:τ bb:=τ.flat 7 cells ok raw (λ _=>rfl) cells_one ui
def plain:ce.Y:=τ.nc
def zero:Value:=.agg #[.int .i64 0,.int .i64 0,.int .i64 0,.int .i64 0,.int .i64 0,.int .i64 0,.int .i64 0]
def M:∀(j:Nat) u,zero.cells[j]? =some u->ce.raw j u:=by
 intro j u a;have a:(#[(.int .i64 0:Value),(.int .i64 0:Value),(.int .i64 0:Value),(.int .i64 0:Value),(.int .i64 0:Value),(.int .i64 0:Value),(.int .i64 0:Value)]:Array Value)[j]? =some u:=a
 match j,a with
 | 0,a|1,a|2,a|3,a|4,a|5,a|6,a=>exact⟨_,(bae a).symm⟩
 | j+7,a=>cases a
def G:(prog.info? 68).map (λ i=>(i.zero,i.size,i.bytes))=some (some zero,7,56):=GT
theorem d9{by_:Nat}{w:World}{A:Option Addr}{c:Nat}{l:List bb}(h:ce.aF by_ w A c l)(f:0<l.length):
  ∃ b o,A=some ⟨b,o,none⟩/\∀(i:Nat) (a:bb),l[i]? =some a->w.cell? ⟨b,o+i*7,none⟩=some (.int .i64 (a.id))/\w.cell? ⟨b,o+i*7+1,none⟩=some (.int .i64 (a.H))/\w.cell? ⟨b,o+i*7+2,none⟩=some (.int .i64 (a.O))/\w.cell? ⟨b,o+i*7+3,none⟩=some (.int .i64 (a.an.x))/\w.cell? ⟨b,o+i*7+4,none⟩=some (.int .i64 (a.an.y))/\w.cell? ⟨b,o+i*7+5,none⟩=some (.int .i64 (a.K))/\w.cell? ⟨b,o+i*7+6,none⟩=some (.int .i64 (a.load)):=by
 obtain⟨b,o,e,j⟩:=h.d9 f;refine⟨b,o,e,λ i a g=>?_⟩;obtain⟨es,⟨rfl,_⟩,d⟩:=j i a g;exact⟨d 0 _ Z,d 1 _ Z,d 2 _ Z,d 3 _ Z,d 4 _ Z,d 5 _ Z,d 6 _ Z⟩
def C{by_:Nat}{w:World}{A:Option Addr}{c:Nat}{l:List bb}(h:ce.aF by_ w A c l):∀ a∈l,a.ok:=τ.aF.D1 (R:=ce) (Q:=ok) (λ{w cs a} (h:ce.bv w cs a)=>(show cs=a.cells/\a.ok from h).2) h
theorem iI{w:World}{g:Nat}{t:TypeId}{b:Nat×Nat}{a:bb}(h:aO w g a.cells t b):w.cell? ⟨g,0,none⟩=some (.int .i64 (a.id))/\w.cell? ⟨g,1,none⟩=some (.int .i64 (a.H))/\w.cell? ⟨g,2,none⟩=some (.int .i64 (a.O))/\w.cell? ⟨g,3,none⟩=some (.int .i64 (a.an.x))/\w.cell? ⟨g,4,none⟩=some (.int .i64 (a.an.y))/\w.cell? ⟨g,5,none⟩=some (.int .i64 (a.K))/\w.cell? ⟨g,6,none⟩=some (.int .i64 (a.load)):=
 ⟨h.cell 0,h.cell 1,h.cell 2,h.cell 3,h.cell 4,h.cell 5,h.cell 6⟩
def sh:hg:=(.cons (.int .i64) (.cons (.int .i64) (.cons (.int .i64) (.cons (.cons (.int .i64) (.cons (.int .i64) .nil)) (.cons (.int .i64) (.cons (.int .i64) .nil))))))
def opens(w:World)(cs:List Value)(h:sh.jF w cs):∃ a,ce.bv w cs a:=by
 obtain⟨_,_,rfl,_,_,⟨g,rfl,b⟩,⟨_,_,rfl,_,_,⟨k,rfl,i⟩,⟨_,_,rfl,_,_,⟨j,rfl,f⟩,⟨_,_,rfl,_,_,⟨_,_,rfl,_,_,⟨l,rfl,m⟩,⟨_,_,rfl,_,_,⟨n,rfl,c⟩,rfl⟩⟩,⟨_,_,rfl,_,_,⟨o,rfl,d⟩,⟨_,_,rfl,_,_,⟨p,rfl,e⟩,rfl⟩⟩⟩⟩⟩⟩:=h;exact⟨⟨g,k,j,⟨l,n⟩,o,p⟩,Z,b,i,f,m,c,d,e⟩
end bb
def gm{w:World}{cs:List Value}{a:bb}(h:bb.ce.bv w cs a):cs=a.cells:=bcs (show cs=a.cells/\a.ok from h)
open Tryz

structure aE where
 O:Int
 high:Int
 G:List Int
 deriving DecidableEq,Inhabited
structure ag where
 am:aE
 aT:List aw
 bl:List Int
 bE:List Int
 ah:List bb
 next:Int
 db:Int
 deriving DecidableEq,Inhabited
namespace aE
def W9(p:Int):Bool:=bA p 0 3
def br(f:aE):Int :=
 if bA f.O 1 40 && bA f.high 1 40 then(if decide ((f.G.length:Int)=f.O*f.high) && f.G.all W9 then 0 else 4)else 1
def dF(f:aE)(c:aw):Bool:=bA c.x 0 (f.O-1) && bA c.y 0 (f.high-1)
def H(f:aE)(c:aw):Int:=f.G.getD (c.y*f.O+c.x).toNat 0
def ground(f:aE)(c:aw):Bool:=f.dF c && f.H c != 1
def hB{f:aE}(h:f.br=0):1<=f.O/\f.O<=40/\1<=f.high/\f.high<=40/\(f.G.length:Int)=f.O*f.high/\∀ p∈f.G,0<=p/\p<=3:=by
 unfold br at h;split at h
 .rename_i c
  rw[bai]at c;have a:=j4 c.1;have b:=j4 c.2;split at h
  .rename_i d
   rw[bai,ba8]at d;exact⟨a.1,a.2,b.1,b.2,by simpa using d.1,λ p e=>j4 (d.2 p e)⟩
  .cases h
 .cases h
def ajf{f:aE}(h:(bA f.O 1 40 && bA f.high 1 40)=false):f.br=1:=by unfold br;rw[h];rfl
theorem idx{f:aE}(h:f.br=0){c:aw}(d:f.dF c=true):0<=c.y*f.O+c.x/\c.y*f.O+c.x<(f.G.length:Int)/\0<=c.x/\c.x<f.O/\0<=c.y/\c.y<f.high:=by
 obtain⟨g1,g2,g3,g4,g5,_⟩:=hB h;unfold dF at d;rw[bai]at d;have a:=j4 d.1;have b:=j4 d.2;have e:0<=c.y*f.O:=bca b.1 GE;have g:c.y*f.O<=(f.high-1)*f.O:=Int.mul_le_mul_of_nonneg_right b.2 GE;have i:(f.high-1)*f.O=f.O*f.high-f.O:=by rw[Int.sub_mul,Int.one_mul,bdt]
 rw[g5];omega
def M{f:aE}(h:f.br=0):f.G.length<=1600:=by
 obtain⟨g1,g2,g3,g4,g5,_⟩:=hB h;have a:f.O*f.high<=40*40:=bbP g2 g4 GE GE;omega
end aE
namespace aE
def eS(f:aE)(c:aw):Int:=if f.br≠0 then f.br else if f.dF c then 0 else 7
def p1(f:aE)(c:aw):Int:=if f.br≠0 then 0 else if f.dF c then f.H c else 0
def Z5{f:aE}{c:aw}(h:f.br≠0):f.eS c=f.br/\f.p1 c=0:=by unfold eS p1;rw[bap h,bap h];exact⟨Z,Z⟩
def O5{f:aE}{c:aw}(h:f.br=0)(a:f.dF c=false):f.eS c=7/\f.p1 c=0:=by unfold eS p1;simp[h,a]
def C{f:aE}{c:aw}(h:f.br=0)(a:f.dF c=true):f.eS c=0/\f.p1 c=f.H c:=by unfold eS p1;simp[h,a]
def aJa{f:aE}{c:aw}(h:c.x<0\/f.O<=c.x\/c.y<0\/f.high<=c.y):f.dF c=false:=by
 unfold dF;rcases h with h|h|h|h
 .rw[sw (.inl h)];rfl
 .rw[sw (n:=c.x) (.inr GE)];rfl
 .rw[sw (n:=c.y) (.inl h),beX]
 .rw[sw (n:=c.y) (.inr GE),beX]
def ad3{f:aE}{c:aw}(a:0<=c.x)(d:c.x<f.O)(b:0<=c.y)(e:c.y<f.high):f.dF c=true:=by
 unfold dF;rw[kj a GE,kj b GE];rfl
end aE
def aYH(k:Int):Option (Int×Int×Int×Int):=if k=1 then some (10,1,1,5)else if k=2 then some (20,2,4,12)else none
namespace ag
def A4(W:ag)(i:Nat):Bool:=W.am.ground (W.aT.getD i default) && !(W.aT.take i).contains (W.aT.getD i default) && bA (W.bl.getD i 0) 0 1000000
def U(W:ag):Bool:=decide (W.bl.length=W.aT.length) && (List.range W.aT.length).all W.A4
def A5(W:ag)(i:Nat):Bool:=bA (W.bE.getD i 0) 0 1000000 && (decide (W.bE.getD i 0<=0) || W.am.G.getD i 0 == 3)
def F(W:ag):Bool:=decide (W.bE.length=W.am.G.length) && (List.range W.bE.length).all W.A5
def G(W:ag)(i:Nat):Int:=if i=0 then 0 else(W.ah.getD (i-1) default).id
def gT(k:Int):Int:=if k=1 then 10 else if k=2 then 20 else 0
def zd(k:Int):Int:=if k=1 then 5 else 0
def Rt(W:ag)(b a:Int)(t:bb):Bool :=
 bA t.O 1 2 && bA t.id b a && bA t.H 0 ((W.aT.length:Int)-1) && W.am.ground t.an && bA t.K 1 (gT t.O) && bA t.load 0 (zd t.O)
def kJ(W:ag)(k:Nat):List aw:=(W.ah.take k).map (·.an)
def A6(W:ag)(i:Nat):Bool:=W.Rt (wrap64 (W.G i+1)) (wrap64 (W.next-1)) (W.ah.getD i default) && !(W.kJ i).contains (W.ah.getD i default).an
def K(W:ag):Bool:=(List.range W.ah.length).all W.A6 && (bA W.next 1 1000000 && bA W.db 0 1000000)
def br(W:ag):Int :=
 if W.am.br≠0 then W.am.br else if 8<W.aT.length\/100<W.ah.length then 2 else if W.U && W.F && W.K then 0 else 4
structure cS where
 P:Option Addr
 B:Option Addr
 S:Option Addr
 M:Option Addr
 T:Option Addr
 p:Nat
 b:Nat
 s:Nat
 m:Nat
 t:Nat
def L9(A:Option Addr)(c:Nat)(f:aE):List Value:=[.int .i64 f.O,.int .i64 f.high,.slice A f.G.length c]
def cells(h:cS)(W:ag):List Value :=
 [.int .i64 W.am.O,.int .i64 W.am.high,.slice h.P W.am.G.length h.p,.slice h.B W.aT.length h.b,.slice h.S W.bl.length h.s,.slice h.M W.bE.length h.m,.slice h.T W.ah.length h.t,.int .i64 W.next,.int .i64 W.db]
def aAn(h:cS)(W:ag):(cells h W).toArray=#[.int .i64 W.am.O,.int .i64 W.am.high,.slice h.P W.am.G.length h.p,.slice h.B W.aT.length h.b,.slice h.S W.bl.length h.s,.slice h.M W.bE.length h.m,.slice h.T W.ah.length h.t,.int .i64 W.next,.int .i64 W.db]:=rfl
structure fd(w:World)(h:cS)(W:ag):Prop where
 P:bN.aF 8 w h.P h.p W.am.G
 B:aw.ce.aF 16 w h.B h.b W.aT
 S:bN.aF 8 w h.S h.s W.bl
 M:bN.aF 8 w h.M h.m W.bE
 T:bb.ce.aF 56 w h.T h.t W.ah
 nums:gg W.am.O/\gg W.am.high/\gg W.next/\gg W.db
def fd.be{w w':World}{h:cS}{W:ag}(a:fd w h W)(b:Below w.heap.size w w'):fd w' h W :=
 ⟨a.P.be b,a.B.be b,a.S.be b,a.M.be b,a.T.be b,a.nums⟩
def aER:hg:=.cons (.int .i64) (.cons (.int .i64) (.cons (.slice (.int .i64) 8) .nil))
def sh:hg:=.cons aER (.cons (.slice aw.sh 16) (.cons (.slice (.int .i64) 8) (.cons (.slice (.int .i64) 8) (.cons (.slice bb.sh 56) (.cons (.int .i64) (.cons (.int .i64) .nil))))))
theorem opens(w:World)(cs:List Value)(h:sh.jF w cs):∃ h W,cs=cells h W/\fd w h W:=by
 obtain⟨_,_,rfl,_,_,⟨_,_,rfl,_,_,⟨q,rfl,a⟩,_,_,rfl,_,_,⟨u,rfl,r⟩,_,_,rfl,_,_,o,rfl⟩,_,_,rfl,_,_,l,_,_,rfl,_,_,A,_,_,rfl,_,_,H,_,_,rfl,_,_,n,_,_,rfl,_,_,⟨t,rfl,p⟩,_,_,rfl,_,_,⟨D,rfl,E⟩,rfl⟩:=h;obtain⟨y,j,F,rfl,c⟩:=τ.M (R:=bN) afn rfl GP o;obtain⟨B,g,f,rfl,m⟩:=τ.M (R:=aw.ce) aw.opens rfl GP l;obtain⟨C,k,e,rfl,v⟩:=τ.M (R:=bN) afn rfl GP A;obtain⟨x,i,d,rfl,G⟩:=τ.M (R:=bN) afn rfl GP H;obtain⟨z,s,b,rfl,K⟩:=τ.M (R:=bb.ce) bb.opens rfl GP n;exact⟨⟨y,B,C,x,z,j,g,k,i,s⟩,⟨⟨q,u,F⟩,f,e,d,b,t,D⟩,Z,c,m,v,G,K,a,r,p,E⟩
def alq{w:World}{g:Nat}{t:TypeId}{a:Nat×Nat}{A:Option Addr}{c:Nat}{f:aE}(h:aO w g (L9 A c f) t a):
  w.cell? ⟨g,0,none⟩=some (.int .i64 f.O)/\w.cell? ⟨g,1,none⟩=some (.int .i64 f.high)/\w.cell? ⟨g,2,none⟩=some (.slice A f.G.length c):=⟨h.cell 0,h.cell 1,h.cell 2⟩
theorem V{w:World}{g:Nat}{t:TypeId}{b:Nat×Nat}{a:cS}{W:ag}(h:aO w g (cells a W) t b):
  w.cell? ⟨g,0,none⟩=some (.int .i64 W.am.O)/\w.cell? ⟨g,1,none⟩=some (.int .i64 W.am.high)/\w.cell? ⟨g,2,none⟩=some (.slice a.P W.am.G.length a.p)/\
  w.cell? ⟨g,3,none⟩=some (.slice a.B W.aT.length a.b)/\w.cell? ⟨g,4,none⟩=some (.slice a.S W.bl.length a.s)/\w.cell? ⟨g,5,none⟩=some (.slice a.M W.bE.length a.m)/\w.cell? ⟨g,6,none⟩=some (.slice a.T W.ah.length a.t)/\
  w.cell? ⟨g,7,none⟩=some (.int .i64 W.next)/\w.cell? ⟨g,8,none⟩=some (.int .i64 W.db):=⟨h.cell 0,h.cell 1,h.cell 2,h.cell 3,h.cell 4,h.cell 5,h.cell 6,h.cell 7,h.cell 8⟩
end ag
open Tryz

def aE.K{f:aE}{c:aw}(h:f.ground c=true):f.dF c=true:=by
 unfold aE.ground at h;rw[bai]at h;exact h.1
namespace ag
def ajd{W:ag}(h:W.am.br≠0):W.br=W.am.br:=by unfold br;rw[bap h]
def aje{W:ag}(h:W.am.br=0)(a:8<W.aT.length\/100<W.ah.length):W.br=2:=by unfold br;rw[ban (by simpa using h),bap a]
def aaF{W:ag}(h:W.am.br=0)(a:¬(8<W.aT.length\/100<W.ah.length)):W.br=if W.U && W.F && W.K then 0 else 4:=by unfold br;rw[ban (by simpa using h),ban a]
end ag
def ag.aMD{W:ag}(h:¬W.bl.length=W.aT.length):W.U=false:=by unfold ag.U;rw[baA h];rfl
def ag.ae3{W:ag}{k:Nat}(a:k<W.aT.length)(h:W.A4 k=false):W.U=false:=by
 unfold ag.U;rw[bde];right;rw[bc9];exact⟨k,baW.2 a,by rw[h];simp⟩
def ag.arv{W:ag}(h:W.bl.length=W.aT.length)(b:∀ k,k<W.aT.length->W.A4 k=true):W.U=true:=by
 unfold ag.U;rw[baG h,bdi,ba8];exact λ k a=>b k (baW.1 a)
def ag.aK2{W:ag}(h:¬W.bE.length=W.am.G.length):W.F=false:=by unfold ag.F;rw[baA h];rfl
def ag.aqK{W:ag}{k:Nat}(a:k<W.bE.length)(h:W.A5 k=false):W.F=false:=by
 unfold ag.F;rw[bde];right;rw[bc9];exact⟨k,baW.2 a,by rw[h];simp⟩
def ag.aqL{W:ag}(h:W.bE.length=W.am.G.length)(b:∀ k,k<W.bE.length->W.A5 k=true):W.F=true:=by
 unfold ag.F;rw[baG h,bdi,ba8];exact λ k a=>b k (baW.1 a)
def ag.r{W:ag}{k:Nat}(a:k<W.ah.length)(h:W.A6 k=false):W.K=false:=by
 unfold ag.K;rw[bde];left;rw[bc9];exact⟨k,baW.2 a,by rw[h];simp⟩
def je(a:Int)(t:bb):Bool:=t.id == a
def tB(p:aw)(t:bb):Bool:=decide (t.an=p)
def aRx(W:ag)(p:bb->Bool):Int:=if W.br=0 then max (fK p W.ah) 0 else 0
def aub(W:ag)(p:bb->Bool):Bool:=decide (W.br=0) && decide (0<=fK p W.ah)
def aLw(c:aw)(r:Int)(t:bb):Bool:=bA c.x (t.an.x-r) (t.an.x+r) && bA c.y (t.an.y-r) (t.an.y+r)
def a0S(W:ag)(c:aw)(r:Int):List Int:=(W.ah.filter (aLw c r)).map (·.id)
def a0R(W:ag)(r:Int):Int:=if W.br≠0 then W.br else if bA r 0 12 then 0 else 1
def ach{W:ag}(h:W.br=0):W.am.br=0/\W.aT.length<=8/\W.ah.length<=100/\W.U=true/\W.F=true/\W.K=true:=by
 by_cases a:W.am.br=0
 .by_cases c:8<W.aT.length\/100<W.ah.length
  .rw[ag.aje a c]at h;cases h
  .rw[ag.aaF a c]at h;split at h
   .rename_i b
    rw[bai,bai]at b;exact⟨a,GE,GE,b.1.1,b.1.2,b.2⟩
   .cases h
 .rw[ag.ajd a]at h;exact absurd h a
theorem U4{W:ag}(h:W.br=0){k:Nat}{t:bb}(c:W.ah[k]? =some t):W.am.ground t.an=true/\bA t.O 1 2=true/\bA t.H 0 ((W.aT.length:Int)-1)=true/\bA t.K 1 (ag.gT t.O)=true/\bA t.load 0 (ag.zd t.O)=true/\(W.kJ k).contains t.an=false/\bA t.id (wrap64 (W.G k+1)) (wrap64 (W.next-1))=true:=by
 obtain⟨n,_,_,_,_,b⟩:=ach h;unfold ag.K at b;rw[bai,ba8]at b;have l:=(bab.1 c).1;have a:=b.1 k (baW.2 l);unfold ag.A6 ag.Rt at a;rw[baa,c]at a;simp only[bbq,bai,ba3]at a;obtain⟨⟨⟨⟨⟨⟨m,f⟩,g⟩,i⟩,j⟩,d⟩,e⟩:=a;exact⟨i,m,g,j,d,e,f⟩
open Tryz

def aqO{W:ag}(h:W.br=0):1<=W.next/\W.next<=1000000/\0<=W.db/\W.db<=1000000:=by
 obtain⟨_,_,_,_,_,c⟩:=ach h;unfold ag.K at c;rw[bai,bai]at c;have a:=j4 c.2.1;have b:=j4 c.2.2;exact⟨a.1,a.2,b.1,b.2⟩
def wrap_small{x:Int}(a: -1000<=x)(b:x<=2000000):wrap64 x=x:=by
 have h:=bdZ x;unfold wrap64;first|(rw[h];omega)|omega
theorem aIG{W:ag}(h:W.br=0):∀(k:Nat) (t:bb),W.ah[k]? =some t->W.G k<t.id/\t.id<W.next/\0<=W.G k:=by
 obtain⟨f,m,_,_⟩:=aqO h;intro k;induction k with
 | zero =>
  intro t b;have a:=j4 (U4 h b).2.2.2.2.2.2;have e:W.G 0=0:=rfl;rw[e]at a ⊢;rw[wrap_small GE GE,wrap_small GE GE]at a;omega
 | succ k d =>
  intro t b;have g:=(bab.1 b).1;obtain⟨u,c⟩:=iK (l:=W.ah) (i:=k) GE;have j:=d u c;have a:=j4 (U4 h b).2.2.2.2.2.2;have e:W.G (k+1)=u.id:=by
   unfold ag.G;rw[ban GE,baa,bek,c];rfl
  rw[e]at a ⊢;rw[wrap_small GE GE,wrap_small GE GE]at a;omega
open Tryz
structure xj(f:aE)(l5:Nat)(t:bb):Prop where
 O:t.O=1\/t.O=2
 H:0<=t.H/\t.H<(l5:Int)
 ground:f.ground t.an=true
 K:1<=t.K/\t.K<=ag.gT t.O
 load:0<=t.load/\t.load<=ag.zd t.O
structure Good(W:ag):Prop where
 am:W.am.br=0
 l5:W.aT.length<=8
 dj:W.ah.length<=100
 sl:W.bl.length=W.aT.length
 aT:∀(i:Nat) c,W.aT[i]? =some c->W.am.ground c=true/\(W.aT.take i).contains c=false
 bl:∀(i:Nat) s,W.bl[i]? =some s->0<=s/\s<=1000000
 zc:W.bE.length=W.am.G.length
 bE:∀(i:Nat) m,W.bE[i]? =some m->0<=m/\m<=1000000/\(m<=0\/W.am.G.getD i 0=3)
 ah:∀(i:Nat) t,W.ah[i]? =some t->xj W.am W.aT.length t
 ids:∀(i:Nat) t,W.ah[i]? =some t->W.G i<t.id/\t.id<W.next/\0<=W.G i
 kJ:∀(i:Nat) t,W.ah[i]? =some t->(W.kJ i).contains t.an=false
 next:1<=W.next/\W.next<=1000000
 db:0<=W.db/\W.db<=1000000
theorem Good.G{W:ag}(h:W.br=0):Good W:=by
 obtain⟨w,y,l,d,f,F⟩:=ach h;obtain⟨o,B,A,C⟩:=aqO h;unfold ag.U at d;unfold ag.F at f;rw[bai,ba8]at d f;have D:W.bl.length=W.aT.length:=by simpa using d.1
 have n:W.bE.length=W.am.G.length:=by simpa using f.1
 refine⟨w,y,l,D,λ i c j=>?_,λ i s k=>?_,n,λ i m a=>?_,λ i t a=>?_,λ i t a=>aIG h i t a,λ i t a=>(U4 h a).2.2.2.2.2.1,⟨o,B⟩,⟨A,C⟩⟩
 .have e:=(bab.1 j).1;have:=d.2 i (baW.2 e);unfold ag.A4 at this;rw[baa,j]at this;simp only[bbq,bai,ba3]at this;exact⟨this.1.1,this.1.2⟩
 .have e:=(bab.1 k).1;have:=d.2 i (baW.2 GE);unfold ag.A4 at this;rw[bai]at this;have b:=j4 this.2;rw[baa,k]at b;exact b
 .have e:=(bab.1 a).1;have:=f.2 i (baW.2 e);unfold ag.A5 at this;rw[baa,a,bai,baY]at this;have b:=j4 this.1;refine⟨b.1,b.2,?_⟩;rcases this.2 with g|g
  .exact .inl (by simpa using g)
  .exact .inr (by simpa using g)
 .obtain⟨x,q,r,u,v,_,_⟩:=U4 h a;have G:=j4 q;have z:=j4 r;have E:=j4 u;have p:=j4 v;exact⟨GE,⟨z.1,GE⟩,x,E,p⟩
theorem Good.br{W:ag}(h:Good W):W.br=0:=by
 have q:W.U=true:=ag.arv h.sl λ k d=>by
  obtain⟨c,j⟩:=iK d;obtain⟨s,n⟩:=iK (l:=W.bl) (i:=k) (by rw[h.sl];exact d);unfold ag.A4;rw[baa,j,baa,n];have a:=h.aT k c j;have g:=h.bl k s n;simp only[bbq];rw[a.1,a.2,kj g.1 g.2];rfl
 have f:W.F=true:=ag.aqL h.zc λ k d=>by
  obtain⟨m,f⟩:=iK d;have a:=h.bE k m f;unfold ag.A5;rw[baa,f];simp only[bbq];rw[kj a.1 a.2.1,bdi,baY];rcases a.2.2 with e|e
  .exact .inl (by simpa using e)
  .exact .inr (by simpa using e)
 have b:W.K=true:=by
  unfold ag.K;rw[kj h.next.1 h.next.2,kj h.db.1 h.db.2,Bool.and_true,Bool.and_true,ba8];intro k d;obtain⟨t,b⟩:=iK (baW.1 d);have a:=h.ah k t b;have g:=h.ids k t b;have e:=h.kJ k t b;have u:=h.next;unfold ag.A6 ag.Rt;rw[baa,b];simp only[bbq];have p:bA t.O 1 2=true:=by
   rcases a.O with h|h
   .exact kj GE GE
   .exact kj GE GE
  have o:bA t.id (W.G k+1) (W.next-1)=true:=kj GE GE;have r:bA t.H 0 ((W.aT.length:Int)-1)=true:=kj a.H.1 (by have:=a.H.2;omega);rw[wrap_small GE GE,wrap_small GE GE,p,o,r,e,a.ground,kj a.K.1 a.K.2,kj a.load.1 a.load.2];rfl
 rw[ag.aaF h.am (by have:=h.l5;have:=h.dj;omega),q,f,b];rfl
open Tryz
structure bF(w:World)(aQ:Nat)(a:ag.cS)(W:ag):Prop where
 P:bN.aM 3 8 w aQ (τ.ai a.P) a.P a.p W.am.G
 B:aw.ce.aM 41 16 w aQ (τ.ai a.B) a.B a.b W.aT
 S:bN.aM 3 8 w aQ (τ.ai a.S) a.S a.s W.bl
 M:bN.aM 3 8 w aQ (τ.ai a.M) a.M a.m W.bE
 T:bb.ce.aM 68 56 w aQ (τ.ai a.T) a.T a.t W.ah
 apart:(τ.ai a.P++τ.ai a.B++τ.ai a.S++τ.ai a.M++τ.ai a.T).Nodup
 nums:gg W.am.O/\gg W.am.high/\gg W.next/\gg W.db
def bF.bv{w:World}{B:Nat}{a:ag.cS}{W:ag}(h:bF w B a W):ag.fd w a W:=⟨h.P.bv,h.B.bv,h.S.bv,h.M.bv,h.T.bv,h.nums⟩
def bF.O{w w':World}{B:Nat}{a:ag.cS}{W:ag}(h:bF w B a W)(b:Below w.heap.size w w'):bF w' B a W:=⟨h.P.O b,h.B.O b,h.S.O b,h.M.O b,h.T.O b,h.apart,h.nums⟩
def bF.G(a:ag.cS):List Nat:=τ.ai a.P++τ.ai a.B++τ.ai a.S++τ.ai a.M++τ.ai a.T
def bF.lt{w:World}{B:Nat}{a:ag.cS}{W:ag}(h:bF w B a W):∀ g∈bF.G a,B<=g/\g<w.heap.size:=by
 intro g b;unfold bF.G at b;simp only[bas]at b;rcases b with(((b|b)|b)|b)|b
 .exact h.P.lt g b
 .exact h.B.lt g b
 .exact h.S.lt g b
 .exact h.M.lt g b
 .exact h.T.lt g b
def bF.el{w:World}{B:Nat}{a:ag.cS}{W:ag}(h:bF w B a W){p:Addr}(b:p.block∉bF.G a)(u:Value):bF (w.setCell p u) B a W:=by
 unfold bF.G at b;simp only[bas,not_or]at b;exact⟨h.P.el b.1.1.1.1 u,h.B.el b.1.1.1.2 u,h.S.el b.1.1.2 u,h.M.el b.1.2 u,h.T.el b.2 u,h.apart,h.nums⟩
def Nk{w:World}{B:Nat}{A:Option Addr}{a:Type}{R:τ a}{E by_ c:Nat}{l:List a}(h:R.aM E by_ w B (τ.ai A) A c l){g:Nat}(d:g<B):g∉τ.ai A:=λ b=>by have:=h.lt g b;omega
theorem H7{w:World}{g:Nat}{a c b d e f i j k:Value}{t:TypeId}{l:Nat×Nat}(h:aO w g [a,c,b,d,e,f,i,j,k] t l):w.cell? ⟨g,0,none⟩=some a/\w.cell? ⟨g,1,none⟩=some c/\w.cell? ⟨g,2,none⟩=some b/\w.cell? ⟨g,3,none⟩=some d/\w.cell? ⟨g,4,none⟩=some e/\w.cell? ⟨g,5,none⟩=some f/\w.cell? ⟨g,6,none⟩=some i/\w.cell? ⟨g,7,none⟩=some j/\w.cell? ⟨g,8,none⟩=some k :=
 ⟨h.cell 0,h.cell 1,h.cell 2,h.cell 3,h.cell 4,h.cell 5,h.cell 6,h.cell 7,h.cell 8⟩
def TN{d f:List Nat}{n m:Nat}(h:d.Nodup/\∀ g∈d,g<n)(j:f.Nodup)(i:∀ g∈f,n<=g/\g<m)(o:n<=m):(d++f).Nodup/\∀ g∈d++f,g<m:=by
 refine⟨bbb.2 ⟨h.1,j,λ a l b k e=>?_⟩,λ g c=>?_⟩
 .have:=h.2 a l;have:=(i b k).1;omega
 .rcases bas.1 c with c|c
  .have:=h.2 g c;omega
  .exact(i g c).2
def yC(A:Option Addr):(τ.ai A).Nodup:=by cases A<;>simp[τ.ai]
theorem aLy{w:World}{g:Nat}{q p r s u v m n o:Value}{t:TypeId}{l:Nat×Nat}(h:aO w g [q,p,r,s,u,v,m,n,o] t l)(a c b d e f i j k:Value):aO (((((((((w.setCell ⟨g,0,none⟩ a).setCell ⟨g,1,none⟩ c).setCell ⟨g,2,none⟩ b).setCell ⟨g,3,none⟩ d).setCell ⟨g,4,none⟩ e).setCell ⟨g,5,none⟩ f).setCell ⟨g,6,none⟩ i).setCell ⟨g,7,none⟩ j).setCell ⟨g,8,none⟩ k) g [a,c,b,d,e,f,i,j,k] t l :=
 (((((((((h.set 0 a).set 1 c).set 2 b).set 3 d).set 4 e).set 5 f).set 6 i).set 7 j).set 8 k)
theorem bF.nine{w:World}{aQ:Nat}{a:ag.cS}{W:ag}{g:Nat}(h:bF w aQ a W)(b:g∉bF.G a)(c e d f i j k l m:Value):bF (((((((((w.setCell ⟨g,0,none⟩ c).setCell ⟨g,1,none⟩ e).setCell ⟨g,2,none⟩ d).setCell ⟨g,3,none⟩ f).setCell ⟨g,4,none⟩ i).setCell ⟨g,5,none⟩ j).setCell ⟨g,6,none⟩ k).setCell ⟨g,7,none⟩ l).setCell ⟨g,8,none⟩ m) aQ a W :=
 (((((((((h.el (p:=⟨g,0,none⟩) b c).el (p:=⟨g,1,none⟩) b e).el (p:=⟨g,2,none⟩) b d).el (p:=⟨g,3,none⟩) b f).el (p:=⟨g,4,none⟩) b i).el (p:=⟨g,5,none⟩) b j).el (p:=⟨g,6,none⟩) b k).el (p:=⟨g,7,none⟩) b l).el (p:=⟨g,8,none⟩) b m)
theorem ay3{l w:World}{aQ g:Nat}(h:Below aQ l w)(a:aQ<=g)(b d c e f i j k m:Value):Below aQ l (((((((((w.setCell ⟨g,0,none⟩ b).setCell ⟨g,1,none⟩ d).setCell ⟨g,2,none⟩ c).setCell ⟨g,3,none⟩ e).setCell ⟨g,4,none⟩ f).setCell ⟨g,5,none⟩ i).setCell ⟨g,6,none⟩ j).setCell ⟨g,7,none⟩ k).setCell ⟨g,8,none⟩ m):=
 (((((((((h.setCell (p:=⟨g,0,none⟩) a b).setCell (p:=⟨g,1,none⟩) a d).setCell (p:=⟨g,2,none⟩) a c).setCell (p:=⟨g,3,none⟩) a e).setCell (p:=⟨g,4,none⟩) a f).setCell (p:=⟨g,5,none⟩) a i).setCell (p:=⟨g,6,none⟩) a j).setCell (p:=⟨g,7,none⟩) a k).setCell (p:=⟨g,8,none⟩) a m)
def ahR(w a:World)(e:Option Addr)(k:Nat)(W:ag)(l:Option Addr)(o:Nat)(n:Option Addr)(m f:Nat):Prop :=
 ∃(d:Option Addr) (j:Nat) (c:Option Addr) (i b h:Nat),aO a w.heap.size [.int .i64 W.am.O,.int .i64 W.am.high,.slice e W.am.G.length k,.slice d W.aT.length j,.slice c W.bl.length i,.slice l W.bE.length o,.slice n W.ah.length m,.int .i64 W.next,.int .i64 W.db] 28 (0,0)/\
  aO a (w.heap.size+1) [.int .i64 0,.int .i64 0,.slice none 0 0,.slice none 0 0,.slice none 0 0,.slice none 0 0,.slice none 0 0,.int .i64 0,.int .i64 0] 28 (0,0)/\bN.aM 3 8 a w.heap.size (τ.ai e) e k W.am.G/\aw.ce.aM 41 16 a f (τ.ai d) d j W.aT/\bN.aM 3 8 a b (τ.ai c) c i W.bl/\
  (∀ g∈τ.ai d,f<=g/\g<b)/\(∀ g∈τ.ai c,b<=g/\g<h)/\Below w.heap.size w a/\f<=b/\b<=h/\h=a.heap.size
open Tryz

namespace τ
variable{α:Type}{R:τ α}
def aEz{b:Type}{size:Nat}{X:List (List b)}{i:Nat}{es:List b}(a:∀ x∈X,x.length=size)(c:i<X.length):(X.set i es).flatten=X.flatten.take (i*size)++es++X.flatten.drop (i*size+size):=by
 rw[bcZ,bap c,bcO,bbc,UP i a,abP (i+1) a,bb5,baO]
def aPE{b:Type}{cur es:List b}{p n k:Nat}(a:es.length=k)(c:p+k<=n)(d:n<=cur.length):(cur.take p++es++cur.drop (p+k)).take n=(cur.take n).take p++es++(cur.take n).drop (p+k):=by
 apply bbB;intro j;subst a;simp only[baR,List.getElem?_append,bam,baf,bbm]
 grind
theorem aM.asw{E by_ B c i g:Nat}{f:List Nat}{l:List α}{w:World}{q':α}{es:List Value}{cur:Array Value}(h:R.aM E by_ w B f (some ⟨g,0,none⟩) c l)(v:R.Dr)(F:i<l.length)(I:∀ w,R.bv w es q')(n:w.heap[g]? =some (.cells cur E (0,0))):
  R.aM E by_ (w.setRow g (cur.toList.take (i*R.size)++es++cur.toList.drop (i*R.size+es.length)).toArray) B f (some ⟨g,0,none⟩) c (l.set i q')/\i*R.size+es.length<=cur.toList.length:=by
 obtain⟨X,d,rfl,hn,ct,o⟩:=h;have r:es.length=R.size:=R.len (I w);have Y:=W4 o;have wh:d.length=l.length:=o.length;obtain⟨ik,N⟩:=ct;obtain⟨g',af,m,hv,Q,H,z,uE,nT,M,C⟩:=N.resolve_left (λ b1=>nomatch b1.1);injection hv with p MS S
 injection p with p
 injection p with p ad ae
 subst p S;rw[H]at n;injection n with n
 injection n with n
 subst n;have aa:i*R.size+R.size<=l.length*R.size:=by rw[<-bb5];exact ba6 _ F
 have ab:l.length*R.size<=c*R.size:=ba6 _ z;have uL:m.toList.length=c*R.size:=by rw[bcQ,nT]
 obtain⟨x,hx,K⟩:=o.d9 (cg (l:=l) (u:=q') F);have kU:x.1=[]:=v.2 K;have W:∀ y∈d,∀ q∈y.1,q≠g:=λ y s q I e=>by
  obtain⟨b,L⟩:=o.left y s;rw[v.2 L]at I;simp at I
 have bm:(d.set i (x.1,es)).map (·.1)=d.map (·.1):=by
  rw[bbA];have:(d.map (·.1))[i]? =some x.1:=by rw[bau,hx];rfl
  obtain⟨U,t⟩:=bab.1 this
  conv=>lhs;rw[<-t]
  exact bbV _
 have G:(d.set i (x.1,es)).map (·.2)=(d.map (·.2)).set i es:=by rw[bbA]
 have D:=aEz (es:=es) Y (by rw[bbd];omega:i<(d.map (·.2)).length);rw[r];refine⟨⟨by rw[bak];exact X,d.set i (x.1,es),by rw[bm],hn,⟨?_,.inr ⟨g,c,(m.toList.take (i*R.size)++es++m.toList.drop (i*R.size+R.size)).toArray,by rw[bak],Q,?_,by rw[bak];exact z,uE,?_,?_,?_⟩⟩,?_⟩,GE⟩
 .rw[G,D,bak];simp only[bam,baf,bax,ik,r];omega
 .exact aO.setRow (cur:=m.toList) (by simpa[aO]using H) _
 .rw[bbY];simp only[bam,baf,bax,uL,r];omega
 .rw[bak,G,D,<-M];exact aPE r aa GE
 .intro j u k;rw[bd2]at k;by_cases T:j<i*R.size
  .refine C j u ?_;rw[baO,baz (by rw[baf];omega),baR,bap T]at k;rw[<-bbp];exact k
  .by_cases U:j<i*R.size+R.size
   .rw[baO,baD (by rw[baf];omega),baz (by rw[baf];omega),baf]at k;have O:j % R.size=j-i*R.size:=by
     have t:j=R.size*i+(j-i*R.size):=by rw[bby];omega
     have b2:(j-i*R.size) % R.size=j-i*R.size:=bbC GE
     conv=>lhs;rw[t,bdl,b2]
    rw[O];exact R.zi (I w) _ u (by rw[bch GE]at k;exact k)
   .refine C j u ?_;rw[baD (by simp only[bam,baf];omega),bbm]at k;rw[<-bbp];rw[show i*R.size+R.size+(j-(List.take (i*R.size) m.toList++es).length)=j from by simp only[bam,baf];omega]at k;exact k
 .have V:dX (λ x a=>R.own (w.setRow g (m.toList.take (i*R.size)++es++m.toList.drop (i*R.size+R.size)).toArray) B x.1 x.2 a) d l:=o.imp λ y a s A=>R.wA A λ q I=>(Mod.setRow w g _).block q (R.zh A q I).2 (by simpa using W y s q I);exact V.afD (P:=λ(x:List Nat×List Value) a=>R.own _ B x.1 x.2 a) (by rw[kU];exact v.1 (I _))
end τ
section
variable{P:Program}{n:Nat}{E df:List (Nat×Value)}{a:Act}{w w' w0 a8:World}{Q:Exit->Act->World->Prop}{ops:Array Oper}{v:Value}
variable{d:Option Nat}{ty:TypeId}{pos:String}{af:Array Edge}{g:Option (Nat×Bool)}{x y z:Operand}{t:TypeId}{rest:List Oper}
theorem RP{f:Type}{R:τ f}{e by_ B i:Nat}{A:Option Addr}{c:Nat}{l:List f}{q':f}{p:Addr}{es:List Value}(h:R.aM e by_ w B (τ.ai A) A c l)(s:R.Dr)(o:i<l.length)(F:ev E x=some (.pointer (some p)))(C:p=⟨fv A,j7 A+i*R.size,none⟩)(m:ev E y=some v)(u:v.cells=es.toArray)
  (I:∀ w,R.bv w es q')(D:fA P t es.length)
  (q:∀ d,Mod (τ.ai A) w d->R.aM e by_ d B (τ.ai A) A c (l.set i q')->cx P n ops Q rest E d):cx P n ops Q (⟨none,.store t x y,ty,pos,af,none⟩::rest) E w:=by
 obtain⟨b,rfl⟩:=h.block GE;have k:p=⟨b,i*R.size,none⟩:=by rw[C];simp[fv,j7]
 subst k;obtain⟨_,K,_,_,r,_⟩:=id h;obtain⟨cur,j,_,_⟩:=r.ai8;obtain⟨H,z⟩:=τ.aM.asw (q':=q') h s o I j;have G:=afw (P:=P) (w:=w) (b:=b) (p:=i*R.size) (cur:=cur.toList) (e:=e) (by simpa[aO]using j) u D (ba8.2 (R.one (I w))) z;refine us (λ n a g=>?_) (q _ (Mod.setRow w b _) H);simp only[execOp,g.ev F,g.ev m,Instr.storeAt,Instr.sureAddr,bar,bat,bal,G]
def W8(A:Option Addr)(a:Nat):Option Addr:=A
theorem afy{A:Option Addr}{h b e s:Nat}{k:IntKind}(f m:Nat){i:Int}(j:P.underlying t=some (.slice e))(u:fA P e s)(v:ev E x=some (.slice A h b))(p:ev E y=some (.int k i))(c:i=(f:Int))(B:f<=b)(r:m=f):dc P E ⟨d,.slice t x none (some y) none,ty,pos,af,g⟩ w (.slice (W8 A f) m b) w:=λ n a o=>by
 subst c;subst r;have c:P.underlying t=some (.slice (P.elem t)):=by simp[Program.elem,j]
 have z:P.elem t=e:=by simp[Program.elem,j]
 have l:=run_slice_h (P:=P) (w:=w) t A h b c k (m:Int) GE GE;have q:=bda (P:=P) (w:=w) t (.slice A h b) none (some (.int k (m:Int))) none c;rw[z,u w]at l;simp only[execOp,o.ev v,o.ev p,Option.map,q,l,bar,bal,bat,sliced,ba4,Nat.sub_zero];unfold W8;cases A with
 | none=>simp
 | some a=>simp[Addr.add]
end
def τ.aF.pre{a:Type}{R:τ a}{by_ c:Nat}{A:Option Addr}{l:List a}{w:World}(h:R.aF by_ w A c l)(k:Nat):R.aF by_ w (W8 A k) c (l.take k):=h.ND k
open Tryz
section
variable{P:Program}{n:Nat}{E:List (Nat×Value)}{w:World}{Q:Exit->Act->World->Prop}{ops:Array Oper}{a_:Nat->Nat}
def agZ(P:Program)(c:Array Oper)(Q:Exit->Act->World->Prop)(b:Nat->Nat)(e d:List Nat):Exit->Act->World->Prop :=
 i_ (λ a w=>x_ P c (i_ (Q .normal)) b e a w/\x_ P c (i_ (Q .normal)) b d a w)
theorem aNC{H:Nat}(b:List (Nat×Nat))(f:List Nat)(i:Nat)(c:List Nat)(j:Nat)(g:List Nat)(G:P.follows .mixedOrders=true)
  (x:(Region.noSelect ops && (f.length+(c.length+1)== ops.size) && (c.length == g.length) && Nat.blt 1 (qa b i) && Nat.blt 1 (qa b j) && I' ops (qa b) f (Array.replicate ops.size false) && (Region.ready .any ops (C0 f (Array.replicate ops.size false))== [i,j]) && l1 ops (qa b) c ((C0 f (Array.replicate ops.size false)).setIfInBounds i true) && l1 ops (qa b) g ((C0 f (Array.replicate ops.size false)).setIfInBounds j true))=true)
  (h:gN P n ops (agZ P ops Q (qa b) (i::c) (j::g)) (qa b) f E w):W P n (.region H ops true) Q E w:=λ a D=>by
 simp only[bai,ba9,bej]at x;obtain⟨⟨⟨⟨⟨⟨⟨⟨s,C⟩,F⟩,L⟩,K⟩,A⟩,y⟩,B⟩,k⟩:=x;refine bft (bep G (Q:=i_ (Q .normal)) ?_) (λ e a w I=>by cases e<;>first|exact I|exact I.elim);have:=Z1 (P:=P) s (Q:=i_ (Q .normal)) (λ _ _ _ h=>h) (m:=c.length+1) f (Array.replicate ops.size false) a w Kx A (h a D) (λ a p l=>by
  have l:x_ P ops (i_ (Q .normal)) (qa b) (i::c) a p/\x_ P ops (i_ (Q .normal)) (qa b) (j::g) a p:=l p (Ext.U p);refine⟨λ u=>(by rw[y]at u;cases u),λ q I=>?_⟩;rw[y]at I;have I:q=i\/q=j:=by simpa using I
  rcases I with rfl|rfl
  .obtain⟨⟨o,r,h⟩,_⟩:=l;rcases h with⟨d,_⟩|⟨d,_⟩|⟨d,h⟩
   .omega
   .omega
   .exact⟨o,r,.inr ⟨d,λ w t=>bcR (λ z w' k=>⟨k.1,IP s (λ _ _ _ h=>h) c _ _ _ (by simp[afB]) B k.2⟩) (h w t)⟩⟩
  .obtain⟨_,⟨o,r,h⟩⟩:=l;rcases h with⟨d,_⟩|⟨d,_⟩|⟨d,h⟩
   .omega
   .omega
   .exact⟨o,r,.inr ⟨d,λ w t=>bcR (λ z w' v=>⟨v.1,by rw[F];exact IP s (λ _ _ _ h=>h) g _ _ _ (by simp[afB]) k v.2⟩) (h w t)⟩⟩)
 rw[C]at this;exact Gm _ _ _ _ this _ (baL _ w).drew
def aEw{b c:List Nat}(e:gN P n ops Q a_ b E w)(f:gN P n ops Q a_ c E w):N n (agZ P ops Q a_ b c) E w:=λ a d=>⟨e a d,f a d⟩
end
open Tryz
section
variable{f:FuncId}{args:Array Value}{o:Oper}{a:Act}{l:List Oper}{k D B e by_ cap s:Nat}{vs:List Value}{op:Op}{ts:Array TypeId}{Y:World}{S:List Nat}{α:Type}{A:Option Addr}
def l0(a:Option Nat):Fence:={Fence.wide with round:=a}
section
variable{P:Program}{ro:Option Nat}{m:Nat}{ops:Array Oper}{Q:Exit->Act->World->Prop}{w:World}
def ai6{R:Ending->World->Prop}(h:Calls P f args w R):CallsIn (l0 ro) m P f args w R:=(callsIn_wide (n:=m)).2 h
def aOd{row:String}{R:Value->World->Prop}(h:Rows P row args w R):RowsIn (l0 ro) m P row args w R:=λ c cs _ =>
 let ⟨v,w',r,s⟩:=h c cs;⟨v,w',r,stepsIn_wide.2 s⟩
def HG(o:Oper):Bool:=match o.op with
 | .defer _=>false
 | _=>true
theorem aq7{K:Act->World->Prop}(b:HG o=true)(h:o.wp P a w K Q):o.wpIn (l0 ro) m P a w K Q:=by
 refine⟨λ _ _=>trivial,?_⟩;have d:o.semAt (l0 ro).round a.eval=execOp a.eval o:=bdP _ _ _ (λ c e=>by simp[HG,e]at b);rw[d];unfold Oper.wp at h;generalize (execOp a.eval o).run P w=r at *
 cases r with
 | ok x w' =>
  cases x<;>simp only[Oper.upon]at h<;>simp only[Oper.uponIn] <;>
   first
    | exact h
    | exact h.elim
    | exact⟨λ h=>by simp[l0,Fence.wide]at h,ai6 h⟩
    | exact⟨λ h=>by simp[l0,Fence.wide]at h,aOd h⟩
 | halt x w'=>cases x<;>simp only[Oper.upon]at h<;>simp only[Oper.uponIn]<;>first|exact h|exact h.elim
theorem aek:∀(l:List Oper) {a:Act} {w:World},l.all HG=true->wpList P ops Q l a w->(∀ c a w,¬Q (.panic c) a w)->¬LetsOut Q->wpListIn (l0 ro) m P ops Q l a w
 | [],a,w,_,h,_,_=>by unfold wpList at h;unfold wpListIn;exact h
 | o::rest,a,w,hd,h,hp,b=>by
  rw[List.all_cons,bai]at hd;unfold wpList at h;unfold wpListIn;split at h
  .rename_i d
   rw[bap d];rcases h with h|⟨h,x⟩
   .exact Oper.wpIn_mono (λ a w h=>aek rest hd.2 h hp b) (aq7 hd.1 h)
   .exact(b x).elim
  .rename_i d
   rw[ban d];exact⟨λ _ _=>trivial,aek rest hd.2 h hp b⟩
theorem aRy{i:Nat}{K:Act->World->Prop}{w:World}(f:ops.toList.all HG=true)(e:¬LetsOut Q)(h:wpOp P ops Q i K a w):wpOpIn (l0 ro) m P ops Q i K a w:=by
 unfold wpOp at h;unfold wpOpIn;split at h
 .rename_i b;simp only[b];exact h
 .rename_i o b
  simp only[b];have d:HG o=true:=ba8.1 f o (by rw[Array.mem_toList_iff];exact Array.mem_of_getElem? b);split at h
  .rename_i c
   rw[bap c];rcases h with h|⟨h,x⟩
   .exact aq7 d h
   .exact(e x).elim
  .rename_i c
   rw[ban c];exact⟨λ _ _=>trivial,h⟩
def aip(c:ops.toList.all HG=true)(b:¬LetsOut Q):∀(f:Nat) (l:Array Bool) {a:Act} {w:World},wpAny P .any ops Q f l a w->wpAnyIn (l0 ro) m P .any ops Q f l a w
 | 0,l,a,w,h=>h
 | f+1,l,a,w,h=>⟨h.1,λ i d=>wpOpIn_mono (λ a w h=>aip c b f _ h) (aRy c b (h.2 i d))⟩
end
def aqS{K:Act->World->Prop}:∀ c a w,¬i_ K (.panic c) a w:=λ _ _ _ h=>h
def aqR{K:Act->World->Prop}:¬LetsOut (i_ K):=λ⟨_,_,h⟩=>h
def aqQ{K:Exit->Act->World->Prop}:∀ e a w,i_ (K .normal) e a w->K e a w:=λ e a w h=>by cases e<;>first|exact h|exact h.elim
namespace Rd
section
variable{P:Program}{ro:Option Nat}{m n:Nat}{ops:Array Oper}{Q:Exit->Act->World->Prop}{w w0:World}{E df:List (Nat×Value)}{id V8:Nat}{c:Operand}{x y:Code}{i j:Int}{cd:List Nat}{v:Value}
def W(b:Option Nat)(m:Nat)(P:Program)(n:Nat)(c:Code)(Q:Exit->Act->World->Prop)(E:List (Nat×Value))(w:World):Prop:=∀ a,fz n E a->c.wpIn (l0 b) m P Q a w
abbrev M(n:Nat)(Q:Exit->Act->World->Prop)(E:List (Nat×Value))(w:World):Prop:=N n (i_ (Q .normal)) E w
abbrev pg(b:Option Nat)(m:Nat)(P:Program)(y:Code)(Q:Exit->Act->World->Prop):Exit->Act->World->Prop:=Exit.then (λ a w=>y.wpIn (l0 b) m P Q a w) Q
def av(h:W ro m P n x (pg ro m P y Q) E w):W ro m P n (.seq x y) Q E w:=λ a b=>wpIn_seq (h a b)
def dP(h:M n Q E w):W ro m P n .skip Q E w:=λ a b=>wpIn_skip (h a b)
def rt(h:T n Q E w):W ro m P n .ret Q E w:=λ a b=>wpIn_ret (h a b)
def cI(h:X n Q id E w):W ro m P n (.exit id) Q E w:=λ a b=>wpIn_exit (h a b)
def bp(h:W ro m P n x (Exit.inBlock id Q) E w):W ro m P n (.block id x) Q E w:=λ a b=>wpIn_block (h a b)
def rg(h:cx P n l.toArray (i_ (Q .normal)) l E w)(c:l.all HG=true:=by kernel_rfl):W ro m P n (.region id l.toArray false) Q E w:=λ a b=>Go.wpIn_mono (beZ (aek l c (h a b) aqS aqR)) aqQ
def dB{b:Bool}(g:ev E c=some (.bool b))(e:b=true->W ro m P n x Q E w)(f:b=false->W ro m P n y Q E w):W ro m P n (.cond c x y) Q E w :=
 λ a d=>wpIn_cond_split (d.ev g) (λ h=>e h a d) (λ h=>f h a d)
def c7(d:ev E c=some (.bool (decide (i<j))))(a:i<j->W ro m P n x Q E w)(b:¬i<j->W ro m P n y Q E w):W ro m P n (.cond c x y) Q E w:=dB d (λ h=>a (bbx h)) (λ h=>b (bcV h))
def fr(d:ev E c=some (.bool (i != j)))(a:¬i=j->W ro m P n x Q E w)(b:i=j->W ro m P n y Q E w):W ro m P n (.cond c x y) Q E w:=dB d (λ h=>a (by simpa using h)) (λ h=>b (by simpa using h))
def a7(h:W ro m P n y Q E w):M n (pg ro m P y Q) E w:=h
def ne{fn:Func}{R:Ending->World->Prop}(h:T n (bodyPost P fn R) E w):M n (bodyPost P fn R) E w:=λ a b=>h a b
def bK(h:M n Q E w):M n (Exit.inBlock id Q) E w:=h
def cH(h:X n Q id E w):X n (pg ro m P y Q) id E w:=h
def cG(h:M n Q E w):X n (Exit.inBlock id Q) id E w:=λ a b=>by simp only[Exit.inBlock,bcj];exact h a b
def bR(h:T n Q E w):T n (pg ro m P y Q) E w:=h
theorem di{c:Code}(i:Nat->List (Nat×Value)->World->Prop)(k:Nat)(p:List (Nat×Value))(v:i k p w)(F:Sub p E)
  (round:∀ k E w,i k E w->W ro m P n c (Exit.then (OD n i k) Q) E w):W ro m P n (.loop c) Q E w:=λ a q=>by
 intro b j cs u o r;have key:∀ k a w,(∃ E,i k E w/\fz n E a)->∃ e h w',Q e h w'/\ArrivesIn (Machine.fenced P (l0 ro)) P (lone (b.atR a (.code c::.inLoop c::j)) cs w) b j cs e h w':=by
  intro k;induction k using Nat.strongRecOn with
  | _ k A =>
   intro a w ⟨E,H,q⟩;obtain⟨e,g,f,I,d⟩:=round k E w H a q b (.inLoop c::j) cs u o r;cases e with
   | normal =>
    obtain⟨G,B,z⟩:=I;obtain⟨C,t,D,s,y⟩:=A G B g f z;exact⟨C,t,D,s,.of_steps (StepsIn.trans d (.one (fenced_calm o r Z) stepR_inLoop)) y⟩
   | exit L=>exact⟨_,g,f,I,.pass (x:=.inLoop c) rfl (λ _ _=> .inl Kx) d⟩
   | goto l=>exact⟨_,g,f,I,.pass (x:=.inLoop c) rfl (λ _ _=> .inl Kx) d⟩
   | ret=>exact⟨_,g,f,I,.pass (x:=.inLoop c) rfl (λ _ _=> .inl Kx) d⟩
   | panic K=>exact⟨_,g,f,I,.pass (x:=.inLoop c) rfl (λ _ _=> .inl Kx) d⟩
   | outgrown=>exact⟨_,g,f,I,.pass (x:=.inLoop c) rfl (λ _ _=> .inl Kx) d⟩
 obtain⟨e,h,w',I,d⟩:=key k a w ⟨p,v,q.sub F⟩;exact⟨e,h,w',I,.of_steps (.one (fenced_calm o r Z) stepR_loop) d⟩
def oR{d:Nat->List (Nat×Value)->World->Prop}(c:Nat)(b:List (Nat×Value))(h:d c b w)(f:c<k)(g:Sub b E):M n (Exit.then (OD n d k) Q) E w :=
 λ a e=>⟨c,f,b,h,e.sub g⟩
theorem rd(d:List (Nat×Nat))(c:List Nat)(i:P.follows .mixedOrders=true)(b:(Region.noSelect ops && (c.length == ops.size) && l1 ops (qa d) c (Array.replicate ops.size false))=true)
  (h:gN P n ops (i_ (Q .normal)) (qa d) c E w)(g:ops.toList.all HG=true:=by kernel_rfl):W ro m P n (.region id ops true) Q E w:=λ a f=>by
 simp only[bai,ba9]at b;obtain⟨⟨j,e⟩,b⟩:=b;refine Go.wpIn_mono (wpIn_region_any i (Q:=i_ (Q .normal)) (aip g aqR _ _ ?_)) aqQ;have:=IP (P:=P) j (Q:=i_ (Q .normal)) aqS c (Array.replicate ops.size false) a w Kx b (h a f);rw[e]at this;exact Gm _ _ _ _ this _ (baL _ w).drew
def aim{l:List Value}(b:Nat.ble l.length n=true):fz n (Gn 0 l) {tmps:=l.toArray++Array.replicate (n-l.toArray.size) undef,defers:=[]}:=by
 refine⟨Z,?_,λ t v c=>?_⟩
 .have:=bcc b;simp only[bdG,bfs,bbY];omega
 .obtain⟨j,e,a⟩:=Z2 l 0 t v c;have d:=(bab.1 a).1;rw[beY (by simp;omega)];simpa[show t=j by omega]using a
def bT{fn:Func}{c:Code}{l:List Value}{R:Ending->World->Prop}(e:P.funcs[f]? =some fn)(b:fn.body=some c)(g:fn.ntmps=n)(d:Nat.ble l.length n=true)
  (h:W none m P n c (bodyPostM (l0 none) m P fn R) (Gn 0 l) w):Calls P f l.toArray w R:=by
 have a:CallsIn (l0 none) m P f l.toArray w R:=callsIn_of_wp_marks e b trivial (by rw[g];exact h _ (aim d)) rfl;exact(callsIn_wide (n:=m)).1 a
def aAg{fn:Func}{c:Code}{l:List Value}{R:Ending->World->Prop}(d:P.funcs[f]? =some fn)(a:fn.body=some c)(e:fn.ntmps=n)(b:Nat.ble l.length n=true)
  (h:W none m P n c (bodyPost P fn R) (Gn 0 l) w):CallsIn (l0 none) m P f l.toArray w R :=
 callsIn_of_wp d a trivial (by rw[e];exact h _ (aim b)) rfl
def cJ{fn:Func}{R:Ending->World->Prop}(h:zW P E w fn.results.toList vs)(c:R (.returned (rG vs)) w):T n (bodyPostM (l0 none) m P fn R) E w :=
 λ a b=>by
  show LeavesInM _ _ _ _ _ _ a.defers _ _;rw[b.d];exact⟨_,afu h b,c⟩
end
end Rd
namespace re
section
variable{P:Program}{ro:Option Nat}{m n:Nat}{ops:Array Oper}{Q:Exit->Act->World->Prop}{w w' w0:World}{E df:List (Nat×Value)}{id:Nat}{v:Value}
variable{d:Option Nat}{ty:TypeId}{pos:String}{af:Array Edge}{g:Option (Nat×Bool)}{x y z:Operand}{t:TypeId}{rest:List Oper}
def cx(c:Option Nat)(m:Nat)(P:Program)(n:Nat)(b:Array Oper)(Q:Exit->Act->World->Prop)(l:List Oper)(E:List (Nat×Value))(w:World):Prop:=∀ a,fz n E a->wpListIn (l0 c) m P b Q l a w
def rg(h:cx ro m P n l.toArray Q l E w):Rd.W ro m P n (.region id l.toArray false) Q E w:=λ a b=>beZ (h a b)
def nl(h:Rd.M n Q E w):cx ro m P n ops Q [] E w:=h
theorem i'{d:Nat}(i:dc P E ⟨some d,op,ty,pos,af,none⟩ w v w')(g:Nat.blt d n=true)(h:cx ro m P n ops Q rest ((d,v)::E) w'):cx ro m P n ops Q (⟨some d,op,ty,pos,af,none⟩::rest) E w:=λ a f=>by
 have b:=i n a f;unfold wpListIn;rw[bap (by simp[Region.wanted])];refine⟨λ _ _=>trivial,?_⟩;have j:(⟨some d,op,ty,pos,af,none⟩:Oper).semAt (l0 ro).round a.eval=execOp a.eval ⟨some d,op,ty,pos,af,none⟩:=bdP _ _ _ (λ c e=>by
  have e:op=.defer c:=e;subst e;simp only[execOp,bar,bat]at b;revert b;generalize (resolve a.eval c ty).run P w=r;cases r<;>simp[Result.andThen])
 rw[j,b];exact h _ (f.put g v)
theorem aup{d:Nat}{l:Nat}{xs:Array Operand}{args:List Value}(r:ev E x=some (.func (.yield l) #[] #[]))(f:hV E xs.toList=some args)(o:Nat.blt d n=true)
  (h:YieldAt (l0 ro) (m-1) P l args.toArray w λ e w'=>∃ v,e=.returned v/\cx ro m P n ops Q rest ((d,v)::E) w'):cx ro m P n ops Q (⟨some d,.call {callee:=.value x,args:=xs,argTypes:=ts},ty,pos,af,none⟩::rest) E w:=λ a b=>by
 obtain⟨fn,t,i,j,g,k⟩:=h;unfold wpListIn;rw[bap (by simp[Region.wanted])];refine⟨λ _ _=>trivial,?_⟩;have q:(⟨some d,.call {callee:=.value x,args:=xs,argTypes:=ts},ty,pos,af,none⟩:Oper).semAt (l0 ro).round a.eval=execOp a.eval ⟨some d,.call {callee:=.value x,args:=xs,argTypes:=ts},ty,pos,af,none⟩:=bdP _ _ _ (λ c e=>by cases e);have p:xs.map a.eval=args.toArray:=by rw[<-b.hV f];apply bbQ;simp
 have s:(execOp a.eval ⟨some d,.call {callee:=.value x,args:=xs,argTypes:=ts},ty,pos,af,none⟩).run P w=.ok (.round l fn t i j) w:=by
  unfold execOp;simp only[resolve,invoke,Deferred.ofValue,b.ev r,callFunc,bar,bat,bal,p,bdz];first
   | exact g
   | simpa using g
 rw[q,s];refine⟨λ h=>by simp[l0,Fence.wide]at h,k.mono λ e w' f=>?_⟩;obtain⟨v,rfl,h⟩:=f;exact h _ (b.put o v)
end
end re
def mark(D:Nat):List Deferred:=[{target:=.collected D,args:=#[]}]
def wd(ds:List Deferred)(a:Act):Act:={a with defers:=ds}
def at8(ds:List Deferred)(a:Act)(d:Option Nat)(v:Value):(wd ds a).put d v=wd ds (a.put d v):=by cases d<;>rfl
def agr(ds:List Deferred)(a:Act):(wd ds a).eval=a.eval:=by funext x;cases x<;>rfl
def Ds(w:World)(D:Nat):Prop:=w.heap[D]? =some (.deferred (some []))
def Ds.lt{w:World}(h:Ds w D):D<w.heap.size:=(baU.1 h).1
def Ds.O{w w':World}(h:Ds w D)(x:Ext w w'):Ds w' D:=(x.block D h.lt).trans h
def af6(w:World)(D:Nat):World:=w.putObj D (.deferred none)
def Ds.un{w:World}(h:Ds w D):Mod [D] w (af6 w D):=by
 have:=Mod.grown (grownBy_putObj' w D (.deferred none));exact this
namespace iH
section
variable{P:Program}{ds:List Deferred}{m n:Nat}{ops:Array Oper}{Q:Exit->Act->World->Prop}{w w' w0:World}{E df:List (Nat×Value)}{id:Nat}{v:Value}
variable{d:Option Nat}{ty:TypeId}{pos:String}{af:Array Edge}{g:Option (Nat×Bool)}{x y z:Operand}{t:TypeId}{rest:List Oper}{c:Operand}{dC rY:Code}{i j:Int}
def W(ds:List Deferred)(m:Nat)(P:Program)(n:Nat)(c:Code)(Q:Exit->Act->World->Prop)(E:List (Nat×Value))(w:World):Prop:=∀ a,fz n E a->c.wpIn (l0 none) m P Q (wd ds a) w
def N(ds:List Deferred)(n:Nat)(Q:Exit->Act->World->Prop)(E:List (Nat×Value))(w:World):Prop:=∀ a,fz n E a->Q .normal (wd ds a) w
def T(ds:List Deferred)(n:Nat)(Q:Exit->Act->World->Prop)(E:List (Nat×Value))(w:World):Prop:=∀ a,fz n E a->Q .ret (wd ds a) w
def cx(ds:List Deferred)(m:Nat)(P:Program)(n:Nat)(b:Array Oper)(Q:Exit->Act->World->Prop)(l:List Oper)(E:List (Nat×Value))(w:World):Prop:=∀ a,fz n E a->wpListIn (l0 none) m P b Q l (wd ds a) w
def av(h:W ds m P n dC (Rd.pg none m P rY Q) E w):W ds m P n (.seq dC rY) Q E w:=λ a b=>wpIn_seq (h a b)
def dP(h:N ds n Q E w):W ds m P n .skip Q E w:=λ a b=>wpIn_skip (h a b)
def rt(h:T ds n Q E w):W ds m P n .ret Q E w:=λ a b=>wpIn_ret (h a b)
def rg(h:cx ds m P n l.toArray Q l E w):W ds m P n (.region id l.toArray false) Q E w:=λ a b=>beZ (h a b)
def nl(h:N ds n Q E w):cx ds m P n ops Q [] E w:=h
def a7(h:W ds m P n rY Q E w):N ds n (Rd.pg none m P rY Q) E w:=h
def bK(h:N ds n Q E w):N ds n (Exit.inBlock id Q) E w:=h
def bR(h:T ds n Q E w):T ds n (Rd.pg none m P rY Q) E w:=h
def dB{b:Bool}(g:ev E c=some (.bool b))(e:b=true->W ds m P n dC Q E w)(f:b=false->W ds m P n rY Q E w):W ds m P n (.cond c dC rY) Q E w :=
 λ a d=>wpIn_cond_split (by rw[agr];exact d.ev g) (λ h=>e h a d) (λ h=>f h a d)
def fr(d:ev E c=some (.bool (i != j)))(a:¬i=j->W ds m P n dC Q E w)(b:i=j->W ds m P n rY Q E w):W ds m P n (.cond c dC rY) Q E w:=dB d (λ h=>a (by simpa using h)) (λ h=>b (by simpa using h))
def aLz{v:Value}(h:(execOp a.eval o).run P w=.ok (.value v) w'):∀ c,o.op≠ .defer c:=λ c e=>by
 unfold execOp at h;rw[e]at h;simp only[bar,bat]at h;revert h;generalize (resolve a.eval c o.type).run P w=r;cases r<;>simp[Result.andThen]
def i'{d:Nat}(f:dc P E ⟨some d,op,ty,pos,af,none⟩ w v w')(e:Nat.blt d n=true)(h:cx ds m P n ops Q rest ((d,v)::E) w'):cx ds m P n ops Q (⟨some d,op,ty,pos,af,none⟩::rest) E w:=λ a b=>by
 have c:=f n a b;unfold wpListIn;rw[bap (by simp[Region.wanted])];refine⟨λ _ _=>trivial,?_⟩;rw[agr,bdP _ _ _ (aLz c),c];show wpListIn _ _ _ _ _ _ _ _;rw[at8];exact h _ (b.put e v)
theorem ca{d:Nat}(k:Enters P f){xs:Array Operand}{args:List Value}(j:hV E xs.toList=some args)(i:Nat.blt d n=true)
  (h:Calls P f args.toArray w λ e w'=>∃ v,e=.returned v/\cx ds m P n ops Q rest ((d,v)::E) w'):cx ds m P n ops Q (⟨some d,.call {callee:=.value (.func f),args:=xs,argTypes:=ts},ty,pos,af,none⟩::rest) E w:=λ a b=>by
 unfold wpListIn;rw[bap (by simp[Region.wanted])];refine⟨λ _ _=>trivial,?_⟩;rw[agr,bdP _ _ _ (λ c e=>by cases e),Nx k b j];refine⟨λ h=>by simp[l0,Fence.wide]at h,CallsIn.mono (ai6 h) λ e w' g=>?_⟩;obtain⟨v,rfl,h⟩:=g;show wpListIn _ _ _ _ _ _ _ _;rw[at8];exact h _ (b.put i v)
def cJ{fn:Func}{R:Ending->World->Prop}(b:Ds w D)(h:zW P E (af6 w D) fn.results.toList vs)(c:R (.returned (rG vs)) (af6 w D)):T (mark D) n (bodyPostM (l0 none) m P fn R) E w :=
 λ a d=>by
  have e:=afu (a:=a) h d;exact⟨Kx,.inl ⟨D,_,rfl,run_takeDeferred b,_,e,c⟩⟩
end
end iH
def DO(b c:Nat)(W a:World):Prop:=a.heap[b]? =W.heap[b]?/\a.heap[c]? =W.heap[c]?
def DO.O{b c:Nat}{X aQ:World}(h:DO b c X Y)(k:DO b c Y aQ):DO b c X aQ:=⟨k.1.trans h.1,k.2.trans h.2⟩
def Mod.apG{W d:World}(h:Mod S W d)(g:∀ q∈S,q<W.heap.size->∃ cur e b,W.heap[q]? =some (.cells cur e b)):KeepsFrom B W d :=
 ⟨h.size,λ k o _ a f=>by
  by_cases c:k∈S
  .obtain⟨cur,e,b,i⟩:=g k c (baU.1 a).1;rw[i]at a;injection a with a
   subst a;exact nomatch f
  .exact(h.block k (baU.1 a).1 c).trans a⟩
def Mod.aJp{W X:World}{b c:Nat}(h:Mod S W X)(k:Mod S W Y)(a:b<W.heap.size/\c<W.heap.size)(d:b∉S)(e:c∉S):DO b c X Y :=
 ⟨(k.block b a.1 d).trans (h.block b a.1 d).symm,(k.block c a.2 e).trans (h.block c a.2 e).symm⟩
def BZ(B:Nat)(a w:World):Prop:=KeepsFrom B a w
def BZ.U(B:Nat)(w:World):BZ B w w:=KeepsFrom.refl B w
def BZ.O{a w w':World}(h:BZ B a w)(x:Ext w w'):BZ B a w':=KeepsFrom.trans h ((Mod.O (S:=[]) x).apG λ q I=>nomatch I)
def BZ.H{a w w':World}(h:BZ B a w)(m:Mod S w w')(c:∀ q∈S,∃ cur e b,w.heap[q]? =some (.cells cur e b)):BZ B a w':=KeepsFrom.trans h (m.apG λ q I _=>c q I)
def τ.aM.Uc{R:τ α}{c:Nat}{l:List α}{w:World}(h:R.aM e by_ w B (τ.ai A) A c l):∀ q∈τ.ai A,∃ cur e b,w.heap[q]? =some (.cells cur e b):=by
 obtain⟨_,j,_,_,⟨_,f⟩,_⟩:=h;rcases f with⟨a,_⟩|⟨g,i,cur,a,_,d,_⟩
 .injection a with a;subst a;intro q I;exact nomatch I
 .injection a with a;subst a;intro q I
  obtain rfl:=bah.1 I;exact⟨_,_,_,d⟩
structure IA{α:Type}(B:Nat)(lS:List α->World->Prop)(pre:List α)(w:World):Prop where
 ZX:AbidesFrom B lS
 d9:lS pre w
def IA.O{a:List α->World->Prop}{b:List α}{w w':World}(h:IA B a b w)(x:Ext w w'):IA B a b w' :=
 ⟨h.ZX,h.ZX _ _ _ none h.d9 ⟨x.os,x.tape,x.output,x.size,λ k c _=>x.block k c⟩ λ r e=>nomatch e⟩
def aO.Wb{b:Nat}{cs:List Value}{e:TypeId}{a:Nat×Nat}{w w':World}(h:aO w b cs e a)(k:w'.heap[b]? =w.heap[b]?):aO w' b cs e a:=k.trans h
def aRZ{F:Fence}{m:Nat}{P:Program}{l:Nat}{W:World}{R a:Ending->World->Prop}(h:YieldAt F m P l args W R)(g:∀ e w,R e w->a e w):YieldAt F m P l args W a:=by
 obtain⟨fn,i,c,d,b,f⟩:=h;exact⟨fn,i,c,d,b,f.mono g⟩
def aR0{P Q:Prop}{e:Ending}(h:(e=.returned (.bool true)/\P)\/(e=.returned (.bool false)/\Q)):∃ b,e=.returned (.bool b)/\(b=true->P)/\(b=false->Q):=by
 rcases h with⟨h,p⟩|⟨h,q⟩
 .exact⟨true,h,λ _=>p,(λ h=>nomatch h)⟩
 .exact⟨false,h,(λ h=>nomatch h),λ _=>q⟩
def aEo{q:Nat}(a:k<q):(List.finRange q).take k++ [⟨k,a⟩]=(List.finRange q).take (k+1):=by
 rw[baI (by simpa using a)];simp
section
variable{P:Program}{n:Nat}{E df:List (Nat×Value)}{w:World}{d:Option Nat}{ty:TypeId}{pos:String}{af:Array Edge}{g:Option (Nat×Bool)}{x y z u:Operand}{t:TypeId}
theorem aOv{b:Nat}{k:IntKind}(lo:Nat){i:Int}(c:P.underlying t=some (.slice e))(p:fA P e s)(q:ev E x=some (.slice A b cap))(l:ev E y=some (.int k i))(m:i=(lo:Int))(u:lo<=b):
  dc P E ⟨d,.slice t x (some y) none none,ty,pos,af,g⟩ w (.slice (fX A cap lo s) (b-lo) (cap-lo)) w:=λ n a h=>by
 subst m;have j:P.underlying t=some (.slice (P.elem t)):=by simp[Program.elem,c]
 have r:P.elem t=e:=by simp[Program.elem,c]
 have f:=run_slice_l (P:=P) (w:=w) t A b cap j k (lo:Int) GE GE;have o:=bda (P:=P) (w:=w) t (.slice A b cap) (some (.int k (lo:Int))) none none j;rw[r,p w]at f;simp only[execOp,h.ev q,h.ev l,Option.map,o,f,bar,bal,bat,sliced,ba4,fX]
theorem aOu{l:Nat}{k h f:IntKind}(lo b n:Nat){i j m:Int}(o:P.underlying t=some (.slice e))(G:fA P e s)(K:ev E x=some (.slice A l cap))(B:ev E y=some (.int k i))(C:ev E z=some (.int h j))(H:ev E u=some (.int f m))(r:i=(lo:Int))(M:j=(b:Int))(v:m=(b:Int))(N:lo<=b)(O:b<=cap)(F:n=b-lo):
  dc P E ⟨d,.slice t x (some y) (some z) (some u),ty,pos,af,g⟩ w (.slice (fX A b lo s) n n) w:=λ Q a c=>by
 subst r;subst M;subst v;subst F;have q:P.underlying t=some (.slice (P.elem t)):=by simp[Program.elem,o]
 have L:P.elem t=e:=by simp[Program.elem,o]
 have p:=run_slice_lhm (P:=P) (w:=w) t A l cap q k h f (lo:Int) (b:Int) (b:Int) GE GE GE GE;have D:=bda (P:=P) (w:=w) t (.slice A l cap) (some (.int k (lo:Int))) (some (.int h (b:Int))) (some (.int f (b:Int))) q;rw[L,G w]at p;simp only[execOp,c.ev K,c.ev B,c.ev C,c.ev H,Option.map,D,p,bar,bal,bat,sliced,ba4,fX]
end
theorem τ.aF.K{R:τ α}{c:Nat}{l:List α}{w:World}(h:R.aF by_ w A c l)(lo a:Nat)(g:lo<a)(b:a<=l.length):R.aF by_ w (fX A a lo R.size) (a-lo) ((l.drop lo).take (a-lo)):=by
 have f:=h.sub lo a GE b;have i:=h.1;have j:=h.2.1;have e:fX A a lo R.size=fX A c lo R.size:=by unfold fX;rw[ban GE,ban GE]
 rw[e];obtain⟨g1,g2,g3,g4,g5⟩:=f;refine⟨by rw[baf];omega,GE,g3,λ d=>?_,g5⟩;have:=g4 d;omega
namespace Rd
theorem U{P:Program}{m n:Nat}{Q:Exit->Act->World->Prop}{w w0:World}{E:List (Nat×Value)}{z p:Nat}{ty:TypeId}{pos:String}{af:Array Edge}{id:Nat}{ad:Code}{g:Operand}{gf:Nat}{lb:List Value}{enc:α->Value}{H L:Nat}{S ak:List α->Prop}{U:Nat}
  (N:ev E g=some (.func (.func gf) #[] lb.toArray))(hf:Enters P gf)(ai:SeqStopsK (l0 none) (m-1) P gf lb.toArray (λ x=>#[enc x]) (DO H L) S ak U w0)(bQ:H<w.heap.size)(eD:L<w.heap.size)(du:Ext w0 w)(aa:1<=m)(hp:Nat.blt p n=true)(aK:Nat.blt z n=true)
  (d:List α->World->Prop)(rr:∀ s W b S,d s W->Mod S W b->(∀ q∈S,w.heap.size<=q/\∀ cur e C,W.heap[q]? ≠some (.cells cur e C))->d s b)(aN:d [] w)
  (ah:∀(l:Nat) (f:List α) (x:α) (b:World),d f b->f.length<U->W (some l) (m-1-1) P n ad (ownPostG w.heap.size (DO H L) d (λ _ _ _=>False) (f++ [x]) b) ((z,enc x)::(p,enc x)::E) b)
  (ag:∀(D:Nat) (xs:List α) (b:World),w.heap.size<=D->S xs->d xs b->Ds b D->iH.N (mark D) n Q E b):
  W none m P n (.rangeFunc g #[p] (.region id #[⟨some z,.assign (.tmp p),ty,pos,af,none⟩] false) ad) Q E w:=λ a u=>by
 have ae:∀ {β:Type} (M:β->World->Prop),(∀ s W b S,M s W->Mod S W b->(∀ q∈S,w.heap.size<=q/\∀ cur e C,W.heap[q]? ≠some (.cells cur e C))->M s b)->OwnFrom w.heap.size M:=λ M Cu s X Y row y rv R =>
  Cu s X Y row.toList y (Mod.grown rv) λ q I=>by
   cases row with
   | none=>exact nomatch I
   | some r =>
    obtain rfl:=bah.1 I;obtain⟨bB,o,G,hc⟩:=R _ rfl;exact⟨bB,λ cur e C h=>by rw[h]at G;injection G with G;subst G;exact nomatch hc⟩
 obtain⟨fn,MD,G4,T⟩:=hf;obtain⟨kf,aj⟩:∃ c,fn.body=some c:=by
  cases h:fn.body with
  | none=>rw[h]at T;simp at T
  | some c=>exact⟨c,rfl⟩
 refine wpIn_rangeFunc_ownH (F:=l0 none) Z aa (gf:=gf) (lb:=lb.toArray) (u.ev N) trivial (enters_of MD G4 aj) ai (λ h k=>h.O k) ?_ du (λ x=>Z) d (λ _ _ _=>False) (ae d rr) (λ c s A B row y N R=>y.elim) aN
  (λ x i _=>fz n ((z,enc x)::(p,enc x)::E) i) (λ x i s A B row y N R=>y) ?_ ?_ ?_ ?_
 .intro b l o Nl az V _ _;have hm:=Mod.grown (grownBy_putObj' b l Nl);exact⟨hm.block H (by have:=(baU.1 V).1;omega) (by simp;omega),hm.block L (by have:=(baU.1 V).1;omega) (by simp;omega)⟩
 .intro l f x b K j O;have hA:fz n ((p,enc x)::E) {tmps:=(#[p].zip #[enc x]).foldl (λ t (p,v)=>t.setIfInBounds p v) a.tmps,defers:=[]}:=by
   have:=u.put hp (enc x);have e:({tmps:=(#[p].zip #[enc x]).foldl (λ t (p,v)=>t.setIfInBounds p v) a.tmps,defers:=[]}:Act)=a.put (some p) (enc x):=by
    simp[Act.put,u.d]
   rw[e];exact this
  have ab:W (some l) (m-1-1) P n (.region id [(⟨some z,.assign (.tmp p),ty,pos,af,none⟩:Oper)].toArray false) (Exit.then K (λ _ _ _=>False)) ((p,enc x)::E) b:=by
   refine re.rg (re.i' (v:=enc x) (w':=b) (fh ?_) aK (re.nl λ i uA=>O i b (KeepsFrom.refl _ _) ⟨Z,Z⟩ j uA));show look ((p,enc x)::E) p=_;simp[look]
  exact ab _ hA
 .intro l f x i b _ _ j hx al;exact ah l f x b j al i hx
 .intro D xs b yT hS j O;have:=ag D xs b yT hS j O a u;have e:({a with defers:={target:=.collected D,args:=#[]}::a.defers}:Act)=wd (mark D) a:=by simp[wd,mark,u.d]
  rw[e];exact this
 .intro D c f b _ _ h _;exact h.elim
end Rd
end
section
variable{by_ B c:Nat}{A:Option Addr}
namespace τ
variable{α:Type}{R:τ α}
def aM.aET{E by_ c:Nat}{A:Option Addr}{l:List α}{w:World}{d:List (List Nat×List Value)}(h:R.Dr)(g:dX (λ x a=>R.own w B x.1 x.2 a) d l):∀ y∈d,y.1=[]:=λ y e=>by
 obtain⟨b,f⟩:=g.left y e;exact h.2 f
def aES{a:List (List Nat×List Value)}(h:∀ y∈a,y.1=[]):(a.map (·.1)).flatten=[]:=by
 rw[bfa];intro x c;obtain⟨y,b,rfl⟩:=baV.1 c;exact h y b
theorem aM.cut{E:Nat}{l:List α}{w:World}(h:R.aM E by_ w B (ai A) A c l)(z:R.Dr)(k:Nat)(f:k<=l.length):R.aM E by_ w B (ai A) A c (l.take k):=by
 obtain⟨L,j,N,x,t,a⟩:=h;have q:=W4 a;have P:j.length=l.length:=a.length;have p:=aM.aET (E:=E) (by_:=by_) (c:=c) (A:=A) z a;have i:(l.take k).length=k:=by rw[baf];omega
 have O:=ba6 by_ f;refine⟨by rw[i];omega,j.take k,?_,x,?_,a.ND k⟩
 .rw[aES λ y n=>p y (bcK n),baP]
 .rw[i,be4,UP k q];obtain⟨F,b⟩:=t;have v:k*R.size<=l.length*R.size:=ba6 _ f;refine⟨by rw[baf,F];omega,?_⟩;rcases b with⟨b,K⟩|⟨g,M,cur,D,r,u,H,G,C,m,o⟩
  .injection b with d s e
   subst d e;have:k=0:=GE
   subst this;exact .inl ⟨Z,Z⟩
  .injection D with d s e
   subst d e;exact .inr ⟨g,c,cur,Z,r,u,GE,G,C,by rw[<-m,List.take_take,bch v],o⟩
end τ
section
variable{P:Program}{n:Nat}{E df:List (Nat×Value)}{a:Act}{w w' w0 a8:World}{Q:Exit->Act->World->Prop}{ops:Array Oper}{v:Value}
variable{d:Option Nat}{ty:TypeId}{pos:String}{af:Array Edge}{g:Option (Nat×Bool)}{x y z:Operand}{t:TypeId}{rest:List Oper}
theorem asn{c b e s:Nat}{k:IntKind}(lo:Nat){i:Int}(f:P.underlying t=some (.slice e))(q:fA P e s)(r:ev E x=some (.slice A c b))(m:ev E y=some (.int k i))(o:i=(lo:Int))(v:lo<=c):
  dc P E ⟨d,.slice t x (some y) none none,ty,pos,af,g⟩ w (.slice (fX A b lo s) (c-lo) (b-lo)) w:=λ n a j=>by
 subst o;have l:P.underlying t=some (.slice (P.elem t)):=by simp[Program.elem,f]
 have u:P.elem t=e:=by simp[Program.elem,f]
 have h:=run_slice_l (P:=P) (w:=w) t A c b l k (lo:Int) GE GE;have p:=bda (P:=P) (w:=w) t (.slice A c b) (some (.int k (lo:Int))) none none l;rw[u,q w]at h;simp only[execOp,j.ev r,j.ev m,Option.map,p,h,bar,bal,bat,sliced,ba4,fX]
def aI6{k:IntKind}{i j:Int}(a:0<=i)(c:0<j)(b:k.wrap (i / j)=i / j):Op.intDiv .quo k i j=pure (.int k (i / j)):=by
 unfold Op.intDiv;have e:i.tdiv j=i / j:=bdy a;rw[ban GE];simp only[e,b]
def aI7{k:IntKind}{i j:Int}(a:0<=i)(b:0<j):Op.intDiv .rem k i j=pure (.int k (i % j)):=by
 unfold Op.intDiv;have e:i.tmod j=i % j:=Int.tmod_eq_emod_of_nonneg a;rw[ban GE];simp only[e]
section
variable{k:IntKind}{i j:Int}{u:TypeId}
def aak(f:ev E x=some (.int k i))(b:ev E y=some (.int k j))(a:0<=i)(c:0<j)(e:k.wrap (i / j)=i / j):dc P E ⟨d,.binOp .quo t x y u,ty,pos,af,g⟩ w (.int k (i / j)) w:=ot f b (binOp_quo t k i j) (by rw[aI6 a c e];rfl)
def Cc(e:ev E x=some (.int k i))(b:ev E y=some (.int k j))(a:0<=i)(c:0<j):dc P E ⟨d,.binOp .rem t x y u,ty,pos,af,g⟩ w (.int k (i % j)) w:=ot e b (binOp_rem t k i j) (by rw[aI7 a c];rfl)
def afi{i j:Int}(a:0<=i)(b:0<j)(c:i<=9223372036854775807):IntKind.i64.wrap (i / j)=i / j:=by
 have d:0<=i / j:=beO a GE;have e:i / j<=i:=Int.ediv_le_self _ a;exact mb ⟨GE,GE⟩
end
end
end
end Go.Proofs.YtooonebcoaleiaaGreat
