import Derived.Test.YtooonebcoaleiaaGreatMpC
import Derived.Shelf.Bits.Mul64
import Derived.Shelf.Spec.SlicesInsertGrow
import Derived.Shelf.Slices.Empties
set_option linter.all false
set_option maxRecDepth 100000
set_option maxHeartbeats 4000000
open Go.RowKit
namespace Go.Proofs.YtooonebcoaleiaaGreat
open Tryz
abbrev baC:=@Or.elim
abbrev bbo:=@List.length_singleton
abbrev bbr:=@Go.IntKind.wrap_u64
abbrev bc6:=@Go.info_parts
abbrev bdK:=@Nat.min_le_right
abbrev bdL:=@Nat.div_eq_of_lt
abbrev bel:=@List.countP_append
abbrev beG:=@List.countP_cons
abbrev bfy:=@List.drop_replicate
abbrev bfJ:=@Nat.le_succ_of_le
section
variable{k:Nat}{c:aw}{f:aE}{l:List ed}
def kX(T:List bb)(c:aw):Int:=((T.countP λ t=>decide (t.an=c):Nat):Int)
def WZ(T:List bb)(c:aw):0<=kX T c/\kX T c<=(T.length:Int):=⟨bb9 _,Int.ofNat_le.2 List.countP_le_length⟩
def aLL(T:List bb)(t:bb):kX (T++ [t])=wK (kX T) t.an (kX T t.an+1):=by
 funext y
 unfold kX wK;rw[bel,beG,List.countP_nil];by_cases e:y=t.an
 .subst e;simp
 .have a:¬t.an=y:=λ h=>e h.symm;rw[ban e];simp[a]
def aPH{a:Type}{T:List a}{d:a}(h:k<T.length):T.take (k+1)=T.take k++ [T.getD k d]:=by
 rw[List.take_add_one,bac h,baa,bac h];rfl
def aLM{T:List bb}(h:k<T.length):kX (T.take (k+1))=wK (kX (T.take k)) (T.getD k default).an (kX (T.take k) (T.getD k default).an+1):=by
 rw[aPH (d:=default) h,aLL]
theorem countP_split{T:List bb}(h:k<T.length)(t:bb)(c:aw):
  ((T.countP λ t=>decide (t.an=c):Nat):Int)=(((T.take k).countP λ t=>decide (t.an=c):Nat):Int)+(if(T.getD k default).an=c then 1 else 0)+(((T.drop (k+1)).countP λ t=>decide (t.an=c):Nat):Int)/\
  (((T.set k t).countP λ t=>decide (t.an=c):Nat):Int)=(((T.take k).countP λ t=>decide (t.an=c):Nat):Int)+(if t.an=c then 1 else 0)+(((T.drop (k+1)).countP λ t=>decide (t.an=c):Nat):Int):=by
 have e:T=T.take k++T.getD k default::T.drop (k+1):=by
  conv=>lhs;rw[<-bbU k T,bcg h]
  rw[baa,bac h];rfl
 constructor
 .conv=>lhs;rw[e]
  rw[bel,beG];by_cases a:(T.getD k default).an=c<;>simp only[a,bdD,bdq,bcj,bbE]<;>simp<;>omega
 .rw[bcZ,bap h,bel,beG];by_cases a:t.an=c<;>simp only[a,bdD,bdq,bcj,bbE]<;>simp<;>omega
theorem aLK{T:List bb}(h:k<T.length)(t:bb):
  kX (T.set k t)=wK (wK (kX T) (T.getD k default).an (kX T (T.getD k default).an-1)) t.an (wK (kX T) (T.getD k default).an (kX T (T.getD k default).an-1) t.an+1):=by
 obtain⟨A,D,f,i⟩:∃ A D:aw->Int,(∀ y,kX T y=A y+(if(T.getD k default).an=y then 1 else 0)+D y)/\∀ y,kX (T.set k t) y=A y+(if t.an=y then 1 else 0)+D y :=
  ⟨_,_,λ y=>(countP_split h t y).1,λ y=>(countP_split h t y).2⟩
 funext y
 unfold wK;rw[i y,f y,f t.an,f (T.getD k default).an];generalize (T.getD k default).an=a;generalize t.an=b;by_cases d:y=b
 .subst d;by_cases c:y=a
  .subst c;simp only[bcj,eq_self];omega
  .have e:¬a=y:=λ h=>c h.symm;simp only[bcj,c,e,bbE];omega
 .have g:¬b=y:=λ h=>d h.symm;by_cases c:y=a
  .subst c;simp only[bcj,d,g,bbE];omega
  .have e:¬a=y:=λ h=>c h.symm;simp only[d,c,e,g,bbE]
def aQt{g:aw->Int}{n v:Int}{x:aw}(h:∀ y,0<=g y/\g y<=n)(a: -1<=v)(b:v<=n)(y:aw): -1<=wK g x v y/\wK g x v y<=n:=by
 unfold wK;have:=h y;split<;>omega
def aLJ{T:List bb}:0<kX T c↔∃ t∈T,t.an=c:=by
 unfold kX;rw[Int.natCast_pos,List.countP_pos_iff];simp
def fU(l:List ed)(a:Int):Int:=fK (λ g=>g.id == a) l
def aE8(l:List ed)(a:Int):fU l a= -1/\(∀ g∈l,g.id≠a)\/∃ k,k<l.length/\fU l a=(k:Int)/\(l.getD k default).id=a/\∀ j,j<k->(l.getD j default).id≠a:=by
 rcases JJ (λ g=>g.id == a) l with⟨b,c⟩|⟨k,d,b,c,h⟩
 .exact .inl ⟨b,λ g f=>by simpa using c g f⟩
 .refine .inr ⟨k,d,b,?_,λ j e=>?_⟩
  .rw[baa,bac d];simpa using c
  .rw[baa,bac GE];simpa using h j e
noncomputable def tK(f:aE)(l:List ed)(T:List bb)(k:Nat):Option aw :=
 if fU l (T.getD k default).id<0 then none
 else if jd f (T.getD k default).an (l.getD (fU l (T.getD k default).id).toNat default).bG≠0 then none
 else if(hW f (T.getD k default).an (l.getD (fU l (T.getD k default).id).toNat default).bG).length<2 then none
 else if 0<kX T ((hW f (T.getD k default).an (l.getD (fU l (T.getD k default).id).toNat default).bG).getD 1 default)then none
 else some ((hW f (T.getD k default).an (l.getD (fU l (T.getD k default).id).toNat default).bG).getD 1 default)
def bb.bG(t:bb)(c:aw):bb:={t with an:=c}
noncomputable def lJ(f:aE)(l:List ed)(T:List bb):Nat->List bb×List Int
 | 0=>(T,[])
 | k+1=>match tK f l (lJ f l T k).1 k with
  | none=>lJ f l T k
  | some c=>((lJ f l T k).1.set k (((lJ f l T k).1.getD k default).bG c),(lJ f l T k).2++ [((lJ f l T k).1.getD k default).id])
def Kw{T U:List bb}{M:List Int}(h:lJ f l T k=(U,M))(a:tK f l U k=none):lJ f l T (k+1)=(U,M):=by
 show(match tK f l (lJ f l T k).1 k with|none=>_|some c=>_)=_;rw[h];simp only[a]
def RR{T U:List bb}{M:List Int}(h:lJ f l T k=(U,M))(a:tK f l U k=some c):lJ f l T (k+1)=(U.set k ((U.getD k default).bG c),M++ [(U.getD k default).id]):=by
 show(match tK f l (lJ f l T k).1 k with|none=>_|some c=>_)=_;rw[h];simp only[a]
def XE{f:aE}{l:List ed}{T:List bb}:∀ k,(lJ f l T k).1.length=T.length/\(lJ f l T k).2.length<=k
 | 0=>⟨rfl,bao _⟩
 | k+1=>by
  have a:=XE (f:=f) (l:=l) (T:=T) k;cases b:tK f l (lJ f l T k).1 k with
  | none=>rw[Kw rfl b];exact⟨a.1,bfJ a.2⟩
  | some c=>rw[RR rfl b];exact⟨by rw[bak];exact a.1,by rw[bam,bbo];omega⟩
noncomputable def ag.M(W:ag)(l:List ed):ag×List Int:=({W with ah:=(lJ W.am l W.ah W.ah.length).1},(lJ W.am l W.ah W.ah.length).2)
end
section
variable{o:Oper}{id:Nat}{op:Op}
section
variable{hI:Nat}{hJ:aw->Int}{P:Program}{ops:Array Oper}{Q:Exit->Act->World->Prop}{a_:Nat->Nat}
def yw(c:Nat)(d:aw->Int)(P:Program)(b:Array Oper)(e:World)(o:Oper)(v:Value)(a:Act):Prop :=
  (Region.wanted o (yielded b a.tmps)=true/\∀ w,rU c d e w->CX P w v ((execOp a.eval o).run P w))\/
  (Region.wanted o (yielded b a.tmps)=false/\v=undef)
def yw.of_same{c:World}{v:Value}{a b:Act}(h:yw hI hJ P ops c o v a)(d:execOp b.eval o=execOp a.eval o)(e:Region.wanted o (yielded ops b.tmps)=Region.wanted o (yielded ops a.tmps)):yw hI hJ P ops c o v b:=by
  unfold yw at *;rw[d,e];exact h
theorem yw.on{w0 a8:World}{v:Value}{a:Act}(h:yw hI hJ P ops w0 o v a)(hx:rU hI hJ w0 a8):yw hI hJ P ops a8 o v a :=
  h.imp (λ⟨aa,ab⟩=>⟨aa,λ w hw=>ab w (hx.trans hw)⟩) id
theorem Yields.aNx{w0:World}{v:Value}{a:Act}(h:Yields P ops o v a):yw hI hJ P ops w0 o v a :=
  h.imp (λ⟨aa,ab⟩=>⟨aa,λ w _=>by rw[ab w];exact⟨rfl,rfl⟩⟩) id
def aPu(e:Nat)(f:aw->Int)(P:Program)(d:Array Oper)(Q:Exit->Act->World->Prop)(c:Nat->Nat)(i:Nat)(K:Act->World->Prop)(a:Act)(b:World):Prop :=
  ∃ o,d[i]? =some o/\
    ((c i<=1/\∃ v,yw e f P d b o v a/\K (a.put o.dst v) b)\/
     (1<c i/\∀ w,Ext b w->wpOp P d Q i (λ g w'=>(c i=2->rU e f b w')/\K g w') a w))
def O3(d:Nat)(e:aw->Int)(P:Program)(b:Array Oper)(Q:Exit->Act->World->Prop)(c:Nat->Nat):Nat->Array Bool->Act->World->Prop
  | 0,l,a,w0=>Region.ready .any b l=[]/\∀ w,Ext w0 w->Q .normal a w
  | f+1,l,a,w0=>(Region.ready .any b l=[]->∀ w,Ext w0 w->Q .normal a w)/\∀ i∈Region.ready .any b l,aPu d e P b Q c i (O3 d e P b Q c f (l.setIfInBounds i true)) a w0
theorem LK:∀(f:Nat) (l:Array Bool) (a:Act) (g:World),O3 hI hJ P ops Q a_ f l a g->∀ w,Ext g w->wpAny P .any ops Q f l a w
  | 0,_,_,_,h,w,hw=>⟨h.1,h.2 w hw⟩
  | f+1,l,a,g,h,w,hw=>⟨λ j=>h.1 j w hw,λ i k=>by
      obtain⟨o,p,c⟩:=h.2 i k;rcases c with⟨_,v,I,b⟩|⟨_,c⟩
      · unfold wpOp
        simp only[p];rcases I with⟨d,I⟩|⟨d,rfl⟩
        · rw[bap d]
          refine .inl ?_;have I:=I w (rU.O hw);unfold Oper.wp;generalize (execOp a.eval o).run P w=r at *
          cases r with
          | ok n w' =>
            cases n<;>simp only[CX]at I<;>simp only[Oper.upon]
            case value u=>obtain⟨rfl,rfl⟩:=I;exact LK f _ _ _ b _ hw
            case skip=>obtain⟨rfl,rfl⟩:=I;exact LK f _ _ _ b _ hw
            case enter z args=>obtain⟨rfl,q⟩:=I;exact q.mono λ e A ⟨s,t⟩=>by subst s;exact LK f _ _ _ b _ (hw.O t)
          | halt x w'=>simp only[CX]at I
        · rw[ban (by rw[d];decide)]
          exact LK f _ _ _ b _ hw
      · exact bcR (λ y w' m=>LK f _ _ _ m.2 _ (Ext.U w')) (c w hw)⟩
theorem als{i:Nat}{m:Oper}{v:Value}(O:ops[i]? =some m)(r:a_ i<=1)(p':∀(j:Nat) (o:Oper) cs b,ops[j]? =some o->o.op≠ .select cs b)
    (j3:∀ c a w,¬Q (.panic c) a w)(aQ:World->Act->Prop)(n3:∀ g a,aQ g a->yw hI hJ P ops g m v a)
    (z2:∀ g a C,aQ g a->execOp C.eval m=execOp a.eval m->Region.wanted m (yielded ops C.tmps)=Region.wanted m (yielded ops a.tmps)->aQ g C)
    (z3:∀ g t a,rU hI hJ g t->aQ g a->aQ t a)(R:Nat->Bool)(M:Array Bool)
    (hR:∀ j x,ops[j]? =some x->j≠i->(∀ e∈x.after,Region.binds .any e=true->R e.on=true)->R j=true)
    (E:(∀ g t a,aQ g a->aQ t a)\/∀ j,R j=true->3<=a_ j->M.getD j true=true):
    ∀(f:Nat) (l:Array Bool) (a:Act) (g:World),(∀ j,l.getD j false=true->R j=true)->(∀ j,M.getD j true=true->l.getD j true=true)->
      (∀ j x,ops[j]? =some x->j≠i->l.getD j true=false->(∀ e∈x.after,Region.binds .any e=true->e.on≠i)->m.apart ops x=true)->
      i∈Region.ready .any ops l->aQ g a->O3 hI hJ P ops Q a_ f (l.setIfInBounds i true) (a.put m.dst v) g->O3 hI hJ P ops Q a_ (f+1) l a g:=by
  intro f;induction f with
  | zero =>
    intro l a g _ _ _ A s H;refine⟨λ h=>(by rw[h]at A;cases A),λ j G=>?_⟩;by_cases p:j=i
    · subst p;exact⟨m,O,.inl ⟨r,v,n3 _ _ s,H⟩⟩
    · have:=bc5 G p
      rw[H.1]at this;cases this
  | succ f b0 =>
    intro l a g Ha G_ W A s H;refine⟨λ h=>(by rw[h]at A;cases A),λ j G=>?_⟩;by_cases p:j=i
    · subst p;exact⟨m,O,.inl ⟨r,v,n3 _ _ s,H⟩⟩
    · obtain⟨x,B,q⟩:=H.2 j (bc5 G p)
      obtain⟨K,n,Hi,eA⟩:=bei.1 G;obtain rfl:n=x:=by rw[B]at Hi;exact(bae Hi).symm
      have QG:∀ e∈n.after,Region.binds .any e=true->e.on≠i:=λ e T N aa=>by
        have q:=eA e T N;have aN:=(bei.1 A).1;rw[aa]at q;rcases ba2 i l.size with z|z
        · simp[z]at aN q;rw[aN]at q;cases q
        · simp[bbj z]at q
      have Qd:=W j n B p K QG;obtain⟨S,a2,a3⟩:=be1 Qd;have QU:∀ cs b,m.op≠ .select cs b:=λ cs b=>p' i m cs b O;have U:∀ cs b,n.op≠ .select cs b:=λ cs b=>p' j n cs b B;have be:∀ t a u,aQ t a->aQ t (a.put n.dst u):=λ t a u s=>z2 _ _ _ s (bdk m QU a n.dst u a3) (bdB m a n.dst u a3);have Y:R j=true:=hR j n B p λ e T N=>Ha _ (eA e T N);have Hb:∀ k,(l.setIfInBounds j true).getD k false=true->R k=true:=λ k r=>by
        by_cases y:j=k
        · rw[<-y];exact Y
        · rw[bcM false y]at r;exact Ha k r
      have V:∀ k,M.getD k true=true->(l.setIfInBounds j true).getD k true=true:=λ k r=>by
        by_cases y:j=k
        · subst y
          rcases ba2 j l.size with z|z
          · simp[z]
          · simp[bbj z]
        · rw[bcM true y];exact G_ k r
      have X:∀ k F,ops[k]? =some F->k≠i->(l.setIfInBounds j true).getD k true=false->
          (∀ e∈F.after,Region.binds .any e=true->e.on≠i)->m.apart ops F=true:=λ k F r sm Ho iy=>by
        refine W k F r sm ?_ iy;by_cases y:j=k
        · subst y;exact K
        · rw[bcM true y]at Ho;exact Ho
      have Hn:=bc5 A (bdg p);rcases q with⟨L,u,I,hK⟩|⟨L,q⟩
      · refine⟨n,B,.inl ⟨L,u,I.of_same (bdk n U a m.dst v S).symm (bdB n a m.dst v S).symm,?_⟩⟩
        refine b0 _ _ _ Hb V X Hn (be _ _ _ s) ?_;rw[bbX _ _ p,<-bcB a v u a2];exact hK
      · refine⟨n,B,.inr ⟨L,λ w hw=>?_⟩⟩
        refine bcR (λ C w' D=>⟨D.2.1,?_⟩) (agt (aQ:=aQ g) B S a2 U j3 (be g) (λ a d s=>z2 _ _ _ s Z Z) s (q w hw));have QW:aQ w' C:=by
          rcases ba2 (a_ j) 3 with bW|uG
          · exact z3 _ _ _ (D.2.1 GE) D.1
          · rcases E with E|E
            · exact E _ _ _ D.1
            · have:=G_ j (E j Y uG);rw[K]at this;cases this
        refine b0 _ _ _ Hb V X Hn QW ?_;rw[bbX _ _ p];exact D.2.2
def N2(d:Nat)(e:aw->Int)(P:Program)(c:Array Oper)(Q:Exit->Act->World->Prop)(b:Nat->Nat):List Nat->Act->World->Prop
  | [],a,w0=>∀ w,Ext w0 w->Q .normal a w
  | i::r,a,w0=>∃ o,c[i]? =some o/\
      ((b i=0/\∃ v,yw d e P c w0 o v a/\N2 d e P c Q b r (a.put o.dst v) w0)\/
       (b i=1/\∃ v,Yields P c o v a/\N2 d e P c Q b r (a.put o.dst v) w0)\/
       (1<b i/\∀ w,Ext w0 w->wpOp P c Q i (λ f w'=>(b i=2->rU d e w0 w')/\N2 d e P c Q b r f w') a w))
theorem TL(p:Region.noSelect ops=true)(n:∀ c a w,¬Q (.panic c) a w):∀(r:List Nat) (l:Array Bool) (a:Act) (e:World),l.size=ops.size->l1 ops a_ r l=true->N2 hI hJ P ops Q a_ r a e->O3 hI hJ P ops Q a_ r.length l a e
  | [],l,a,e,_,b,h=>⟨by simpa[l1]using b,h⟩
  | i::r,l,a,e,az,b,h=>by
    obtain⟨o,g,h⟩:=h;have z:=bdo p;rcases h with⟨f,v,I,q⟩|⟨f,v,I,q⟩|⟨f,h⟩
    · simp only[l1,f,bai]at b
      obtain⟨⟨⟨t,d⟩,B⟩,b⟩:=b;obtain⟨R,E,F,A⟩:=TZ az B;exact als g GE z n (λ e a=>yw hI hJ P ops e o v a) (λ _ _ h=>h) (λ _ _ _ h s m=>h.of_same s m) (λ _ _ _ D h=>h.on D) R l E (.inr A) _ _ _ _ F (λ _ h=>h) (bcb g t) (by simpa using d) I
        (TL p n r _ _ _ (by simpa using az) b q)
    · simp only[l1,f,bai]at b
      obtain⟨⟨t,d⟩,b⟩:=b;exact als g GE z n (λ _ a=>Yields P ops o v a) (λ _ _ h=>Yields.aNx h) (λ _ _ _ h s m=>h.of_same s m) (λ _ _ _ _ h=>h) (λ _=>true) l (λ _ _ _ _ _=>Z) (.inl λ _ _ _ h=>h) _ _ _ _ (λ _ _=>Z) (λ _ h=>h) (bcb g t) (by simpa using d) I
        (TL p n r _ _ _ (by simpa using az) b q)
    · obtain⟨k,C⟩:∃ k,a_ i=k+2:=⟨a_ i-2,GE⟩
      simp only[l1,C,bai,ba9]at b;obtain⟨d,b⟩:=b;refine⟨λ x=>(by rw[d]at x;cases x),λ j u=>?_⟩;rw[d]at u;obtain rfl:j=i:=by simpa using u
      exact⟨o,g,.inr ⟨f,λ w m=>bcR (λ G w' y=>⟨y.1,TL p n r _ _ _ (by simpa using az) b y.2⟩) (h w m)⟩⟩
theorem aNP{a:Act}{w:World}(c:List Nat)(f:P.follows .mixedOrders=true)(b:(Region.noSelect ops && (c.length == ops.size) && l1 ops a_ c (Array.replicate ops.size false))=true)
    (h:N2 hI hJ P ops (i_ (Q .normal)) a_ c a w):(Code.region id ops true).wp P Q a w:=by
  simp only[bai,ba9]at b;obtain⟨⟨g,d⟩,b⟩:=b;refine bft (bep f (Q:=i_ (Q .normal)) ?_) (λ e a w I=>by cases e<;>first|exact I|exact I.elim);have:=TL (P:=P) g (Q:=i_ (Q .normal)) (λ _ _ _ h=>h) c (Array.replicate ops.size false) a w Kx b h;rw[d]at this;exact LK _ _ _ _ this _ (baL _ w).drew
end
section
variable{hI:Nat}{hJ:aw->Int}{P:Program}{n:Nat}{E df:List (Nat×Value)}{a:Act}{w w' w0 a8:World}{Q:Exit->Act->World->Prop}{ops:Array Oper}{v:Value}{a_:Nat->Nat}
variable{d:Option Nat}{ty:TypeId}{pos:String}{af:Array Edge}{g:Option (Nat×Bool)}{x y z:Operand}{t:TypeId}{rest:List Oper}{cd:List Nat}{i:Nat}
def BS(d:Nat)(e:aw->Int)(P:Program)(n:Nat)(f:Array Oper)(Q:Exit->Act->World->Prop)(b:Nat->Nat)(c:List Nat)(E:List (Nat×Value))(g:World):Prop:=∀ a,fz n E a->N2 d e P f (i_ (Q .normal)) b c a g
def afm(e:Nat)(f:aw->Int)(c:List (Nat×Nat))(b:List Nat)(i:P.follows .mixedOrders=true)(d:(Region.noSelect ops && (b.length == ops.size) && l1 ops (qa c) b (Array.replicate ops.size false))=true)
    (h:BS e f P n ops Q (qa c) b E w):W P n (.region id ops true) Q E w:=λ a g=>aNP b i d (h a g)
def abR(h:∀ w,Ext w0 w->N n Q E w):BS hI hJ P n ops Q a_ [] E w0:=λ a b w c=>h w c a b
def GU{d:Nat}(c:ops[i]? =some ⟨some d,op,ty,pos,af,none⟩)(e:a_ i=0)(g:∀ w,rU hI hJ w0 w->dc P E ⟨some d,op,ty,pos,af,none⟩ w v w)(f:Nat.blt d n=true)
    (h:BS hI hJ P n ops Q a_ cd ((d,v)::E) w0):BS hI hJ P n ops Q a_ (i::cd) E w0:=λ a b =>
  ⟨_,c,.inl ⟨e,v,.inl ⟨C' rfl,λ w j=>by rw[g w j n a b];exact⟨rfl,rfl⟩⟩,h _ (b.put f v)⟩⟩
def vX{d:Nat}(c:ops[i]? =some ⟨some d,op,ty,pos,af,none⟩)(e:a_ i=1)(g:∀ w,dc P E ⟨some d,op,ty,pos,af,none⟩ w v w)(f:Nat.blt d n=true)
    (h:BS hI hJ P n ops Q a_ cd ((d,v)::E) w0):BS hI hJ P n ops Q a_ (i::cd) E w0:=λ a b =>
  ⟨_,c,.inr (.inl ⟨e,v,.inl ⟨C' rfl,λ w=>g w n a b⟩,h _ (b.put f v)⟩)⟩
def abU(f:o.guard=none)(c:ops[i]? =some o)(b:a_ i=2)(h:∀ w,Ext w0 w->IJ P n ops o E w λ d w'=>rU hI hJ w0 w'/\BS hI hJ P n ops Q a_ cd d w'):BS hI hJ P n ops Q a_ (i::cd) E w0:=λ a g =>
  ⟨_,c,.inr (.inr ⟨GE,λ w j=>NB f c (h w j) (λ d w' e b k=>⟨λ _=>b.1,b.2 e k⟩) g⟩)⟩
def abK(f:o.guard=none)(b:ops[i]? =some o)(c:a_ i=3)(h:∀ w,Ext w0 w->IJ P n ops o E w λ d w'=>BS hI hJ P n ops Q a_ cd d w'):BS hI hJ P n ops Q a_ (i::cd) E w0:=λ a g =>
  ⟨_,b,.inr (.inr ⟨GE,λ w j=>NB f b (h w j) (λ d w' e c k=>⟨λ l=>GE,c e k⟩) g⟩)⟩
end
end
section
variable{j:Nat}
theorem ae1{d:Type}{cur old part:List d}{p s:Nat}(i:old.length=s)(e:j+part.length<=s)(l:p+s<=cur.length)(h:∀ m,m<s->cur[p+m]? =old[m]?):
  cur.take p++(old.take j++part++old.drop (j+part.length))++cur.drop (p+(old.take j++part++old.drop (j+part.length)).length)=cur.take (p+j)++part++cur.drop (p+j+part.length):=by
 have a:(old.take j++part++old.drop (j+part.length)).length=s:=by simp only[bam,baf,bax];omega
 rw[a];apply bbB;intro k;by_cases b:k<p
 .rw[baO,baz (by rw[baf];omega),baO,baz (by rw[baf];omega),baR,baR,bap b,bap GE]
 .by_cases f:k<p+s
  .rw[baO,baD (by rw[baf];omega),baz (by rw[a,baf];omega),baf];obtain⟨m,rfl⟩:∃ m,k=p+m:=⟨k-p,GE⟩;rw[show p+m-min p cur.length=m from by omega];by_cases c:m<j
   .rw[baO,baz (by rw[baf];omega),baO,baz (by rw[baf];omega),baR,baR,bap c,bap GE,h m GE]
   .by_cases g:m<j+part.length
    .rw[baO,baD (by rw[baf];omega),baz (by rw[baf];omega),baO,baD (by rw[baf];omega),baz (by rw[baf];omega),baf,baf];congr 1;omega
    .rw[baD (by simp only[bam,baf];omega),bbm,baD (by simp only[bam,baf];omega),bbm];simp only[bam,baf];rw[show p+j+part.length+(p+m-(min (p+j) cur.length+part.length))=p+m from GE,h m GE];congr 1;omega
  .rw[baD (by simp only[bam,baf,bax];omega),bbm,baD (by simp only[bam,baf];omega),bbm];simp only[bam,baf,bax];congr 1;omega
section
variable{P:Program}{n:Nat}{E df:List (Nat×Value)}{a:Act}{w w' w0 a8:World}{Q:Exit->Act->World->Prop}{ops:Array Oper}{v:Value}
variable{d:Option Nat}{ty:TypeId}{pos:String}{af:Array Edge}{g:Option (Nat×Bool)}{x y z:Operand}{t:TypeId}{rest:List Oper}
theorem asS{z:Type}{R:τ z}{e by_ B i:Nat}{A:Option Addr}{c:Nat}{l:List z}{q q':z}{p:Addr}{old part es:List Value}(h:R.aM e by_ w B (τ.ai A) A c l)(hR:R.Dr)(G:l[i]? =some q)(aa:∀ {w cs},R.bv w cs q->cs=old)(hx:ev E x=some (.pointer (some p)))(hp:p=⟨fv A,j7 A+i*R.size+j,none⟩)(U:ev E y=some v)(hc:v.cells=part.toArray)
  (O:Nat.ble (j+part.length) R.size=true)(C:es=old.take j++part++old.drop (j+part.length))(I:∀ w,R.bv w es q')(hs:fA P t part.length)
  (V:∀ k,Mod (τ.ai A) w k->R.aM e by_ k B (τ.ai A) A c (l.set i q')->cx P n ops Q rest E k):cx P n ops Q (⟨none,.store t x y,ty,pos,af,none⟩::rest) E w:=by
 have L:i<l.length:=(bab.1 G).1;obtain⟨b,rfl⟩:=h.block GE;have M:p=⟨b,i*R.size+j,none⟩:=by rw[hp];simp[fv,j7]
 subst M;obtain⟨_,ps,_,_,X,_⟩:=id h;obtain⟨cur,r,_,_⟩:=X.ai8;obtain⟨y3,o⟩:=τ.aM.asw (q':=q') h hR L I r;obtain⟨rW,Nl,g,hl⟩:=h.bv.d9 GE;injection g with g
 injection g with Y W
 subst Y W;obtain⟨d,D,lh⟩:=hl i q G;obtain rfl:=aa D;have T:d.length=R.size:=R.len D;have F:es.length=R.size:=R.len (I w);have N:=bcc O;have uE:∀ m,m<R.size->cur.toList[i*R.size+m]? =d[m]? :=λ m hm=>by
  have f:d[m]? =some d[m]:=bac GE;have:=lh m d[m] f;rw[f];simpa[World.cell?,r]using this
 have S:=ae1 (cur:=cur.toList) (old:=d) (part:=part) (p:=i*R.size) (s:=R.size) (j:=j) T N (by rw[F]at o;exact o) uE;have ry:part.all (·.oneCell')=true:=ba8.2 λ u f=>R.one (I w) u (by rw[C];simp[f]);have K:=afw (P:=P) (w:=w) (b:=b) (p:=i*R.size+j) (cur:=cur.toList) (e:=e) (by simpa[aO]using r) hc hs ry (by rw[F]at o;omega);rw[<-S,<-C]at K;refine us (λ n a H=>?_) (V _ (Mod.setRow w b _) y3);simp only[execOp,H.ev hx,H.ev U,Instr.storeAt,Instr.sureAddr,bar,bat,bal,K]
end
end
def axy:dU prog cN.ce 251 291 32:=dU.O (z:=cN.zero) (k:=4) underlying251 cN.G rfl rfl GP cN.M
def Js{w:World}{cs:List Value}{a:cN}(h:cN.ce.bv w cs a):cs=a.cells:=bcs (show cs=a.cells/\a.ok from h)
def Sj(A:Option Addr)(n c:Nat)(w:World):
  Calls prog 202 #[.slice A n c] w (λ e w'=>e=.returned (J (n:Int))/\Ext w w'):=by
 refine bT (n:=5) func202 Z Z Z ?_;refine ar<|aG Z<|aC Z<|κ (bY underlying251 Z)<|bc Z<|b3 Z Z<|?_;exact⟨Z,(Ext.U w)⟩
theorem Yh(A:Option Addr)(n c:Nat)(l:List cN)(i j:Int)(p q:Nat)(w:World)(a:cN.ce.aF 32 w A c l)(h:l.length=n)(d:i=(p:Int))(b:j=(q:Int))(k:p<n)(I:q<n):
  Calls prog 229 #[.slice A n c,J i,J j] w (λ e w'=>e=.returned (.bool (decide ((l.getD p default).all<(l.getD q default).all)))/\Ext w w'):=by
 refine bT (n:=18) func229 Z Z Z ?_;refine ar<|aG Z<|av<|?_;refine c_ [(4,0),(9,0)] [0,1,2,3,4,5,6,7,8,9,10,11] ?_;refine bt Z Z<|bt Z Z<|aA Z (λ _=>bD i.toNat underlying251 rk Z Z ((a.be (Ext.U w)).Y (aL i.toNat)) GE GE)<|aA Z (λ _=>aj UA Z)<|dE Z (λ _ x=>aq Z (τ.aF.C Js ((a.be (Φ (Ext.U w) x)).O (aL i.toNat)) 3 (cg (l:=l) (u:=default) GE) Z aH))<|bt Z Z<|bt Z Z<|aA Z (λ _=>bD j.toNat underlying251 rk Z Z ((a.be (Ext.U w)).Y (aL j.toNat)) GE GE)<|aA Z (λ _=>aj UA Z)<|dE Z (λ _ x=>aq Z (τ.aF.C Js ((a.be (Φ (Ext.U w) x)).O (aL j.toNat)) 3 (cg (l:=l) (u:=default) GE) Z aH))<|aA Z (λ _=>blt Z Z)<|aA Z (λ _=>fh Z)<|fn λ g f=>?_;refine a7<|rt<|b3 Z Z<|?_;subst d b;exact⟨by simp only[ba4];rfl,f⟩
theorem Yi(A:Option Addr)(n c aQ:Nat)(l:List cN)(i j:Int)(p q:Nat)(w:World)(a:cN.ce.aM 291 32 w aQ (τ.ai A) A c (l))(h:∀ y∈l,y.ok)(H:l.length=n)(v:i=(p:Int))(t:j=(q:Int))(K:p<n)(I:q<n):
  Calls prog 230 #[.slice A n c,J i,J j] w (λ e w'=>e=.returned (.tuple #[])/\cN.ce.aM 291 32 w' aQ (τ.ai A) A c (dh.swp l p q)/\Mod (τ.ai A) w w'):=by
 refine bT (n:=20) func230 Z Z Z ?_;refine c_ [(7,0),(11,0),(13,3),(15,3)] [0,1,2,3,4,5,6,7,8,9,10,11,12,13,14,15] ?_;refine bt Z Z<|bt Z Z<|bt Z Z<|bt Z Z<|bt Z Z<|bt Z Z<|aA Z (λ _=>bD j.toNat underlying251 rk Z Z (a.bv.Y (aL j.toNat (by first|omega|(rw[bak];omega)))) GE (by first|omega|(rw[bak];omega)))<|dE Z (λ _ x=>aq Z (τ.aF.G Js ((a.O x).bv.O (aL j.toNat (by first|omega|(rw[bak];omega)))) (cg (l:=l) (u:=default) (by first|omega|(rw[bak];omega))) UB rk))<|bt Z Z<|bt Z Z<|aA Z (λ _=>bD i.toNat underlying251 rk Z Z (a.bv.Y (aL i.toNat (by first|omega|(rw[bak];omega)))) GE (by first|omega|(rw[bak];omega)))<|dE Z (λ _ x=>aq Z (τ.aF.G Js ((a.O x).bv.O (aL i.toNat (by first|omega|(rw[bak];omega)))) (cg (l:=l) (u:=default) (by first|omega|(rw[bak];omega))) UB rk))<|aA Z (λ _=>bD i.toNat underlying251 rk Z Z (a.bv.Y (aL i.toNat (by first|omega|(rw[bak];omega)))) GE (by first|omega|(rw[bak];omega)))<|en Z Z Z λ G k Q d=>RP (q':=l.getD j.toNat default) (i:=i.toNat) (a.O k) τ.O (by first|omega|(rw[bak];omega)) Z Z Z Z (λ _=>⟨Z,(h _ (gZ GE))⟩) rk λ F s f=>d _ _ ?_;have z:=(Mod.U (τ.ai A) w).trans (Mod.O k);have r:=z.Y s (λ q I=> .inl I);refine aA Z (λ _=>bD j.toNat underlying251 rk Z Z (f.bv.Y (aL j.toNat (by first|omega|(rw[bak];omega)))) GE (by first|omega|(rw[bak];omega)))<|en Z Z Z λ L g Q d=>RP (q':=l.getD i.toNat default) (i:=j.toNat) (f.O g) τ.O (by first|omega|(rw[bak];omega)) Z Z Z Z (λ _=>⟨Z,(h _ (gZ GE))⟩) rk λ M o b=>d _ _ ?_;have B:=r.trans (Mod.O g);have C:=B.Y o (λ q I=> .inl I);refine fn λ E m=>?_;have D:=C.trans (Mod.O m);refine ne<|cJ .nil<|?_;have b:=b.O m;subst v t;simp only[ba4]at b;exact⟨Z,b,D⟩
theorem aRO(b:Nat)(A:Option Addr)(n c aQ:Nat)(l:List cN)(p s t u v x:Value)(j:Nat)(w:World)(a:aO w b [p,s,t,u,v,x,.slice A n c] 253 (0,0))(D:cN.ce.aM 291 32 w aQ (τ.ai A) A c (l))(N:∀ y∈l,y.ok)(hn:l.length=n)(P:∀ q∈τ.ai A,q=b->False)(Y:j<n):
  Calls prog 207 #[.iface 289 (.pointer (some ⟨b,6,none⟩)),J (j:Int)] w (λ e w'=>e=.returned (.tuple #[])/\aO w' b [p,s,t,u,v,x,.slice A n c] 253 (0,0)/\cN.ce.aM 291 32 w' aQ (τ.ai A) A c (dh.sL cN.all l j)/\Mod (τ.ai A) w w'):=by
 have X:=D.bv.M;refine bT (n:=23) func207 Z Z Z ?_;refine bp<|?_;refine di (λ M L i=>∃ d:List cN,∃ m:Nat,L=[(0,.iface 289 (.pointer (some ⟨b,6,none⟩))),(1,J (m:Int))]/\M=(2*m)/\Mod (τ.ai A) w i/\aO i b [p,s,t,u,v,x,.slice A n c] 253 (0,0)/\cN.ce.aM 291 32 i aQ (τ.ai A) A c (d)/\(m<n)/\(d.length=n)/\(∀ y∈d,y.ok)/\(dh.sL cN.all d m=dh.sL cN.all l j)/\(∀ q∈τ.ai A,q=b->False)) _ _ ⟨l,j,Z,Z,(Mod.U (τ.ai A) w),a,D,GE,GE,N,rfl,P⟩ (qW Z) ?_;rintro W U kr ⟨d,m,rfl,rfl,O,a,g,hm,aa,C,o,z⟩;refine bp<|aC Z<|κ (hi Z Z dK)<|κ (aal (r:=(((m-1) / 2:Nat):Int)) Z Z GP (aPJ m) dK)<|aG Z<|av<|aC Z<|vm Z<|κ (beq Z Z)<|vm Z<|er Z Z<|er Z Z<|er Z Z<|aon Z Z Z Z UC (λ f=>(gt f Z)) (λ f=>b6 (gt f Z) (b6 (gt f Z) Z)) (CV (e:=251) GT (a.one r5 Z)) (λ f=>Yh _ _ _ d (m:Int) ((((m-1) / 2:Nat):Int)) m ((m-1) / 2) _ g.bv GE GE GE (by first|omega|(simp only[cb]at f;omega)) (by first|omega|(simp only[cb]at f;omega))) Z λ dr h=>?_;have E:=O.trans (Mod.O h);refine aR Z (λ f=>dj (gt f Z))<|κ (dS Z Z Z Z)<|ax<|?_;refine dB Z (λ k=>?_) (λ k=>?_)
 .have Q:=dh.aQy (key:=cN.all) k;rw[Q]at o;refine cI<|cH<|KO Z<|cU<|cG<|ne<|cJ .nil<|?_;have g:=g.O h;have a:=a.O h;exact⟨Z,a,by rw[<-o];exact g,E⟩
 .obtain⟨T,S⟩:=dh.aQz (key:=cN.all) k;refine bf<|aC Z<|vm Z<|vm Z<|?_;have a:=a.O h;have g:=g.O h;refine dp UD Z Z (CV (e:=251) GT (a.one r5 Z)) Z ((Yi _ _ _ _ d ((((m-1) / 2:Nat):Int)) (m:Int) ((m-1) / 2) m _ g C GE GE GE GE GE).mono ?_);rintro e V ⟨rfl,K,B⟩;refine cR ?_;have R:=E.Y B (λ q I=> .inl I);have F:∀ y∈dh.swp d ((m-1) / 2) m,y.ok:=λ y H=>C y ((dh.HP GE GE).subset H);have G:(dh.swp d ((m-1) / 2) m).length=n:=by rw[dh.oT];omega
  refine ax<|rg<|vm Z<|va Z<|nl<|bK<|?_;have a:=a.H B (λ I=>z _ I rfl);exact cM ⟨dh.swp d ((m-1) / 2) m,(m-1) / 2,Z,Z,R,a,K,GE,G,F,S.symm.trans o,z⟩
theorem aRJ(b:Nat)(A:Option Addr)(n c aQ:Nat)(l:List cN)(G H K L M O:Value)(i N:Nat)(w:World)(a:aO w b [G,H,K,L,M,O,.slice A n c] 253 (0,0))(bI:cN.ce.aM 291 32 w aQ (τ.ai A) A c (l))(cA:∀ y∈l,y.ok)(hn:l.length=n)(hd:∀ q∈τ.ai A,q=b->False)(ao:i<n)(ad:N<=n)(Vs:n<=1000000):
  Calls prog 208 #[.iface 289 (.pointer (some ⟨b,6,none⟩)),J (i:Int),J (N:Int)] w (λ e w'=>(∃ v,e=.returned (.bool v))/\aO w' b [G,H,K,L,M,O,.slice A n c] 253 (0,0)/\cN.ce.aM 291 32 w' aQ (τ.ai A) A c (dh.lX cN.all N l i)/\Mod (τ.ai A) w w'):=by
 refine bT (n:=48) func208 Z Z Z ?_;refine ar<|aG Z<|aC Z<|aG Z<|av<|bp<|?_;refine di (λ bJ bH B=>∃ f:List cN,∃ m:Nat,bH=[(0,.iface 289 (.pointer (some ⟨b,6,none⟩))),(1,J (i:Int)),(2,J (N:Int)),(6,.bool false),(7,J (m:Int))]/\bJ=N-m/\Mod (τ.ai A) w B/\aO B b [G,H,K,L,M,O,.slice A n c] 253 (0,0)/\cN.ce.aM 291 32 B aQ (τ.ai A) A c (f)/\(m<n)/\(f.length=n)/\(∀ y∈f,y.ok)/\(dh.lX cN.all N f m=dh.lX cN.all N l i)/\(∀ q∈τ.ai A,q=b->False)) _ _ ⟨l,i,Z,Z,(Mod.U (τ.ai A) w),a,bI,GE,GE,cA,rfl,hd⟩ (qW Z) ?_;rintro CR BQ kr ⟨f,m,rfl,rfl,Q,a,d,hm,af,t,h,s⟩;refine bp<|aC Z<|κ (mD Z Z dK)<|fb Z Z<|aG Z<|av<|aC Z<|vm Z<|κ (iV Z Z)<|vm Z<|er Z Z<|aR Z (λ g=>blt (gt g Z) Z)<|κ (dS Z Z Z Z)<|ax<|?_;refine dB Z (λ F=>?_) (λ F=>?_)
 .have k:=dh.aBk (key:=cN.all) (l:=f) F;rw[k]at h;refine cI<|cH<|KO Z<|cU<|cG<|a7<|aC Z<|vm Z<|κ (gy Z Z)<|bc Z<|b3 Z Z<|?_
  skip
  exact⟨⟨_,Z⟩,a,by rw[<-h];exact d,Q⟩
 .have x:=dh.aBl F;refine bf<|aC Z<|aG Z<|av<|aC Z<|fb Z Z<|aG Z<|aC Z<|vm Z<|cF Z Z<|vm Z<|er Z Z<|er Z Z<|?_;refine er Z Z<|aon Z Z Z Z UC (λ g=>(gt g Z)) (λ g=>b6 (gt g Z) (b6 (gt g Z) Z)) (CV (e:=251) GT (a.one r5 Z)) (λ g=>Yh _ _ _ f (((2*(m:Int))+1)+1) ((2*(m:Int))+1) (((2*m)+1)+1) ((2*m)+1) _ d.bv GE GE GE (by first|omega|(simp only[cb]at g;omega)) (by first|omega|(simp only[cb]at g;omega))) Z λ qs j=>?_;have R:=Q.trans (Mod.O j);refine κ (cQ Z Z Z Z)<|ax<|?_;refine dB Z (λ u=>?_) (λ u=>?_)
  .have p:=dh.aKy (key:=cN.all) (l:=f) (m:=m) u;have ae:=dh.aKw u;refine rg<|vm Z<|aG Z<|av<|aC Z<|vm Z<|vm Z<|?_;have a:=a.O j;have d:=d.O j;refine dp UC Z Z (CV (e:=251) GT (a.one r5 Z)) Z ((Yh _ _ _ f (((2*(m:Int))+1)+1) (m:Int) (((2*m)+1)+1) m _ d.bv GE GE GE (by first|omega|(simp only[cb]at g;omega)) (by first|omega|(simp only[cb]at g;omega))).mono ?_);rintro e Bm ⟨rfl,r⟩;refine cR ?_;have S:=R.trans (Mod.O r);refine κ (dj Z)<|ax<|?_;refine dB Z (λ E=>?_) (λ E=>?_)
   .have k:=dh.akb (key:=cN.all) x p E;rw[k]at h;refine cI<|cH<|KO Z<|cU<|cG<|a7<|aC Z<|vm Z<|κ (gy Z Z)<|bc Z<|b3 Z Z<|?_
    skip
    have d:=d.O r;have a:=a.O r;exact⟨⟨_,Z⟩,a,by rw[<-h];exact d,S⟩
   .have D:=dh.akc (key:=cN.all) x p E;refine bf<|aC Z<|vm Z<|vm Z<|?_;have a:=a.O r;have d:=d.O r;refine dp UD Z Z (CV (e:=251) GT (a.one r5 Z)) Z ((Yi _ _ _ _ f (m:Int) (((2*(m:Int))+1)+1) m (((2*m)+1)+1) _ d t GE GE GE GE GE).mono ?_);rintro e C7 ⟨rfl,W,P⟩;refine cR ?_;have mq:=S.Y P (λ q I=> .inl I);have X:∀ y∈dh.swp f m (((2*m)+1)+1),y.ok:=λ y C=>t y ((dh.HP GE GE).subset C);have aa:(dh.swp f m (((2*m)+1)+1)).length=n:=by rw[dh.oT];omega
    refine ax<|rg<|vm Z<|va Z<|nl<|bK<|?_;have a:=a.H P (λ I=>s _ I rfl);exact cM ⟨dh.swp f m (((2*m)+1)+1),2*m+2,Z,Z,mq,a,W,GE,aa,X,D.symm.trans h,s⟩
  .have p:=dh.aKx (key:=cN.all) (l:=f) (m:=m) u;refine bf<|av<|aC Z<|vm Z<|vm Z<|?_;have a:=a.O j;have d:=d.O j;refine dp UC Z Z (CV (e:=251) GT (a.one r5 Z)) Z ((Yh _ _ _ f ((2*(m:Int))+1) (m:Int) ((2*m)+1) m _ d.bv GE GE GE (by first|omega|(simp only[cb]at g;omega)) (by first|omega|(simp only[cb]at g;omega))).mono ?_);rintro e vh ⟨rfl,o⟩;refine cR ?_;have T:=R.trans (Mod.O o);refine κ (dj Z)<|ax<|?_;refine dB Z (λ z=>?_) (λ z=>?_)
   .have k:=dh.akb (key:=cN.all) x p z;rw[k]at h;refine cI<|cH<|KO Z<|cU<|cG<|a7<|aC Z<|vm Z<|κ (gy Z Z)<|bc Z<|b3 Z Z<|?_
    skip
    have d:=d.O o;have a:=a.O o;exact⟨⟨_,Z⟩,a,by rw[<-h];exact d,T⟩
   .have D:=dh.akc (key:=cN.all) x p z;refine bf<|aC Z<|vm Z<|vm Z<|?_;have a:=a.O o;have d:=d.O o;refine dp UD Z Z (CV (e:=251) GT (a.one r5 Z)) Z ((Yi _ _ _ _ f (m:Int) ((2*(m:Int))+1) m ((2*m)+1) _ d t GE GE GE GE GE).mono ?_);rintro e Bn ⟨rfl,V,U⟩;refine cR ?_;have lN:=T.Y U (λ q I=> .inl I);have Y:∀ y∈dh.swp f m ((2*m)+1),y.ok:=λ y C=>t y ((dh.HP GE GE).subset C);have ab:(dh.swp f m ((2*m)+1)).length=n:=by rw[dh.oT];omega
    refine ax<|rg<|vm Z<|va Z<|nl<|bK<|?_;have a:=a.H U (λ I=>s _ I rfl);exact cM ⟨dh.swp f m ((2*m)+1),2*m+1,Z,Z,lN,a,V,GE,ab,Y,D.symm.trans h,s⟩
theorem aRN(b:Nat)(A:Option Addr)(c aQ:Nat)(l:List cN)(C D E F G H:Value)(x:cN)(w:World)(a:aO w b [C,D,E,F,G,H,.slice A l.length c] 253 (0,0))(m:cN.ce.aM 291 32 w aQ (τ.ai A) A c (l))(cA:∀ y∈l,y.ok)(z:∀ q∈τ.ai A,q=b->False)(O:x.ok)(Vs:l.length<=1000000)(G0:aQ<=w.heap.size):
  Calls prog 232 #[.pointer (some ⟨b,6,none⟩),.iface 291 (.agg #[J x.cell.x,J x.cell.y,J x.far,J x.all])] w (λ e w'=>∃ i v,e=.returned (.tuple #[])/\aO w' b [C,D,E,F,G,H,.slice i (l++ [x]).length v] 253 (0,0)/\cN.ce.aM 291 32 w' aQ (τ.ai i) i v (l++ [x])/\(∀ q∈τ.ai i,q∈τ.ai A\/w.heap.size<=q)/\Mod (b::τ.ai A) w w'):=by
 have Xe:=a.lt;refine bT (n:=13) func232 Z Z Z ?_;refine c_ [(3,0),(6,2),(7,3),(9,3)] [0,1,2,3,4,5,6,7,8,9] ?_;refine bt Z Z<|bt Z Z<|aA Z (λ _=>cB Z)<|cr Z Z a r5 Z<|bt Z Z<|aA Z (λ _=>atp (λ w=>GT) Z)<|fO Z Z Z λ ch f Q g=>cT (e:=291) (cs:=[J x.cell.x,J x.cell.y,J x.far,J x.all]) Z (λ _=>GT) Z λ af ad j ae s=>g _ _ ⟨Φ f j,?_⟩;have:=f.size;have N:=(Mod.U (b::τ.ai A) w).trans (Mod.O f);have K:=N.trans (Mod.O j);have ab:=s.lt;have m:=m.O (Φ f j);refine en Z Z Z λ sM d Q g=>ap axy τ.O (m.O d) ((aO.G (R:=cN.ce) (by_:=32) (q:=x) s ⟨Z,O⟩ GP).be d) Z Z (by simp only[baj,baq];omega) (by simp only[baj,baq];omega) (by have:=d.size;omega) Z λ X M W r k t aa=>g _ _ ?_;have:=d.size;have T:=K.trans (Mod.O d);have S:=T.Y r (λ q I=> .inl (bav _ I));refine aA Z (λ _=>cB Z)<|?_;have a:=(a.O (Φ f (Φ j d))).H r (λ I=>z _ I rfl);refine en Z Z Z λ wM p Q g=>ep Z Z (a.O p) Z ak2 Z Z λ Y B a=>g _ _ ?_;have U:=S.trans (Mod.O p);have V:=U.Y B wx;refine fn λ pM o=>?_;have P:=V.trans (Mod.O o);refine ne<|cJ .nil<|?_;have k:=((k.O p).H B (bM λ q I L=>baC (t q I) (λ u=>by (exact z q u L)) (λ u=>GE))).O o;have a:=a.O o;exact⟨M,W,Z,a,k,(λ q I=>(t q I).imp id λ h=>GE),P⟩
theorem aRM(b:Nat)(A:Option Addr)(n c aQ:Nat)(l:List cN)(j k m o p r:Value)(w:World)(d:aO w b [j,k,m,o,p,r,.slice A n c] 253 (0,0))(a:cN.ce.aM 291 32 w aQ (τ.ai A) A c (l))(G:∀ y∈l,y.ok)(M:l.length=n)(x:∀ q∈τ.ai A,q=b->False)(E:0<n):
  Calls prog 231 #[.pointer (some ⟨b,6,none⟩)] w (λ e w'=>e=.returned (.iface 291 (.agg ((l.getD (n-1) default).cells).toArray))/\aO w' b [j,k,m,o,p,r,.slice A (n-1) c] 253 (0,0)/\cN.ce.aM 291 32 w' aQ (τ.ai A) A c (l.take (n-1))/\Mod (b::τ.ai A) w w'):=by
 have s:=b4 a.lt;have C:=d.lt;have B:=a.bv.M;have F:=a.bv.1;refine bT (n:=23) func231 Z Z Z ?_;refine ar<|aG Z<|aC Z<|κ (cB Z)<|a1 Z d r5 Z<|aG Z<|aC Z<|vm Z<|κ (bY underlying251 Z)<|κ (hi Z Z dK)<|κ (bD (((n:Int)-1).toNat) underlying251 rk Z Z (a.bv.Y (aL (((n:Int)-1).toNat))) GE GE)<|κ (aq Z (τ.aF.G Js (a.bv.O (aL (((n:Int)-1).toNat))) (cg (l:=l) (u:=default) GE) UB rk))<|cy ak3 Z λ K D i H f=>?_;have v:=(Mod.U (b::τ.ai A) w).trans (Mod.O i);refine ck Z Z f Z rk Z Z λ L h f=>?_;have t:=v.Y h (λ q I=> .inr (by have:=bah.1 I;omega));refine ax<|aC Z<|vm Z<|vm Z<|κ (bY underlying251 Z)<|κ (hi Z Z dK)<|κ (afy (n-1) (n-1) underlying251 rk Z Z GE GE Z)<|κ (cB Z)<|?_;have d:=(d.O i).H h aJ;refine ep Z Z d Z ak2 Z Z λ N g d=>?_;have z:=t.Y g wx;refine ax<|ar<|?_;have f:=f.H g aJ;refine κ (aq Z (f.all UB rk))<|κ (WR (λ w=>GT) Z)<|bc Z<|b3 Z Z<|?_;have a:=((a.O i).H h (bV s)).H g (bM x);exact⟨by rw[show((n:Int)-1).toNat=n-1 by omega];rfl,d,τ.aM.cut a τ.O (n-1) GE,z⟩
theorem aRL(b:Nat)(A:Option Addr)(c aQ:Nat)(l:List cN)(f g i j k m:Value)(x:cN)(w:World)(t:aO w b [f,g,i,j,k,m,.slice A l.length c] 253 (0,0))(M:cN.ce.aM 291 32 w aQ (τ.ai A) A c (l))(u:∀ y∈l,y.ok)(z:∀ q∈τ.ai A,q=b->False)(B:x.ok)(S:l.length<=1000000)(D:aQ<=w.heap.size):
  Calls prog 201 #[.iface 289 (.pointer (some ⟨b,6,none⟩)),.iface 291 (.agg #[J x.cell.x,J x.cell.y,J x.far,J x.all])] w (λ e w'=>∃ a v,e=.returned (.tuple #[])/\aO w' b [f,g,i,j,k,m,.slice a (dh.push cN.all l x).length v] 253 (0,0)/\cN.ce.aM 291 32 w' aQ (τ.ai a) a v (dh.push cN.all l x)/\(∀ q∈τ.ai a,q∈τ.ai A\/w.heap.size<=q)/\Mod (b::τ.ai A) w w'):=by
 have T:=t.lt;refine bT (n:=12) func201 Z Z Z ?_;refine aC Z<|vm Z<|dp aDP Z Z (by unfold F6;kernel_rfl) Z ((aRN b A c aQ l f g i j k m x _ t M u z B GE D).mono ?_);rintro e V ⟨r,c1,rfl,d,p,o,G⟩;refine cR ?_;have O:=(Mod.U (b::τ.ai A) w).Y G (λ q I=> .inl I);have C:(l++ [x]).length=l.length+1:=by rw[bam];rfl
 have L:∀ q∈τ.ai r,q=b->False:=λ q I e=>(o q I).elim (λ h=>z q h e) (λ h=>GE);have F:∀ y∈l++ [x],y.ok:=λ y H=>(bas.1 H).elim (u y) λ h=>by rw[bah.1 h];exact B
 refine ax<|rg<|vm Z<|vm Z<|dp PB Z Z (CV (e:=251) GT (d.one r5 Z)) Z ((Sj _ ((l++ [x]).length) _ _).mono ?_);rintro e R ⟨rfl,s⟩;refine cR ?_;have E:=O.trans (Mod.O s);refine κ (hi Z Z dK)<|?_;have p:=p.O s;have d:=d.O s;refine ca aDQ Z Z (((show Calls _ _ #[_,J (((l++ [x]).length:Int)-1)] _ _ from(by rw[show((l++ [x]).length:Int)-1=(l.length:Int) by rw[C];omega];exact aRO b r (l++ [x]).length c1 aQ (l++ [x]) f g i j k m l.length _ d p F rfl L GE))).mono ?_);rintro e U ⟨rfl,P,Q,K⟩;refine cR ?_;have N:=E.Y K (λ q I=>(o q I).imp (bav _) λ h=>GE);refine nl<|ne<|cJ .nil<|?_;exact⟨r,c1,Z,by rw[show(dh.push cN.all l x).length=(l++ [x]).length by rw[dh.Rx,C]];exact P,Q,o,N⟩
theorem aRK(b:Nat)(A:Option Addr)(n c aQ:Nat)(l:List cN)(d f g h i j:Value)(w:World)(a:aO w b [d,f,g,h,i,j,.slice A n c] 253 (0,0))(m:cN.ce.aM 291 32 w aQ (τ.ai A) A c (l))(u:∀ y∈l,y.ok)(K:l.length=n)(p:∀ q∈τ.ai A,q=b->False)(r:0<n)(B:n<=1000000):
  Calls prog 203 #[.iface 289 (.pointer (some ⟨b,6,none⟩))] w (λ e w'=>e=.returned (.iface 291 (.agg (l.getD 0 default).cells.toArray))/\aO w' b [d,f,g,h,i,j,.slice A (dh.qU cN.all l).length c] 253 (0,0)/\cN.ce.aM 291 32 w' aQ (τ.ai A) A c (dh.qU cN.all l)/\Mod (b::τ.ai A) w w'):=by
 refine bT (n:=15) func203 Z Z Z ?_;refine ar<|aG Z<|aC Z<|dp PB Z Z (CV (e:=251) GT (a.one r5 Z)) Z ((Sj _ n _ _).mono ?_);rintro e U ⟨rfl,o⟩;refine cR ?_;have G:=(Mod.U (b::τ.ai A) w).trans (Mod.O o);refine κ (hi Z Z dK)<|aG Z<|aC Z<|vm Z<|?_;have a:=a.O o;have m:=m.O o;refine dp UD Z Z (CV (e:=251) GT (a.one r5 Z)) Z ((Yi _ _ _ _ l 0 ((n:Int)-1) 0 (n-1) _ m u GE GE GE GE GE).mono ?_);rintro e P ⟨rfl,D,t⟩;refine cR ?_;have L:=G.Y t (λ q I=> .inl (bav _ I));have s:∀ y∈dh.swp l 0 (n-1),y.ok:=λ y k=>u y ((dh.HP GE GE).subset k);have S:(dh.swp l 0 (n-1)).length=n:=by rw[dh.oT];omega
 refine ax<|aC Z<|vm Z<|?_;have a:=a.H t (λ I=>p _ I rfl);refine ca aDR Z Z (((show Calls _ _ #[_,J 0,J ((n:Int)-1)] _ _ from(by rw[show(n:Int)-1=((n-1:Nat):Int) by omega];exact aRJ b A n c aQ (dh.swp l 0 (n-1)) d f g h i j 0 (n-1) _ a D s GE p GE GE B))).mono ?_);rintro e Q ⟨⟨R,rfl⟩,H,z,x⟩;refine cR ?_;have N:=L.Y x (λ q I=> .inl (bav _ I));have C:∀ y∈dh.lX cN.all (n-1) (dh.swp l 0 (n-1)) 0,y.ok:=λ y k=>s y ((dh.aki _ _ _ _ (bao _) GE GE).subset k);have T:(dh.lX cN.all (n-1) (dh.swp l 0 (n-1)) 0).length=n:=by rw[dh.akh _ _ _ _ (bao _)];omega
 refine ax<|aC Z<|dp aDS Z Z (by unfold F6;kernel_rfl) Z ((aRM b A n c aQ (dh.lX cN.all (n-1) (dh.swp l 0 (n-1)) 0) d f g h i j _ H z C GE p r).mono ?_);rintro e O ⟨rfl,E,F,v⟩;refine cR ?_;have M:=N.Y v (λ q I=> .inl I);refine bc Z<|b3 Z Z<|?_;subst K;exact⟨by rw[<-dh.arw (key:=cN.all) r];rfl,by rw[dh.Ns];exact E,F,M⟩
section
variable{f:aE}{c:aw}
def sJ(f:aE)(c:aw):Int:=if f.dF c then xq (f.H c)else 0
def ajk(b:f.br=0)(a:f.dF c=true):(yF (f.H c)== 0)=f.ground c/\(f.ground c=true->xq (f.H c)=f.iz c):=by
 obtain⟨_,_,_,_,_,g6⟩:=aE.hB b;have d:=g6 (f.H c) (by unfold aE.H;exact gZ (aE.rV b a).1);unfold aE.ground;rw[a];have:f.H c=0\/f.H c=1\/f.H c=2\/f.H c=3:=GE
 unfold aE.iz yF xq;rcases this with h|h|h|h<;>rw[h]<;>simp
def aMr(b:f.br=0)(h:¬f.eS c=0):sJ f c=0/\f.ground c=false:=by
 have a:f.dF c=false:=by
  cases a:f.dF c with
  | false=>rfl
  | true=>exact absurd (aE.C b a).1 h
 unfold sJ aE.ground;rw[a];exact⟨Z,Z⟩
def aMq(b:f.br=0)(h:f.eS c=0):sJ f c=xq (f.p1 c)/\f.ground c=(yF (f.p1 c)== 0):=by
 have a:=Z4 b h;rw[(aE.C b a).2];unfold sJ;rw[a];exact⟨Z,(ajk b a).1.symm⟩
def arl(b:f.br=0)(h:f.ground c=true):sJ f c=f.iz c:=by
 have a:=aE.K h;unfold sJ;rw[bap a];exact(ajk b a).2 h
theorem aEl(p:Int)(w:World):
  Calls prog 193 #[J p] w (λ e w'=>e=.returned (.tuple #[J (xq p),J (yF p)])/\Ext w w'):=by
 refine bT (n:=12) func193 Z Z Z ?_;refine ar<|va Z<|aG Z<|av<|aC Z<|ax<|bp<|av<|ar<|κ (beq Z Z)<|aG Z<|?_;refine j1 Z (λ c=>?_) (λ c=>?_)
 .have i:(p == 0)=true:=by simpa using c
  refine bf<|?_;refine j1 Z (λ b=>?_) (λ b=>?_)
  .have l:(p == 0)=true:=by simpa using b
   refine ar<|va Z<|bc Z<|dO<|bR<|hE Z Z Z<|?_;exact⟨by simp_all[xq,yF,rG],(Ext.U w)⟩
  .have m:(p == 0)=false:=by simpa using b
   refine ar<|κ (beq Z Z)<|aG Z<|?_;refine j1 Z (λ f=>?_) (λ f=>?_)
   .have o:(p == 2)=true:=by simpa using f
    refine ar<|va Z<|bc Z<|dO<|bR<|hE Z Z Z<|?_;exact⟨by simp_all[xq,yF,rG],(Ext.U w)⟩
   .have q:(p == 2)=false:=by simpa using f
    refine ar<|κ (beq Z Z)<|aG Z<|?_;refine j1 Z (λ d=>?_) (λ d=>?_)
    .have r:(p == 1)=true:=by simpa using d
     refine ar<|va Z<|bc Z<|dO<|bR<|hE Z Z Z<|?_;exact⟨by simp_all[xq,yF,rG],(Ext.U w)⟩
    .have s:(p == 1)=false:=by simpa using d
     refine dP<|bK<|a7<|ar<|va Z<|bc Z<|hE Z Z Z<|?_;exact⟨by simp_all[xq,yF,rG],(Ext.U w)⟩
 .have t:(p == 0)=false:=by simpa using c
  refine rg<|κ (beq Z Z)<|aG Z<|?_;refine j1 Z (λ a=>?_) (λ a=>?_)
  .have u:(p == 3)=true:=by simpa using a
   refine ar<|va Z<|bc Z<|dO<|bR<|hE Z Z Z<|?_;exact⟨by simp_all[xq,yF,rG],(Ext.U w)⟩
  .have v:(p == 3)=false:=by simpa using a
   refine ar<|κ (beq Z Z)<|aG Z<|?_;refine j1 Z (λ h=>?_) (λ h=>?_)
   .have x:(p == 2)=true:=by simpa using h
    refine ar<|va Z<|bc Z<|dO<|bR<|hE Z Z Z<|?_;exact⟨by simp_all[xq,yF,rG],(Ext.U w)⟩
   .have y:(p == 2)=false:=by simpa using h
    refine ar<|κ (beq Z Z)<|aG Z<|?_;refine j1 Z (λ g=>?_) (λ g=>?_)
    .have j:(p == 1)=true:=by simpa using g
     refine ar<|va Z<|bc Z<|dO<|bR<|hE Z Z Z<|?_;exact⟨by simp_all[xq,yF,rG],(Ext.U w)⟩
    .have k:(p == 1)=false:=by simpa using g
     refine dP<|bK<|a7<|ar<|va Z<|bc Z<|hE Z Z Z<|?_;exact⟨by simp_all[xq,yF,rG],(Ext.U w)⟩
theorem uY(i:World)(f:aE)(P F A:Option Addr)(h o c b:Nat)(far:List Int)(l:List cN)(g:aw)(p:aw)(w:World)(q:Ext i w)(m:f.br=0)(u:bN.aF 8 i P h f.G)(d:aO w b [J f.O,J f.high,.slice P f.G.length h,J g.x,J g.y,.slice F far.length o,.slice A l.length c] 253 (0,0))(y: -500<=p.x/\p.x<=500/\-500<=p.y/\p.y<=500):
  Calls prog 162 #[.pointer (bd b),.agg #[J p.x,J p.y]] w (λ e w'=>e=.returned (J (p.y*f.O+p.x))/\Ext w w'):=by
 obtain⟨g1,g2,g3,g4,g5,g6⟩:=aE.hB m;refine bT (n:=16) func162 Z Z Z ?_;refine cZ Z Z λ t r a s j=>?_;have v:=Φ q a;refine aG Z<|av<|?_;refine c_ [(1,0),(6,0),(9,0)] [0,1,2,3,4,5,6,7,8,9,10,11] ?_;refine aA Z (λ _=>aj fk Z)<|cr Z Z j aH Z<|bt Z Z<|aA Z (λ _=>cB Z)<|aA Z (λ _=>aj ak4 Z)<|aA Z (λ _=>aj s8 Z)<|?_;have d:=d.O a;refine cr Z Z d aH Z<|aA Z (λ _=>mD Z Z (mb ((by have:=bbP (show p.y<=500 by omega) g2 GE GE;have:=bbP (show -p.y<=500 by omega) g2 GE GE;rw[Int.neg_mul]at this;omega))))<|aA Z (λ _=>aj fj Z)<|cr Z Z j aH Z<|aA Z (λ _=>bad Z Z (mb ((by have:=bbP (show p.y<=500 by omega) g2 GE GE;have:=bbP (show -p.y<=500 by omega) g2 GE GE;rw[Int.neg_mul]at this;omega))))<|aA Z (λ _=>fh Z)<|fn λ x k=>?_;refine a7<|rt<|b3 Z Z<|?_;exact⟨Z,Φ a k⟩
theorem ae2(q:World)(f:aE)(P F A:Option Addr)(g t c b:Nat)(far:List Int)(l:List cN)(m:aw)(p:aw)(w:World)(u:Ext q w)(j:f.br=0)(r:bN.aF 8 q P g f.G)(h:aO w b [J f.O,J f.high,.slice P f.G.length g,J m.x,J m.y,.slice F far.length t,.slice A l.length c] 253 (0,0)):
  Calls prog 160 #[.pointer (bd b),.agg #[J p.x,J p.y]] w (λ e w'=>e=.returned (.tuple #[J (sJ f p),.bool (f.ground p)])/\Ext w w'):=by
 obtain⟨g1,g2,g3,g4,g5,g6⟩:=aE.hB j;refine bT (n:=28) func160 Z Z Z ?_;refine cZ Z Z λ C y d B v=>?_;have o:=Φ u d;refine va Z<|aG Z<|av<|?_;refine c_ [(3,0),(4,0),(5,0)] [0,1,2,3,4,5,6,7,8,9,10] ?_;refine bt Z Z<|aA Z (λ _=>cB Z)<|aA Z (λ _=>aj ak4 Z)<|?_;have h:=h.O d;refine dE Z (λ _ x=>aq Z ((h.O x).Y [J f.O,J f.high,.slice P f.G.length g] gA gB Z))<|dE Z (λ _ x=>aq Z ((v.O x).all bS bq))<|nQ Z Z uq Z (λ _ x=>vW f p _ _ _ (r.be (Φ o x))) Z<|bt Z Z<|aA Z (λ _=>ex Z Z)<|aA Z (λ _=>ex Z Z)<|aA Z (λ _=>fh Z)<|aA Z (λ _=>fh Z)<|fn λ D i=>?_;have z:=Φ o i;refine a7<|av<|aC Z<|cV Z Z<|ax<|?_;refine fr Z (λ k=>?_) (λ k=>?_)
 .have a:=aMr j k;refine ar<|va Z<|bc Z<|bR<|hE Z Z Z<|?_;exact⟨by rw[a.1,a.2];rfl,Φ d i⟩
 .have a:=aMq j k;refine bf<|aC Z<|cf aDT Z (aEl (f.p1 p) _) λ E s=>?_;refine vm Z<|bL Z Z<|bL Z Z<|va Z<|aG Z<|aC Z<|vm Z<|κ (beq Z Z)<|va Z<|bc Z<|hE Z Z Z<|?_;exact⟨by rw[a.1,a.2];rfl,Φ (Φ d i) s⟩
theorem arD(p:aw)(w:World)(s: -100000<=p.x/\p.x<=100000/\-100000<=p.y/\p.y<=100000):
  Calls prog 161 #[.agg #[J p.x,J p.y]] w (λ e w'=>e=.returned (.agg #[J p.x,J (p.y-1),J (p.x-1),J p.y,J (p.x+1),J p.y,J p.x,J (p.y+1)])/\Ext w w'):=by
 refine bT (n:=28) func161 Z Z Z ?_;refine cZ Z Z λ l i f k a=>?_;have r:=a.lt;refine cy aDU Z λ m j c o b=>?_;have g:=Φ f c;refine ax<|ar<|κ (aj fj Z)<|?_;have a:=a.O c;refine a1 Z a aH Z<|κ (aj fk Z)<|a1 Z a aH Z<|κ (hi Z Z dK)<|κ (v:=.agg #[J p.x,J (p.y-1)]) (ee Z)<|κ (aj fj Z)<|a1 Z a aH Z<|κ (hi Z Z dK)<|κ (aj fk Z)<|a1 Z a aH Z<|κ (v:=.agg #[J (p.x-1),J p.y]) (ee Z)<|κ (aj fj Z)<|a1 Z a aH Z<|fb Z Z<|κ (aj fk Z)<|a1 Z a aH Z<|κ (v:=.agg #[J (p.x+1),J p.y]) (ee Z)<|κ (aj fj Z)<|a1 Z a aH Z<|κ (aj fk Z)<|a1 Z a aH Z<|fb Z Z<|κ (v:=.agg #[J p.x,J (p.y+1)]) (ee Z)<|κ (v:=.agg #[J p.x,J (p.y-1),J (p.x-1),J p.y,J (p.x+1),J p.y,J p.x,J (p.y+1)]) (ee Z)<|?_;refine ck Z Z b Z ak5 Z Z λ q d b=>?_;have h:=Ext.H g d bn;refine tC<|cJ (.cell Z (b.all aDV ak5) .nil)<|?_;exact⟨Z,h⟩
end
theorem ae4(i:World)(f:aE)(P F A:Option Addr)(r B c b:Nat)(far:List Int)(l:List cN)(a:aw)(p:aw)(d:Int)(w:World)(kU:Ext i w)(W:f.br=0)(cp:bN.aF 8 i P r f.G)(g:aO w b [J f.O,J f.high,.slice P f.G.length r,J a.x,J a.y,.slice F far.length B,.slice A l.length c] 253 (0,0))(E:i.heap.size<=b)(s:cN.ce.aM 291 32 w i.heap.size (τ.ai A) A c l)(D:∀ q∈τ.ai A,q=b->False)(S:∀ y∈l,y.ok)(N:l.length<=1000000)(hp: -500<=p.x/\p.x<=500/\-500<=p.y/\p.y<=500)(aK: -500<=a.x/\a.x<=500/\-500<=a.y/\a.y<=500)(hd:0<=d/\d<=100000):
  Calls prog 191 #[.pointer (bd b),.agg #[J p.x,J p.y],J d] w (λ e w'=>∃ j K,e=.returned (.tuple #[])/\aO w' b [J f.O,J f.high,.slice P f.G.length r,J a.x,J a.y,.slice F far.length B,.slice j ((dh.push cN.all l ⟨p,d,d+aE.mE a p⟩).length) K] 253 (0,0)/\cN.ce.aM 291 32 w' i.heap.size (τ.ai j) j K (dh.push cN.all l ⟨p,d,d+aE.mE a p⟩)/\(∀ q∈τ.ai j,q=b->False)/\(∀ q∈τ.ai j,q∈τ.ai A\/w.heap.size<=q)/\Mod (b::τ.ai A) w w'):=by
 have Xe:=g.lt;obtain⟨g1,g2,g3,g4,g5,g6⟩:=aE.hB W;have aa:=k0 (a.x-p.x);have ab:=k0 (a.y-p.y);refine bT (n:=32) func191 Z Z Z ?_;refine cZ Z Z λ ch a6 z cY o=>?_;have U:=(Mod.U (b::τ.ai A) w).trans (Mod.O z);have gp:=o.lt;refine ax<|av<|?_;refine c_ [(0,0),(4,0),(5,0)] [0,1,2,3,4,5,6,7,8,9,10,11,12] ?_;refine dE Z (λ _ x=>aq Z ((o.O x).all bS bq))<|bt Z Z<|aA Z (λ _=>cB Z)<|aA Z (λ _=>aj ak6 Z)<|?_;have g:=g.O z;refine dE Z (λ _ x=>aq Z ((g.O x).Y [J a.x,J a.y] bS bq Z))<|nQ Z Z ak7 Z (λ _ x=>air p a _ GE GE) Z<|bt Z Z<|aA Z (λ _=>ex Z Z)<|aA Z (λ _=>ex Z Z)<|aA Z (λ _=>ex Z Z)<|aA Z (λ _=>fh Z)<|aA Z (λ _=>fh Z)<|aA Z (λ _=>fh Z)<|fn λ dr k=>?_;have:=k.size;have R:=U.trans (Mod.O k);refine a7<|?_;refine c_ [(4,0),(12,3)] [0,1,2,3,4,5,6,7,8,9,10,11,12] ?_;refine bt Z Z<|aA Z (λ _=>cB Z)<|aA Z (λ _=>aj I9 Z)<|aA Z (λ _=>WR (λ w=>GT) Z)<|?_;have o:=o.O k;refine dE Z (λ _ x=>aq Z ((o.O x).all bS bq))<|bt Z Z<|bt Z Z<|bt Z Z<|aA Z (λ _=>mD Z Z dK)<|aA Z (λ _=>bad Z Z dK)<|p5 (v:=.agg #[J p.x,J p.y,J d,J (d+(2*(de (a.x-p.x)+de (a.y-p.y))))]) Z Z (λ _=>kg Z GT) Z<|aA Z (λ _=>WR (λ w=>GT) Z)<|?_;have s:=s.O (Φ z k);have g:=g.O k;refine en Z Z Z λ sM m Q V=>ca aDW Z Z ((aRL b A c i.heap.size l (J f.O) (J f.high) (.slice P f.G.length r) (J a.x) (J a.y) (.slice F far.length B) ((⟨⟨p.x,p.y⟩,d,d+(2*(de (a.x-p.x)+de (a.y-p.y)))⟩:cN)) _ (g.O m) (s.O m) S D ⟨b7.2 (by dsimp only;omega),b7.2 (by dsimp only;omega),b7.2 (by dsimp only;omega),b7.2 (by dsimp only;omega)⟩ N (by have:=m.size;omega)).mono ?_);rintro e fx ⟨M,O,rfl,t,u,G,L⟩;refine⟨_,Z,V _ _ ?_⟩;have:=m.size;have X:=R.trans (Mod.O m);have T:=X.Y L (λ q I=> .inl I);refine fn λ C7 C=>?_;have Y:=T.trans (Mod.O C);refine ne<|cJ .nil<|?_;have u:=u.O C;have t:=t.O C;exact⟨M,O,Z,t,u,λ q I E=>by exfalso;(exact baC (G q I) (λ H=>by (exact D q H E)) (λ H=>GE)),λ q I=>(G q I).imp id λ h=>GE,Y⟩
def aMQ(c:aw)(w:World):(Instr.index 248 (.agg #[J c.x,J (c.y-1),J (c.x-1),J c.y,J (c.x+1),J c.y,J c.x,J (c.y+1)]) (J 0)).run prog w=.ok (.agg #[J c.x,J (c.y-1)]) w:=GT
def aMR(c:aw)(w:World):(Instr.index 248 (.agg #[J c.x,J (c.y-1),J (c.x-1),J c.y,J (c.x+1),J c.y,J c.x,J (c.y+1)]) (J 1)).run prog w=.ok (.agg #[J (c.x-1),J c.y]) w:=GT
def aMS(c:aw)(w:World):(Instr.index 248 (.agg #[J c.x,J (c.y-1),J (c.x-1),J c.y,J (c.x+1),J c.y,J c.x,J (c.y+1)]) (J 2)).run prog w=.ok (.agg #[J (c.x+1),J c.y]) w:=GT
def aMT(c:aw)(w:World):(Instr.index 248 (.agg #[J c.x,J (c.y-1),J (c.x-1),J c.y,J (c.x+1),J c.y,J c.x,J (c.y+1)]) (J 3)).run prog w=.ok (.agg #[J c.x,J (c.y+1)]) w:=GT
def arE(c:aw)(j:Nat)(b:j<4){a:aw}(h:(dG c).getD j default=a)(w:World):(Instr.index 248 (.agg #[J c.x,J (c.y-1),J (c.x-1),J c.y,J (c.x+1),J c.y,J c.x,J (c.y+1)]) (J (j:Int))).run prog w=.ok (.agg #[J a.x,J a.y]) w:=by
 subst h;have:j=0\/j=1\/j=2\/j=3:=GE
 rcases this with rfl|rfl|rfl|rfl
 .exact aMQ c w
 .exact aMR c w
 .exact aMS c w
 .exact aMT c w
def asJ{c:aw}{j:Nat}(a:j<4):c.x-1<=((dG c).getD j default).x/\((dG c).getD j default).x<=c.x+1/\c.y-1<=((dG c).getD j default).y/\((dG c).getD j default).y<=c.y+1:=by
 have:j=0\/j=1\/j=2\/j=3:=GE
 rcases this with rfl|rfl|rfl|rfl<;>simp[dG]<;>omega
theorem arC(H:World)(f:aE)(P F A:Option Addr)(O D c b:Nat)(far:List Int)(l:List cN)(g:aw)(a eb:aw)(w:World)(kU:Ext H w)(o:f.br=0)(cp:bN.aF 8 H P O f.G)(bg:aO w b [J f.O,J f.high,.slice P f.G.length O,J g.x,J g.y,.slice F far.length D,.slice A l.length c] 253 (0,0))(U:H.heap.size<=b)(c9:bN.aM 3 8 w H.heap.size (τ.ai F) F D far)(F0:cN.ce.aM 291 32 w H.heap.size (τ.ai A) A c l)(ay:∀ q∈τ.ai F,q=b->False)(Vw:∀ q∈τ.ai A,q=b->False)(am:∀ q∈τ.ai A,q∈τ.ai F->False)(hs:vF f a g far l eb [])(hv:z1 f g far)(Y:f.dF g=true)(ao:l.length+5*und far<=20000):
  Calls prog 192 #[.pointer (bd b)] w (λ e w'=>∃ UL b' cn uM,e=.returned (.tuple #[])/\aO w' b [J f.O,J f.high,.slice P f.G.length O,J g.x,J g.y,.slice F UL.length D,.slice b' ((uM:List cN).length) cn] 253 (0,0)/\bN.aM 3 8 w' H.heap.size (τ.ai F) F D UL/\rT f a g UL/\Mod (b::(τ.ai F++τ.ai A)) w w'):=by
 obtain⟨g1,g2,g3,g4,g5,g6⟩:=aE.hB o;have Hp:∀ q∈b::(τ.ai F++τ.ai A),H.heap.size<=q:=λ q I=>(baB.1 I).elim (λ h=>GE) λ h=>(bas.1 h).elim (λ h=>(c9.lt q h).1) λ h=>(F0.lt q h).1;obtain⟨_,_,a0,a2,a3,a4⟩:=aE.idx o Y;refine bT (n:=108) func192 Z Z Z ?_;refine aC Z<|vm Z<|κ (cB Z)<|κ (aj ak6 Z)<|κ (aq Z (bg.Y [J g.x,J g.y] bS bq Z))<|cf pn Z (uY H f P F A O D c b far l g g _ (Ext.H kU (Mod.U (b::(τ.ai F++τ.ai A)) w) Hp) o cp bg (by first|omega|(dsimp only;omega))) λ ch fL=>?_;have dL:=(Mod.U (b::(τ.ai F++τ.ai A)) w).trans (Mod.O fL);refine aG Z<|bp<|?_;have bg:=bg.O fL;have c9:=c9.O fL;have F0:=F0.O fL;refine di (λ bJ bH aI=>∃ m:List Int,∃ p:List cN,∃ E:Option Addr,∃ c1:Nat,∃ fo:aw,bH=[(0,.pointer (bd b)),(2,J (g.y*f.O+g.x))]/\bJ=(p.length+5*und m)/\Mod (b::(τ.ai F++τ.ai A)) w aI/\aO aI b [J f.O,J f.high,.slice P f.G.length O,J g.x,J g.y,.slice F m.length D,.slice E p.length c1] 253 (0,0)/\bN.aM 3 8 aI H.heap.size (τ.ai F) F D m/\cN.ce.aM 291 32 aI H.heap.size (τ.ai E) E c1 p/\(vF f a g m p fo [])/\(z1 f g m)/\(p.length+5*und m<=20000)/\(∀ q∈τ.ai E,q∈τ.ai A\/w.heap.size<=q)/\(∀ q∈τ.ai F,q=b->False)/\(∀ q∈τ.ai E,q=b->False)/\(∀ q∈τ.ai E,q∈τ.ai F->False)) _ _ ⟨far,l,A,c,eb,Z,Z,dL,bg,c9,F0,hs,hv,ao,λ q I=> .inl I,ay,Vw,am⟩ (qW Z) ?_;rintro bi be zt ⟨m,p,E,c1,fo,rfl,rfl,kN,K,t,W,z,rz,EB,ae,Po,aa,Um⟩;have:=kN.size;have aZ:=K.lt;have NJ:=b4 t.lt;have HV:=b4 W.lt;obtain⟨a5,a6,a8⟩:=lC o z.len Y;refine av<|av<|?_;rcases aiw (decide (0<(p.length:Int))) ((decide (f.aD m g<0)) || (decide ((p.getD 0 default).all<=f.aD m g)))with G|⟨G,T⟩|⟨G,T⟩
 .have ab:=aMt z rz (by have tk:=bcV G;omega);refine c_ [(3,0),(4,0),(10,0),(13,0),(19,0),(22,0),(26,0),(29,0)] [0,1,2,3,4,5,6,7,8,9,10,11,12,13,14,15,16,17,18,19,20,21,22,23,24,25,26,27,28,29,30,31,32] ?_;refine bt Z Z<|aA Z (λ _=>cB Z)<|aA Z (λ _=>aj I9 Z)<|cr Z Z K r5 Z<|nQ Z Z PB Z (λ _ x=>Sj _ p.length _ _) Z<|aA Z (λ _=>gy Z Z)<|aA Z (λ _=>fW (iJ Z G))<|d' Z Z<|d' Z Z<|d' Z Z<|lB Z Z<|d' Z Z<|d' Z Z<|lB Z Z<|d' Z Z<|d' Z Z<|uu Z Z Z Z Z Z<|uu Z Z Z Z Z Z<|uu Z Z Z Z Z Z<|uu Z Z Z Z Z Z<|uu Z Z Z Z Z Z<|uu Z Z Z Z Z Z<|uu Z Z Z Z Z Z<|uu Z Z Z Z Z Z<|?_;refine uu Z Z Z Z Z Z<|uu Z Z Z Z Z Z<|uu Z Z Z Z Z Z<|uu Z Z Z Z Z Z<|uu Z Z Z Z Z Z<|uu Z Z Z Z Z Z<|uu Z Z Z Z Z Z<|d' Z Z<|aA Z (λ _=>uZ Z Z)<|fn λ C6 q1=>?_;have o2:=kN.trans (Mod.O q1);refine a7<|ef Z<|cI<|cH<|cU<|cG<|ne<|cJ .nil<|?_;have W:=W.O q1;have t:=t.O q1;have K:=K.O q1;exact⟨m,E,c1,p,Z,K,t,ab,o2⟩
 .have Cs:0<p.length:=by simpa using G
  obtain⟨k,JI⟩:∃ k,p.getD 0 default=k:=⟨_,rfl⟩;have V6:k∈p:=by rw[<-JI];exact gZ Cs
  obtain⟨aQ,aR,aS,aT,aU,aV,aW,aM,aN⟩:=z.node o Y V6;have EK:=aE.K (z.all k V6).2;obtain⟨a9,ba,bb⟩:=lC o z.len EK;have uF:f.aD m g<0\/k.all<=f.aD m g:=by rw[JI]at T;rw[baY,baF,baF]at T;exact T
  refine c_ [(3,0),(4,0),(10,0),(13,0),(19,0),(22,0),(26,0),(29,0)] [0,1,2,3,4,5,6,7,8,9,10,11,12,13,14,15,16,17,18,19,20,21,22,23,24,25,26,27,28,29,30,31,32] ?_;have Ew:=(lC o z.len Y).1;refine bt Z Z<|aA Z (λ _=>cB Z)<|aA Z (λ _=>aj I9 Z)<|cr Z Z K r5 Z<|nQ Z Z PB Z (λ _ x=>Sj _ p.length _ _) Z<|aA Z (λ _=>gy Z Z)<|aA Z (λ _=>fW (iJ Z G))<|ft Z Z Z<|bC Z Z (λ d _=>cB Z)<|bC Z Z (λ d _=>aj rm Z)<|cu Z Z (λ d _ x=>aq Z ((K.O x).one et Z))<|ft Z Z Z<|bC Z Z (λ d _=>bD ((g.y*f.O+g.x).toNat) underlying22 cO Z Z (t.bv.Y (aL ((g.y*f.O+g.x).toNat) GE)) (by (try simp only[cb]at d);omega) GE)<|cu Z Z (λ d _ x=>aq Z (τ.aF.H ew ((t.O x).bv.O (aL ((g.y*f.O+g.x).toNat) GE)) (Ek o z.len Y) Z aH))<|bC Z Z (λ d _=>blt Z Z)<|ft Z Z Z<|ft Z Z Z<|bC Z Z (λ d _=>cB (gt d Z))<|bC Z Z (λ d _=>aj I9 (gt d Z))<|cu Z Z (λ d _ x=>aq (gt d Z) ((K.O x).one r5 Z))<|bC Z Z (λ d _=>bD 0 underlying251 rk (gt d Z) Z (W.bv.Y (aL 0 (by (try simp only[cb]at d);omega))) Z (by (try simp only[cb]at d);omega))<|bC Z Z (λ d _=>aj UA (gt d Z))<|cu Z Z (λ d _ x=>aq (gt d Z) (τ.aF.C Js ((W.O x).bv.O (aL 0 (by (try simp only[cb]at d);omega))) 3 (cg (l:=p) (u:=default) (by (try simp only[cb]at d);omega)) Z aH))<|ft Z Z Z<|?_;refine bC Z Z (λ d _=>cB (gt d Z))<|bC Z Z (λ d _=>aj rm (gt d Z))<|cu Z Z (λ d _ x=>aq (gt d Z) ((K.O x).one et Z))<|ft Z Z Z<|bC Z Z (λ d _=>bD ((g.y*f.O+g.x).toNat) underlying22 cO (gt d Z) (gt d Z) (t.bv.Y (aL ((g.y*f.O+g.x).toNat) GE)) (by (try simp only[cb]at d);omega) GE)<|cu Z Z (λ d _ x=>aq (gt d Z) (τ.aF.H ew ((t.O x).bv.O (aL ((g.y*f.O+g.x).toNat) GE)) (Ek o z.len Y) Z aH))<|bC Z Z (λ d _=>ble (gt d Z) (gt d Z))<|bC Z Z (λ d _=>dS Z Z Z Z)<|aA Z (λ _=>pH Z (iJ Z T))<|fn λ Fl iP=>?_;have:=iP.size;have n4:=kN.trans (Mod.O iP);refine a7<|fB Z<|bf<|bp<|aC Z<|κ (cB Z)<|κ (aj I9 Z)<|κ (WR (λ w=>GT) Z)<|?_;have W:=W.O iP;have K:=K.O iP;have ag:=aRK b E p.length c1 H.heap.size p (J f.O) (J f.high) (.slice P f.G.length O) (J g.x) (J g.y) (.slice F m.length D) _ K W (λ y aP=>(z.node o Y aP).2.2.2.2.2.2.2.2) rfl aa Cs GE;rw[JI]at ag;refine ca aDX Z Z ((ag).mono ?_);rintro e mn ⟨rfl,N,Ln,xJ⟩;refine cR ?_;have:=xJ.size;have eM:=n4.Y xJ (λ q I=>(baB.1 I).elim (λ h=> .inl (by rw[h];exact baZ)) (λ h=>(ae q h).imp (λ h=>bav _ (bd1 _ h)) id));refine κ (atp (λ w=>GT) Z)<|cy ak3 Z λ wM z_ cK bk s=>?_;have l8:=eM.trans (Mod.O cK);refine ck Z Z s Z rk Z Z λ pM kD s=>?_;have iE:=l8.Y kD (λ q I=> .inr (by have:=bah.1 I;omega));refine ax<|av<|av<|?_;refine c_ [(3,0),(6,0),(7,0),(9,0)] [0,1,2,3,4,5,6,7,8,9,10] ?_;refine bt Z Z<|aA Z (λ _=>cB Z)<|aA Z (λ _=>aj rm Z)<|?_;have N:=(N.O cK).H kD aJ;refine cr Z Z N et Z<|bt Z Z<|aA Z (λ _=>aj abu Z)<|dE Z (λ _ x=>aq Z ((s.O x).Y [J k.cell.x,J k.cell.y] bS bq Z))<|nQ Z Z pn Z (λ _ x=>uY H f P F E O D c1 b m (dh.qU cN.all p) g k.cell _ (Φ (Ext.H kU iE Hp) x) o cp (N.O x) (by first|omega|(dsimp only;omega))) Z<|?_;have t:=(((t.O iP).H xJ (λ q I h=>(baB.1 h).elim (λ h=>Po q I h) (λ h=>Um q h I))).O cK).H kD (bV NJ);refine aA Z (λ _=>bD ((k.cell.y*f.O+k.cell.x).toNat) underlying22 cO Z Z (t.bv.Y (aL ((k.cell.y*f.O+k.cell.x).toNat) (by have bu:=(lC o z.len EK).1;omega))) GE (by have bu:=(lC o z.len EK).1;omega))<|dE Z (λ _ x=>aq Z (τ.aF.H ew ((t.O x).bv.O (aL ((k.cell.y*f.O+k.cell.x).toNat) (by have bu:=(lC o z.len EK).1;omega))) (Ek o z.len EK) Z aH))<|aA Z (λ _=>iV Z Z)<|fn λ H3 mP=>?_;have mS:=iE.trans (Mod.O mP);refine a7<|?_;refine xp Z (λ pq=>?_) (λ pq=>?_)
  .have au:=pq;refine cI<|cH<|cG<|?_;have N:=N.O mP;have t:=t.O mP;have Ln:=((Ln.O cK).H kD (bV HV)).O mP;exact oR _ _ ⟨m,dh.qU cN.all p,E,c1,fo,Z,Z,mS,(by first|exact N|(rw[ah];exact N)),t,Ln,z.aO7 Cs (by rw[JI];exact au),rz,by rw[dh.Ns];omega,ae,Po,aa,Um⟩ (by first|(rw[dh.Ns];omega)|omega) (qW Z)
  .have au:f.aD m k.cell<0:=GE
   obtain⟨M,ai⟩:=z.new o (aE.W2 f g) Cs (by rw[JI];exact au);rw[JI]at M ai;have MS:=aQM z o Cs JI au rz uF;refine bf<|av<|?_;refine c_ [(3,0),(6,0),(7,0),(9,0),(11,3)] [0,1,2,3,4,5,6,7,8,9,10,11] ?_;refine bt Z Z<|aA Z (λ _=>cB Z)<|aA Z (λ _=>aj rm Z)<|?_;have N:=N.O mP;refine cr Z Z N et Z<|bt Z Z<|aA Z (λ _=>aj abu Z)<|?_;have s:=s.O mP;refine dE Z (λ _ x=>aq Z ((s.O x).Y [J k.cell.x,J k.cell.y] bS bq Z))<|nQ Z Z pn Z (λ _ x=>uY H f P F E O D c1 b m (dh.qU cN.all p) g k.cell _ (Φ (Ext.H kU mS Hp) x) o cp (N.O x) (by first|omega|(dsimp only;omega))) Z<|aA Z (λ _=>aj ak8 Z)<|cr Z Z s aH Z<|?_;have t:=t.O mP;refine aA Z (λ _=>bD ((k.cell.y*f.O+k.cell.x).toNat) underlying22 cO Z Z (t.bv.Y (aL ((k.cell.y*f.O+k.cell.x).toNat) (by have bu:=(lC o z.len EK).1;omega))) GE (by have bu:=(lC o z.len EK).1;omega))<|en Z Z Z λ sN fN Q hK=>so (q':=k.far) (j:=0) (i:=((k.cell.y*f.O+k.cell.x).toNat)) (t.O fN) τ.O (Ek o z.len EK) Z Z Z Z (λ _ cs h=>by have mK:=(show _/\_ from h).2;obtain rfl:=ew h;exact⟨rfl,b7.2 GE⟩) Z Z cO λ X5 zb ZG=>hK _ _ ?_;have ku:=mS.trans (Mod.O fN);have FE:=ku.Y zb (λ q I=> .inl (bav _ (bd4 _ I)));refine fn λ zr ff=>?_;have nB:=FE.trans (Mod.O ff);refine a7<|ar<|κ (aj abu Z)<|?_;have s:=s.O fN;have Pp:∀ q∈τ.ai F,q=z_->False:=λ q I U=>by (have:=NJ q I;omega)
   have s:=(s.H zb (λ I=>Pp _ I rfl)).O ff;refine κ (aq Z (s.Y [J k.cell.x,J k.cell.y] bS bq Z))<|?_;have ZG:=ZG.O ff;have MF:∃ Ef,m.set (f.d9 k.cell) k.far=Ef:=⟨_,rfl⟩;obtain⟨Ef,MF⟩:=MF;rw[MF]at M ai MS;have ah:Ef.length=m.length:=by rw[<-MF,bak]
   have C:bN.aM 3 8 zr H.heap.size (τ.ai F) F D Ef:=by rw[<-MF];exact ZG
   have an:f.aD Ef k.cell=k.far:=by rw[<-MF];exact aE.Md o z.len EK
   refine cf ak9 Z (arD k.cell _ (by first|omega|(dsimp only;omega))) λ H6 jz=>?_;have sR:=nB.trans (Mod.O jz);refine vm Z<|ax<|bp<|?_;have eF:=(Φ ff jz);have N:=((N.O fN).H zb (λ I=>Po _ I rfl)).O eF;have Ln:=((((Ln.O cK).H kD (bV HV)).O (Φ mP fN)).H zb Um).O eF;have C:=C.O jz;have s:=s.O jz;refine di (λ bJ bH aI=>∃ j:Nat,∃ R:List cN,∃ L:Option Addr,∃ c2:Nat,bH=[(0,.pointer (bd b)),(2,J (g.y*f.O+g.x)),(3,.pointer (bd z_)),(14,.pointer (bd b)),(15,.pointer (bd b)),(16,.pointer (some ⟨b,6,none⟩)),(17,.slice E p.length c1),(18,J (p.length:Int)),(19,.bool (decide (0<(p.length:Int)))),(20,.bool true),(21,.pointer (bd b)),(22,.pointer (bd b)),(23,.pointer (some ⟨b,5,none⟩)),(24,.slice F m.length D),(25,J (g.y*f.O+g.x)),(26,.pointer (some ⟨fv F,j7 F+((g.y*f.O+g.x).toNat)*1,none⟩)),(27,J (f.aD m g)),(28,.bool (decide (f.aD m g<0))),(29,.bool (decide (f.aD m g<0))),(30,cP ((decide (f.aD m g<0))== false) (.pointer (bd b))),(31,cP ((decide (f.aD m g<0))== false) (.pointer (bd b))),(32,cP ((decide (f.aD m g<0))== false) (.pointer (some ⟨b,6,none⟩))),(33,cP ((decide (f.aD m g<0))== false) (.slice E p.length c1)),(34,cP ((decide (f.aD m g<0))== false) (.pointer (some ⟨fv E,j7 E+0*4,none⟩))),(35,cP ((decide (f.aD m g<0))== false) (.pointer (some ⟨fv E,j7 E+0*4+3,none⟩))),(36,cP ((decide (f.aD m g<0))== false) (J ((p.getD 0 default).all))),(37,cP ((decide (f.aD m g<0))== false) (.pointer (bd b))),(38,cP ((decide (f.aD m g<0))== false) (.pointer (bd b))),(39,cP ((decide (f.aD m g<0))== false) (.pointer (some ⟨b,5,none⟩))),(40,cP ((decide (f.aD m g<0))== false) (.slice F m.length D)),(41,cP ((decide (f.aD m g<0))== false) (J (g.y*f.O+g.x))),(42,cP ((decide (f.aD m g<0))== false) (.pointer (some ⟨fv F,j7 F+((g.y*f.O+g.x).toNat)*1,none⟩))),(43,cP ((decide (f.aD m g<0))== false) (J (f.aD m g))),(44,cP ((decide (f.aD m g<0))== false) (.bool (decide ((p.getD 0 default).all<=f.aD m g)))),(45,.bool ((decide (f.aD m g<0)) || (decide ((p.getD 0 default).all<=f.aD m g)))),(46,.bool true),(47,.pointer (bd b)),(48,.pointer (bd b)),(49,.pointer (some ⟨b,6,none⟩)),(50,.iface 289 (.pointer (some ⟨b,6,none⟩))),(51,.iface 291 (.agg #[J k.cell.x,J k.cell.y,J k.far,J k.all])),(52,.agg #[J k.cell.x,J k.cell.y,J k.far,J k.all]),(53,.pointer (bd b)),(54,.pointer (bd b)),(55,.pointer (some ⟨b,5,none⟩)),(56,.slice F m.length D),(57,.pointer (bd b)),(58,.pointer (bd z_)),(59,.agg #[J k.cell.x,J k.cell.y]),(60,J (k.cell.y*f.O+k.cell.x)),(61,.pointer (some ⟨fv F,j7 F+((k.cell.y*f.O+k.cell.x).toNat)*1,none⟩)),(62,J (f.aD m k.cell)),(63,.bool (decide (0<=f.aD m k.cell))),(64,.pointer (bd b)),(65,.pointer (bd b)),(66,.pointer (some ⟨b,5,none⟩)),(67,.slice F m.length D),(68,.pointer (bd b)),(69,.pointer (bd z_)),(70,.agg #[J k.cell.x,J k.cell.y]),(71,J (k.cell.y*f.O+k.cell.x)),(72,.pointer (some ⟨z_,2,none⟩)),(73,J k.far),(74,.pointer (some ⟨fv F,j7 F+((k.cell.y*f.O+k.cell.x).toNat)*1,none⟩)),(75,.pointer (bd z_)),(76,.agg #[J k.cell.x,J k.cell.y]),(77,.agg #[J k.cell.x,J (k.cell.y-1),J (k.cell.x-1),J k.cell.y,J (k.cell.x+1),J k.cell.y,J k.cell.x,J (k.cell.y+1)]),(78,J (j:Int))]/\bJ=4-j/\Mod (b::(τ.ai F++τ.ai A)) w aI/\aO aI z_ [J k.cell.x,J k.cell.y,J k.far,J k.all] 291 (0,0)/\bN.aM 3 8 aI H.heap.size (τ.ai F) F D Ef/\aO aI b [J f.O,J f.high,.slice P f.G.length O,J g.x,J g.y,.slice F m.length D,.slice L R.length c2] 253 (0,0)/\cN.ce.aM 291 32 aI H.heap.size (τ.ai L) L c2 R/\(j<=4)/\(vF f a g Ef R k.cell (((dG k.cell).drop j).filter f.ground))/\(R.length+1<=p.length+j)/\(∀ q∈τ.ai L,q∈τ.ai A\/w.heap.size<=q)/\(∀ q∈τ.ai L,q=z_->False)/\(∀ q∈τ.ai L,q=b->False)/\(∀ q∈τ.ai L,q∈τ.ai F->False)) _ _ ⟨0,dh.qU cN.all p,E,c1,Z,Z,sR,s,C,N,Ln,GE,M,by rw[dh.Ns];omega,ae,(λ q I U=>by (have:=HV q I;omega)),aa,Um⟩ (c' Z Z Z) ?_;rintro mh bl qq ⟨j,R,L,c2,rfl,rfl,hQ,s,C,B,zM,aB,M,ni,Qq,D_,Al,oH⟩;have bc:=s.lt;have XT:=b4 C.lt;have aX:=B.lt;have af:=b4 zM.lt;refine ar<|cF Z Z<|ax<|av<|?_;refine c7 Z (λ ak=>?_) (λ ak=>?_)
   .refine bf<|av<|bp<|ar<|?_;obtain⟨r,jt⟩:∃ r,(dG k.cell).getD j default=r:=⟨_,rfl⟩;have JE:=asJ (c:=k.cell) (j:=j) GE;rw[jt]at JE;refine κ (JO Z Z (arE k.cell j GE jt _))<|cy pk Z λ NS bh k4 bj S=>?_;have FG:=hQ.trans (Mod.O k4);have aY:=S.lt;refine ck Z Z S Z bq Z Z λ NT X S=>?_;have:=X.size;have qy:=FG.Y X (λ q I=> .inr (by have:=bah.1 I;omega));refine ax<|aC Z<|κ (aq Z (S.all bS bq))<|?_;have B:=(B.O k4).H X aJ;refine cf abv Z (ae2 H f P F L O D c2 b m R g r _ (Ext.H kU qy Hp) o cp B) λ NU V=>?_;have:=V.size;have qz:=qy.trans (Mod.O V);refine vm Z<|bL Z Z<|bL Z Z<|va Z<|aG Z<|av<|?_;rcases aiw (f.ground r) (decide (f.aD Ef r<0))with G|⟨G,T⟩|⟨G,T⟩
    .have QP:=M.aKu GE (by rw[jt];exact G);refine c_ [(5,0),(7,0),(8,0),(10,0)] [0,1,2,3,4,5,6,7,8,9,10,11,12] ?_;refine aA rfl (λ _=>fW (iJ rfl G))<|bt rfl rfl<|d' rfl rfl<|d' rfl rfl<|d' rfl rfl<|lB rfl rfl<|d' rfl rfl<|lB rfl rfl<|c8 (v:=undef) (args:=[]) rfl rfl rfl rfl rfl rfl pn (λ d=>nomatch d) (λ d=>nomatch d) rfl<|d' rfl rfl<|lB rfl rfl<|d' rfl rfl<|aA rfl (λ _=>uZ rfl rfl)<|fn λ C_ kM=>?_;have pT:=qz.trans (Mod.O kM);refine a7<|ef Z<|dP<|bK<|cW Z Z Z<|?_;have jP:=(Φ V kM);have s:=((s.O k4).H X aJ).O jP;have C:=((C.O k4).H X (bM λ q I U=>by have:=XT q I;have:=NJ q I;omega)).O jP;have B:=B.O jP;have zM:=((zM.O k4).H X (bV af)).O jP;exact cM ⟨j+1,R,L,c2,Z,Z,pT,s,C,B,zM,GE,QP,GE,Qq,D_,Al,oH⟩
    .have l2:=aE.K G;obtain⟨WU,WV,WW⟩:=lC o M.len l2;have sk:=f.Y (c:=r);have sq:=arl o G;refine c_ [(5,0),(7,0),(8,0),(10,0)] [0,1,2,3,4,5,6,7,8,9,10,11,12] ?_;refine aA Z (λ _=>fW (iJ Z G))<|bt Z Z<|ft Z Z Z<|bC Z Z (λ d _=>cB Z)<|bC Z Z (λ d _=>aj rm Z)<|?_;have B:=B.O V;refine cu Z Z (λ d _ x=>aq Z ((B.O x).one et Z))<|ft Z Z Z<|?_;have S:=S.O V;refine cu Z Z (λ d _ x=>aq Z ((S.O x).all bS bq))<|c8 Z Z Z Z Z Z pn (λ d=>Z) (λ d _ x=>uY H f P F L O D c2 b m R g r _ (Φ (Ext.H kU qz Hp) x) o cp (B.O x) (by first|omega|(dsimp only;omega))) Z<|?_;have C:=((C.O k4).H X (bM λ q I U=>by have:=XT q I;have:=NJ q I;omega)).O V;have Ew:=(lC o M.len l2).1;refine bC Z Z (λ d _=>bD ((r.y*f.O+r.x).toNat) underlying22 cO Z Z (C.bv.Y (aL ((r.y*f.O+r.x).toNat) GE)) (by (try simp only[cb]at d);omega) GE)<|cu Z Z (λ d _ x=>aq Z (τ.aF.H ew ((C.O x).bv.O (aL ((r.y*f.O+r.x).toNat) GE)) (Ek o M.len l2) Z aH))<|bC Z Z (λ d _=>blt Z Z)<|aA Z (λ _=>pH Z (iJ Z T))<|fn λ KK rL=>?_;have:=rL.size;have qA:=qz.trans (Mod.O rL);refine a7<|fB Z<|rg<|vm Z<|?_;have S:=S.O rL;refine κ (aq Z (S.all bS bq))<|κ (aj ak8 Z)<|?_;have s:=((s.O k4).H X aJ).O (Φ V rL);refine a1 Z s aH Z<|vm Z<|fb Z Z<|?_;have zM:=((zM.O k4).H X (bV af)).O (Φ V rL);have B:=B.O rL;refine ca abw Z Z ((ae4 H f P F L O D c2 b m R g r (k.far+(sJ f r)) _ (Ext.H kU qA Hp) o cp B U zM Al (λ y aP=>(M.node o Y aP).2.2.2.2.2.2.2.2) GE GE GE GE).mono ?_);rintro e Sb ⟨az,aK,rfl,aD,aF,al,ad,oj⟩;refine cR ?_;have BD:=qA.Y oj (λ q I=>(baB.1 I).elim (λ h=> .inl (by rw[h];exact baZ)) (λ h=>(Qq q h).imp (λ h=>bav _ (bd1 _ h)) id));have ap:=M.aKt (n:=⟨r,k.far+(sJ f r),k.far+(sJ f r)+aE.mE g r⟩) (aE.W2 f g) GE (by rw[jt];exact G) (by rw[jt]) (by rw[jt,an,<-sq]) (by rw[jt]);refine nl<|bK<|cW Z Z Z<|?_;have s:=s.H oj (λ I=>(baB.1 I).elim (λ h=>GE) (λ h=>(show ∀ q,q∈τ.ai L->q=z_->False from λ q h U=>by (exact D_ q h U)) _ h rfl));have C:=(C.O rL).H oj (λ q I h=>(baB.1 h).elim (λ h=>Po q I h) (λ h=>oH q h I));exact cM ⟨j+1,dh.push cN.all R ⟨r,k.far+(sJ f r),k.far+(sJ f r)+aE.mE g r⟩,az,aK,Z,Z,BD,s,C,aD,aF,GE,ap,by rw[dh.Rx];omega,(λ q I=>(ad q I).elim (Qq q) (λ h=> .inr GE)),(eh ad D_),al,(λ q I U=>by (exact baC (ad q I) (λ Q7=>by (exact oH q Q7 U)) (λ Q7=>by (have:=XT q U;have:=NJ q U;omega))))⟩
    .have l2:=aE.K G;obtain⟨WU,WV,WW⟩:=lC o M.len l2;have QP:=M.aKs GE (by rw[jt];have tk:=bcV T;omega) (by rw[jt];exact G);refine c_ [(5,0),(7,0),(8,0),(10,0)] [0,1,2,3,4,5,6,7,8,9,10,11,12] ?_;refine aA Z (λ _=>fW (iJ Z G))<|bt Z Z<|ft Z Z Z<|bC Z Z (λ d _=>cB Z)<|bC Z Z (λ d _=>aj rm Z)<|?_;have B:=B.O V;refine cu Z Z (λ d _ x=>aq Z ((B.O x).one et Z))<|ft Z Z Z<|?_;have S:=S.O V;refine cu Z Z (λ d _ x=>aq Z ((S.O x).all bS bq))<|c8 Z Z Z Z Z Z pn (λ d=>Z) (λ d _ x=>uY H f P F L O D c2 b m R g r _ (Φ (Ext.H kU qz Hp) x) o cp (B.O x) (by first|omega|(dsimp only;omega))) Z<|?_;have C:=((C.O k4).H X (bM λ q I U=>by have:=XT q I;have:=NJ q I;omega)).O V;have Ew:=(lC o M.len l2).1;refine bC Z Z (λ d _=>bD ((r.y*f.O+r.x).toNat) underlying22 cO Z Z (C.bv.Y (aL ((r.y*f.O+r.x).toNat) GE)) (by (try simp only[cb]at d);omega) GE)<|cu Z Z (λ d _ x=>aq Z (τ.aF.H ew ((C.O x).bv.O (aL ((r.y*f.O+r.x).toNat) GE)) (Ek o M.len l2) Z aH))<|bC Z Z (λ d _=>blt Z Z)<|aA Z (λ _=>pH Z (iJ Z T))<|fn λ Se nA=>?_;have BG:=qz.trans (Mod.O nA);refine a7<|ef Z<|dP<|bK<|cW Z Z Z<|?_;have pD:=(Φ V nA);have s:=((s.O k4).H X aJ).O pD;have C:=C.O nA;have B:=B.O nA;have zM:=((zM.O k4).H X (bV af)).O pD;exact cM ⟨j+1,R,L,c2,Z,Z,BG,s,C,B,zM,GE,QP,GE,Qq,D_,Al,oH⟩
   .refine cI<|cH<|cU<|cG<|bK<|?_;exact oR _ _ ⟨Ef,R,L,c2,k.cell,Z,Z,hQ,(by first|exact B|(rw[ah];exact B)),C,zM,(by have e:j=4:=GE;subst e;exact M),MS,GE,Qq,Po,Al,oH⟩ (by first|(rw[dh.Ns];omega)|omega) (qW Z)
 .have Cs:0<p.length:=by simpa using G
  have ab:=aMs z rz Cs (by rw[baN,baT,baT]at T;omega) (by rw[baN,baT,baT]at T;omega);refine c_ [(3,0),(4,0),(10,0),(13,0),(19,0),(22,0),(26,0),(29,0)] [0,1,2,3,4,5,6,7,8,9,10,11,12,13,14,15,16,17,18,19,20,21,22,23,24,25,26,27,28,29,30,31,32] ?_;have Ew:=(lC o z.len Y).1;refine bt Z Z<|aA Z (λ _=>cB Z)<|aA Z (λ _=>aj I9 Z)<|cr Z Z K r5 Z<|nQ Z Z PB Z (λ _ x=>Sj _ p.length _ _) Z<|aA Z (λ _=>gy Z Z)<|aA Z (λ _=>fW (iJ Z G))<|ft Z Z Z<|bC Z Z (λ d _=>cB Z)<|bC Z Z (λ d _=>aj rm Z)<|cu Z Z (λ d _ x=>aq Z ((K.O x).one et Z))<|ft Z Z Z<|bC Z Z (λ d _=>bD ((g.y*f.O+g.x).toNat) underlying22 cO Z Z (t.bv.Y (aL ((g.y*f.O+g.x).toNat) GE)) (by (try simp only[cb]at d);omega) GE)<|cu Z Z (λ d _ x=>aq Z (τ.aF.H ew ((t.O x).bv.O (aL ((g.y*f.O+g.x).toNat) GE)) (Ek o z.len Y) Z aH))<|bC Z Z (λ d _=>blt Z Z)<|ft Z Z Z<|ft Z Z Z<|bC Z Z (λ d _=>cB (gt d Z))<|bC Z Z (λ d _=>aj I9 (gt d Z))<|cu Z Z (λ d _ x=>aq (gt d Z) ((K.O x).one r5 Z))<|bC Z Z (λ d _=>bD 0 underlying251 rk (gt d Z) Z (W.bv.Y (aL 0 (by (try simp only[cb]at d);omega))) Z (by (try simp only[cb]at d);omega))<|bC Z Z (λ d _=>aj UA (gt d Z))<|cu Z Z (λ d _ x=>aq (gt d Z) (τ.aF.C Js ((W.O x).bv.O (aL 0 (by (try simp only[cb]at d);omega))) 3 (cg (l:=p) (u:=default) (by (try simp only[cb]at d);omega)) Z aH))<|ft Z Z Z<|?_;refine bC Z Z (λ d _=>cB (gt d Z))<|bC Z Z (λ d _=>aj rm (gt d Z))<|cu Z Z (λ d _ x=>aq (gt d Z) ((K.O x).one et Z))<|ft Z Z Z<|bC Z Z (λ d _=>bD ((g.y*f.O+g.x).toNat) underlying22 cO (gt d Z) (gt d Z) (t.bv.Y (aL ((g.y*f.O+g.x).toNat) GE)) (by (try simp only[cb]at d);omega) GE)<|cu Z Z (λ d _ x=>aq (gt d Z) (τ.aF.H ew ((t.O x).bv.O (aL ((g.y*f.O+g.x).toNat) GE)) (Ek o z.len Y) Z aH))<|bC Z Z (λ d _=>ble (gt d Z) (gt d Z))<|bC Z Z (λ d _=>dS Z Z Z Z)<|aA Z (λ _=>pH Z (iJ Z T))<|fn λ Ya sQ=>?_;have FK:=kN.trans (Mod.O sQ);refine a7<|ef Z<|cI<|cH<|cU<|cG<|ne<|cJ .nil<|?_;have W:=W.O sQ;have t:=t.O sQ;have K:=K.O sQ;exact⟨m,E,c1,p,Z,K,t,ab,FK⟩
def aLf:Go.Shelf.Ren:=⟨fun|212=> 200|263=> 205|264=> 206|n=>n,fun|46=> 118|53=> 129|51=> 34|146=> 294|148=> 296|n=>n,fun|n=>n⟩
theorem aJ3:Go.Proofs.Lays.n212 prog aLf:={
 mixed:=GT
 f212:=func200.trans (bbh some GT)
 f263:=func205.trans (bbh some GT)
 f264:=func206.trans (bbh some GT)
 t46:=underlying118
 a46:=isAgg118
 z46:=sizeOf118
 v46:=zeroValue118
 t51:=underlying34
 a51:=isAgg34
 z51:=sizeOf34
 v51:=zeroValue34
 t53:=underlying129
 a53:=isAgg129
 z53:=sizeOf129
 v53:=zeroValue129
 t146:=underlying294
 a146:=isAgg294
 z146:=sizeOf294
 v146:=zeroValue294
 t148:=underlying296
 a148:=isAgg296
 z148:=sizeOf296
 v148:=zeroValue296 }
def mul_one(n:Nat)(a:n<18446744073709551616)(w:World):Calls prog 200 #[.int .u64 1,.int .u64 (n:Int)] w (λ e w'=>e=.returned (.tuple #[.int .u64 0,.int .u64 (n:Int)])/\Ext w w'):=by
 refine(Any.bits_Mul aJ3 1 n GP a w).mono λ e w' ⟨b,c⟩=>?_;subst c;rw[b];refine⟨?_,Ext.U _⟩;rw[Nat.one_mul,bdL a,bbC a];rfl
section
variable{w:World}{B c g:Nat}{l:List Int}
def aVN(l:List Int)(x:Int):Nat:=l.countP λ y=>decide (y<x)
def xx(n:Int):Value:=.int .i64 n
def alv{w:World}{B:Nat}:∀ {c:List (List Nat×List Value)} {l:List Int},dX (λ x a=>bN.own w B x.1 x.2 a) c l->(c.map (·.2)).flatten=l.map xx/\∀ x∈l,gg x
 | [],[],_=>⟨rfl,Kx⟩
 | p::c,a::l,h=>by
  obtain⟨⟨_,d,f⟩,g⟩:=h;obtain⟨e,i⟩:=alv g;refine⟨by rw[ba5,bbc,e,d];rfl,λ x b=>?_⟩;rcases baB.1 b with rfl|b
  .exact f
  .exact i x b
 | [],_::_,h=>h.elim
 | _::_,[],h=>h.elim
def aol{w:World}:∀ {l:List Int},(∀ x∈l,gg x)->dX (λ es a=>bN.bv w es a) (l.map λ n=> [xx n]) l
 | [],_=>trivial
 | a::l,h=>⟨⟨rfl,h a baZ⟩,aol λ x b=>h x (bav _ b)⟩
def aEy(l:List Int):(l.map λ n=> [xx n]).flatten=l.map xx:=by
 induction l with
 | nil=>rfl
 | cons a l b=>rw[ba5,bbc,b];rfl
theorem aI9(h:bN.aM 3 8 w B (τ.ai (some ⟨g,0,none⟩)) (some ⟨g,0,none⟩) c l):
  ∃ cur:List Value,aO w g cur 3 (0,0)/\B<=g/\c<=maxLen/\cur.length=c/\l.length<=c/\cur.take l.length=l.map xx/\(∀ u∈cur,∃ n:Int,u=.int .i64 n)/\∀ x∈l,gg x:=by
 obtain⟨A,H,F,G,i,s⟩:=h;obtain⟨e,q⟩:=alv s;rw[e]at i;obtain⟨_,f⟩:=i;rcases f with⟨f,_⟩|⟨E,D,cur,y,p,t,k,z,b,d,o⟩
 .cases f
 .injection y with a C r
  injection a with a
  injection a with a
  subst a r;refine⟨cur.toList,t,p,z,by have b:cur.size=c*1:=b;rw[bcY]at b;simpa using b,k,by have d:cur.toList.take (l.length*1)=_:=d;rwa [bcY]at d,λ u v=>?_,q⟩;obtain⟨j,m,rfl⟩:=bbf.1 v;exact o j _ (by rw[<-bbp,bac m])
theorem aI8{cur:List Value}(h:aO w g cur 3 (0,0))(f:B<=g)(o:c<=maxLen)(m:cur.length=c)(k:l.length<=c)(e:l.length*8<=140737488355328)(b:cur.take l.length=l.map xx)(d:∀ u∈cur,∃ n:Int,u=.int .i64 n)(i:∀ x∈l,gg x):
  bN.aM 3 8 w B (τ.ai (some ⟨g,0,none⟩)) (some ⟨g,0,none⟩) c l:=by
 refine τ.aM.E5 τ.nc (aol i) e ?_;rw[aEy];refine⟨by rw[bbd];exact(bcY _).symm,.inr ⟨g,c,cur.toArray,rfl,f,h,k,o,by rw[bbY,m];exact(bcY _).symm,?_,λ j u a=>?_⟩⟩
 .show cur.toArray.toList.take (l.length*1)=_;rw[bcY];exact b
 .exact d u (by rw[bd2]at a;exact baQ a)
def C1(cur:List Value):Nat->List Value->List Value
 | _,[]=>cur
 | o,v::r=>C1 (cur.set o v) (o+1) r
def aO.setCells{g:Nat}{e:TypeId}:∀(zs:List Value) (o:Nat) (w:World) (cur:List Value),aO w g cur e (0,0)->aO (w.setCells g o zs) g (C1 cur o zs) e (0,0)
 | [],_,_,_,h=>h
 | v::r,o,w,cur,h=>aO.setCells r (o+1) _ _ (h.set o v)
theorem asx:∀(zs:List Value) (o:Nat) (cur:List Value),o+zs.length<=cur.length->C1 cur o zs=cur.take o++zs++cur.drop (o+zs.length)
 | [],o,cur,_=>by simp[C1]
 | v::r,o,cur,h=>by
  rw[baj]at h;rw[C1,asx r (o+1) _ (by rw[bak];omega),baj,List.drop_set_of_lt GE,show o+1+r.length=o+(r.length+1) by omega];have:(cur.set o v).take (o+1)=cur.take o++ [v]:=by
   rw[baI (by rw[bak];omega),List.take_set_of_le (bao _),List.getElem_set_self]
  rw[this];simp
def asz{u:Value}:∀(zs:List Value) (o:Nat) (cur:List Value),u∈C1 cur o zs->u∈cur\/u∈zs
 | [],_,_,h=> .inl h
 | v::r,o,cur,h=>by
  rcases asz r (o+1) _ h with h|h
  .rcases bbs h with h|rfl
   .exact .inl h
   .exact .inr baZ
  .exact .inr (bav _ h)
def asy:∀(zs:List Value) (o:Nat) (cur:List Value),(C1 cur o zs).length=cur.length
 | [],_,_=>rfl
 | v::r,o,cur=>by rw[C1,asy r,bak]
def aqD{u:Value}(h:u∈l.map xx):∃ n:Int,u=.int .i64 n:=by
 obtain⟨n,_,rfl⟩:=baV.1 h;exact⟨n,Z⟩
def aLX:∀ v∈l.map xx,v.oneCell'=true:=λ v a=>by obtain⟨n,rfl⟩:=aqD a;rfl
def Mod.cells(g:Nat):∀(zs:List Value) (o:Nat) (w:World),Mod [g] w (w.setCells g o zs)
 | [],_,w=>Mod.O (Ext.U w)
 | v::r,o,w=>by
  rw[World.setCells];exact(Mod.setCell w ⟨g,o,none⟩ v).trans (Mod.cells g r (o+1) _)
end
section
variable{w:World}{ty:TypeId}{pos:String}{af:Array Edge}{x:Operand}{k lo c j:Nat}{v u:Int}
def Af{P:Program}{E:List (Nat×Value)}{d:Option Nat}{g:Option (Nat×Bool)}{e c:TypeId}{k b:IntKind}{i r:Int}(j:∀ w,(convert e c (.int k i)).run P w=.ok (.int b (b.wrap i)) w)(h:b.wrap i=r)(l:ev E x=some (.int k i)):
  dc P E ⟨d,.convert e c x,ty,pos,af,g⟩ w (.int b r) w:=λ n a f=>by
 subst h;simp only[execOp,f.ev l,bar,j w,bal,bat]
def aPF{cur:List Value}{zs:List Value}(h:lo+zs.length<=k)(b:k<=cur.length):(C1 cur lo zs).take k=(cur.take k).take lo++zs++(cur.take k).drop (lo+zs.length):=by
 rw[asx _ _ _ GE];have a:(cur.take lo++zs).length=lo+zs.length:=by rw[bam,baf];omega
 rw[beD,a,baE (by rw[a];exact h),List.take_take,bch GE,List.drop_take]
theorem ajl{n:Nat}{E:List (Nat×Value)}{Q:Exit->Act->World->Prop}{B:Array Oper}{y:Operand}{rest:List Oper}{aQ b k p m s d:Nat}{A D S:Option Addr}{i:Addr}{l zs:List Int}
  (h:bN.aM 3 8 w aQ (τ.ai A) A c l)(U:A=some ⟨b,0,none⟩)(Y:ev E x=some (.slice D k p))(yT:D=some ⟨b,lo,none⟩)(F:ev E y=some (.slice S m s))(V:S=some i)(H:∀(j:Nat) (v:Int),zs[j]? =some v->w.cell? (i.add j)=some (J v))(N:∀ v∈zs,gg v)
  (X:zs.length=Nat.min m k)(W:lo+zs.length<=l.length)(C:Nat.blt d n=true)
  (L:∀ o,Mod (τ.ai A) w o->bN.aM 3 8 o aQ (τ.ai A) A c (l.take lo++zs++l.drop (lo+zs.length))->cx prog n B Q rest ((d,J (zs.length:Int))::E) o):
  cx prog n B Q (⟨some d,.call {callee:=.builtin .copy,args:=#[x,y],argTypes:=#[22,22]},ty,pos,af,none⟩::rest) E w:=λ a q=>by
 subst U yT V;obtain⟨cur,t,G,M,P,O,R,T,z⟩:=aI9 h;have g:(zs.map xx).length=zs.length:=bbd _;have l3:(Builtin.copy_ #[22,22] ty #[.slice (some ⟨b,lo,none⟩) k p,.slice (some i) m s]).run prog w=.ok (goInt (zs.map xx).length) (w.setCells b lo (zs.map xx)):=
  run_copy_cells w _ _ ty 3 b lo k p i m s (zs.map xx) underlying22 (by
    obtain⟨i0,ma,sv,wj,Hp⟩:=bc6 y5;rw[ma];simp[wj]) (by rw[g];exact X)
   (λ j v f=>by
    rw[bau]at f;cases r:zs[j]? with
    | none=>rw[r]at f;cases f
    | some u=>rw[r]at f;rw[<-bae f];exact H j u r)
   (λ j f=>by rw[g]at f;rw[t.cell,bac GE];rfl) (λ j _=>h.free _) aLX
 refine LH Z ?_;unfold Oper.wp execOp;simp only[resolve,invoke,builtin,bar,bat,bal,beF,ba5,bcl,q.ev Y,q.ev F,l3];rw[g];refine L _ (Mod.cells b _ _ _) (aI8 (cur:=C1 cur lo (zs.map xx)) (aO.setCells _ _ _ _ t) G M (by rw[asy];exact P) ?_ ?_ ?_ ?_ ?_) _ (q.put C _)
 .have:(l.take lo++zs++l.drop (lo+zs.length)).length=l.length:=by rw[bam,bam,baf,bax];omega
  rw[this];exact O
 .have:(l.take lo++zs++l.drop (lo+zs.length)).length=l.length:=by rw[bam,bam,baf,bax];omega
  rw[this];obtain⟨K,_⟩:=h;exact K
 .have:(l.take lo++zs++l.drop (lo+zs.length)).length=l.length:=by rw[bam,bam,baf,bax];omega
  rw[this,aPF (by rw[g];exact W) GE,R,g,baJ,baJ,be4,List.map_drop]
 .intro u e;rcases asz _ _ _ e with e|e
  .exact T u e
  .exact aqD e
 .intro u e;rcases bas.1 e with e|e
  .rcases bas.1 e with e|e
   .exact z u (bcK e)
   .exact N u e
  .exact z u (bdj e)
def aOs{b:Nat}(h:lo<c):fX (bd b) c lo 1=some ⟨b,lo,none⟩:=by
 unfold fX;rw[ban GE];show some (Addr.add _ _)=_;unfold Addr.add;split
 .have:lo=0:=GE
  subst this;rfl
 .simp
theorem aOe{N:Nat}(a:0<k)(b:k<N):(List.replicate k v++List.replicate (N-k) (0:Int)).take k++List.replicate (Nat.min k (N-k)) v++(List.replicate k v++List.replicate (N-k) (0:Int)).drop (k+(List.replicate (Nat.min k (N-k)) v).length)=List.replicate (k+Nat.min k (N-k)) v++List.replicate (N-(k+Nat.min k (N-k))) (0:Int):=by
 rw[beJ (by rw[baK];exact bao _),baE (by rw[baK];exact bao _),baK,List.drop_append,baK,bfg (by rw[baK];omega),bcy,bfy,List.replicate_append_replicate];congr 2;omega
def Bl{x:Int}(a:0<=x)(b:x<18446744073709551616):IntKind.u64.wrap x=x:=by rw[bbr];omega
def aPk{X:Option Addr}{d:Nat}(a:bN.aF 8 w X d [v])(c:[v][j]? =some u):w.cell? ((⟨fv X,j7 X,none⟩:Addr).add j)=some (J u):=by
 obtain⟨b,o,rfl,e⟩:=Km a Kx;rw[show(⟨fv (some ⟨b,o,none⟩),j7 (some ⟨b,o,none⟩),none⟩:Addr)=⟨b,o,none⟩from rfl,LJ];exact e j u c
theorem aPl{b N:Nat}(h:bN.aF 8 w (bd b) c (List.replicate k v++List.replicate (N-k) (0:Int)))(m:0<k)(a:(List.replicate (Nat.min k (N-k)) v)[j]? =some u):w.cell? ((⟨b,0,none⟩:Addr).add j)=some (J u):=by
 obtain⟨p,o,e,i⟩:=Km h (by rw[bam,baK];omega);have e:=bae e;injection e with f g
 subst f;subst g;rw[LJ];have d:=(bab.1 a).1;rw[baK]at d;have n:Nat.min k (N-k)<=k:=Nat.min_le_left _ _;have l:u=v:=by rw[bbn]at a;split at a<;>simp_all
 refine i j u ?_;rw[baz (by rw[baK];omega),bbn,bap GE,l]
theorem ar5(X:Option Addr)(t N:Nat)(v:Int)(w:World)(g:bN.aF 8 w X t [v])(aN:0<N)(aa:N<=1000000):
  Calls prog 190 #[.slice X 1 t,J (N:Int)] w (λ e w'=>∃ A c,e=.returned (.slice A (List.replicate N v).length c)/\bN.aM 3 8 w' w.heap.size (τ.ai A) A c (List.replicate N v)/\Ext w w'):=by
 have o:=Kn g;have F:=o v (bah.2 rfl);refine bT (n:=48) func190 Z Z Z ?_;refine ar<|aG Z<|av<|aC Z<|cF Z Z<|ax<|?_;have M:(decide ((N:Int)<0))=false:=by (first|exact baA GE|simp only[baT];omega|(rw[baN];exact⟨GP,baA GE⟩))
 refine ef (by rw[<-M];rfl)<|bf<|aC Z<|κ (bY underlying22 Z)<|κ (Af (r:=(1:Int)) (λ _=>GT) (Bl GE GE) Z)<|vm Z<|κ (Af (r:=(N:Int)) (λ _=>GT) (Bl GE GE) Z)<|cf aDY Z (mul_one N GE _) λ kr s=>?_;have:=s.size;refine vm Z<|bL Z Z<|bL Z Z<|va Z<|aG Z<|av<|aC Z<|κ (gy Z Z)<|vm Z<|iC Z Z Z<|vm Z<|iC Z Z Z<|κ (gy Z Z)<|κ (uZ Z Z)<|ax<|?_;have T:(decide (9223372036854775807<(N:Int)))=false:=by (first|exact baA GE|simp only[baT];omega|(rw[baN];exact⟨GP,baA GE⟩))
 refine ef (by rw[<-T];rfl)<|bf<|aC Z<|κ (Af (r:=(N:Int)) (λ _=>GT) dK Z)<|JY (R:=bN) (by_:=8) (B:=w.heap.size) (c:=N) (zv:=(J 0)) (q:=0) τ.nc underlying22 y5 Z Z (λ j u h=>CZ j u h) (λ _=>⟨Z,b7.2 GP⟩) Z Z Z GE GE GE λ Br a W ae H=>?_;have C:=Φ s W;refine aG Z<|aC Z<|vm Z<|ajl (zs:=[v]) (lo:=0) H Z Z Z Z (g.Y Kx) (λ j u l=>aPk (g.be C) l) o (by rw[bbo];exact(bch GE).symm) (by rw[baK];simp;omega) Z λ D xH d=>?_;have d:bN.aM 3 8 D w.heap.size (τ.ai (bd a)) (bd a) N (List.replicate 1 v++List.replicate (N-1) (0:Int)):=by have h:=d;rw[beS,bcy,bbo,bfy]at h;exact h
 have V:=Ext.H C xH (λ q I=>by have:=(d.lt q I).1;omega);refine aG Z<|av<|bp<|?_;refine di (λ L K p=>∃ k:Nat,K=[(4,.slice none 0 0),(7,.slice (bd a) N N),(8,J (k:Int))]/\L=N-k/\Ext w p/\bN.aM 3 8 p w.heap.size (τ.ai (bd a)) (bd a) N (List.replicate k v++List.replicate (N-k) (0:Int))/\(0<k)/\(k<=N)) _ _ ⟨1,Z,Z,V,d,GE,GE⟩ (qW Z) ?_;rintro y7 ab nY ⟨k,rfl,rfl,z,i,f,ad⟩;refine av<|aC Z<|vm Z<|κ (bY underlying22 Z)<|cF Z Z<|ax<|?_;refine c7 Z (λ uy=>?_) (λ uy=>?_)
 .refine bf<|bp<|?_;refine c_ [(7,3)] [0,1,2,3,4,5,6,7,8,9] ?_;refine bt Z Z<|bt Z Z<|bt Z Z<|aA Z (λ _=>asn k underlying22 cO Z Z Z GE)<|bt Z Z<|bt Z Z<|aA Z (λ _=>afy k k underlying22 cO Z Z Z GE Z)<|en Z Z Z λ wM m Q O=>ajl (zs:=List.replicate (Nat.min k (N-k)) v) (lo:=k) (i.O m) Z Z (aOs GE) Z Z (λ j u l=>aPl (N:=N) (i.O m).bv f l) (λ y G=>by rw[be6 G];exact F) (by rw[baK]) (by rw[baK,bam,baK,baK];have:Nat.min k (N-k)<=N-k:=bdK _ _;omega) Z λ E S b=>O _ _ ?_;have U:=Φ z m;have b:bN.aM 3 8 E w.heap.size (τ.ai (bd a)) (bd a) N (List.replicate (k+Nat.min k (N-k)) v++List.replicate (N-(k+Nat.min k (N-k))) (0:Int)):=by have h:=b;rw[aOe f GE]at h;exact h
  have Y:=Ext.H U S (λ q I=>by have:=(b.lt q I).1;omega);have uD:(List.replicate (Nat.min k (N-k)) v).length=Nat.min k (N-k):=baK;rw[uD];refine aA Z (λ _=>bad Z Z (mb ((by have:Nat.min k (N-k)<=N-k:=bdK _ _;omega))))<|aA Z (λ _=>fh Z)<|fn λ pM x=>?_;have P:=Φ Y x;refine bK<|?_;have b:=b.O x;exact oR _ _ ⟨(k+Nat.min k (N-k)),Z,Z,P,b,by have:0<Nat.min k (N-k):=Nat.lt_min.2 ⟨f,GE⟩;omega,by have:Nat.min k (N-k)<=N-k:=bdK _ _;omega⟩ (by have:0<Nat.min k (N-k):=Nat.lt_min.2 ⟨f,GE⟩;have:Nat.min k (N-k)<=N-k:=bdK _ _;omega) (.cons Z (.cons Z (.cons (Hu Z GE) .nil)))
 .refine cI<|cH<|cU<|cG<|a7<|aC Z<|bc Z<|b3 Z Z<|?_;obtain rfl:k=N:=GE
  exact⟨_,_,by rw[baK];rfl,by have h:=i;rw[bdr,List.replicate_zero,baP]at h;exact h,z⟩
end
theorem aMK(f:aE)(a b:aw)(P:Option Addr)(h:Nat)(w:World)(m:bN.aF 8 w P h f.G)(r:f.eS a≠0):
  Calls prog 159 #[.agg #[J f.O,J f.high,.slice P f.G.length h],.agg #[J a.x,J a.y],.agg #[J b.x,J b.y]] w (λ e w'=>e=.returned (.tuple #[.pointer none,J (f.eS a)])/\Ext w w'):=by
 have q:(f.eS a != 0)=true:=by simpa using r
 refine bT (n:=61) func159 Z Z Z ?_;refine cZ Z Z λ x s k v g=>?_;refine gz Z Z λ y u i A c=>?_;have l:=Φ k i;refine gz Z Z λ B z d D t=>?_;have j:=Φ l d;refine va Z<|aG Z<|ar<|?_;have g:=g.O (Φ i d);refine κ (aq Z (g.all gA gB))<|?_;have c:=c.O d;refine κ (aq Z (c.all bS bq))<|cf uq Z (vW f a _ _ _ (m.be j)) λ C o=>?_;have p:=Φ j o;refine vm Z<|bL Z Z<|bL Z Z<|va Z<|aG Z<|av<|aC Z<|cV Z Z<|ax<|fB (iJ Z q)<|aC Z<|va Z<|bc Z<|bR<|?_;refine hE Z Z Z<|?_;exact⟨Z,p⟩
theorem aML(f:aE)(a b:aw)(P:Option Addr)(j:Nat)(w:World)(m:bN.aF 8 w P j f.G)(p:f.eS a=0)(x:f.eS b≠0):
  Calls prog 159 #[.agg #[J f.O,J f.high,.slice P f.G.length j],.agg #[J a.x,J a.y],.agg #[J b.x,J b.y]] w (λ e w'=>e=.returned (.tuple #[.pointer none,J (f.eS b)])/\Ext w w'):=by
 have u:(f.eS a != 0)=false:=by simpa using p
 have t:(f.eS b != 0)=true:=by simpa using x
 refine bT (n:=61) func159 Z Z Z ?_;refine cZ Z Z λ B y q A c=>?_;refine gz Z Z λ C z k E g=>?_;have r:=Φ q k;refine gz Z Z λ F D h H d=>?_;have l:=Φ r h;refine va Z<|aG Z<|ar<|?_;have c:=c.O (Φ k h);refine κ (aq Z (c.all gA gB))<|?_;have g:=g.O h;refine κ (aq Z (g.all bS bq))<|cf uq Z (vW f a _ _ _ (m.be l)) λ G i=>?_;have o:=Φ l i;refine vm Z<|bL Z Z<|bL Z Z<|va Z<|aG Z<|av<|aC Z<|cV Z Z<|ax<|ef (iJ Z u)<|bf<|ar<|?_;have c:=c.O i;refine κ (aq Z (c.all gA gB))<|?_;have d:=d.O i;refine κ (aq Z (d.all bS bq))<|cf uq Z (vW f b _ _ _ (m.be o)) λ K s=>?_;have v:=Φ o s;refine vm Z<|bL Z Z<|bL Z Z<|va Z<|aG Z<|av<|aC Z<|cV Z Z<|ax<|fB (iJ Z t)<|aC Z<|va Z<|bc Z<|bR<|?_;refine hE Z Z Z<|?_;exact⟨Z,v⟩
theorem aMM(f:aE)(a b:aw)(P:Option Addr)(l:Nat)(w:World)(p:bN.aF 8 w P l f.G)(j:f.eS a=0)(k:f.eS b=0)(C:f.H a=1\/f.H b=1):
  Calls prog 159 #[.agg #[J f.O,J f.high,.slice P f.G.length l],.agg #[J a.x,J a.y],.agg #[J b.x,J b.y]] w (λ e w'=>e=.returned (.tuple #[.pointer none,J 9])/\Ext w w'):=by
 have z:(f.eS a != 0)=false:=by simpa using j
 have y:(f.eS b != 0)=false:=by simpa using k
 have D:((f.p1 a == 1) || (f.p1 b == 1))=true:=by obtain⟨r,s⟩:=TP j;obtain⟨_,u⟩:=TP k;rw[(aE.C r s).2,(aE.C r u).2];simpa using C
 refine bT (n:=61) func159 Z Z Z ?_;refine cZ Z Z λ H E t G c=>?_;refine gz Z Z λ K F m M g=>?_;have v:=Φ t m;refine gz Z Z λ N L h Q d=>?_;have o:=Φ v h;refine va Z<|aG Z<|ar<|?_;have c:=c.O (Φ m h);refine κ (aq Z (c.all gA gB))<|?_;have g:=g.O h;refine κ (aq Z (g.all bS bq))<|cf uq Z (vW f a _ _ _ (p.be o)) λ O i=>?_;have q:=Φ o i;refine vm Z<|bL Z Z<|bL Z Z<|va Z<|aG Z<|av<|aC Z<|cV Z Z<|ax<|ef (iJ Z z)<|bf<|ar<|?_;have c:=c.O i;refine κ (aq Z (c.all gA gB))<|?_;have d:=d.O i;refine κ (aq Z (d.all bS bq))<|cf uq Z (vW f b _ _ _ (p.be q)) λ R x=>?_;have A:=Φ q x;refine vm Z<|bL Z Z<|bL Z Z<|va Z<|aG Z<|av<|aC Z<|cV Z Z<|ax<|ef (iJ Z y)<|bf<|av<|aC Z<|κ (beq Z Z)<|vm Z<|er Z Z<|?_;refine aR Z (λ B=>beq (gt B Z) Z)<|κ (dS Z Z Z Z)<|ax<|fB (iJ Z D)<|ar<|va Z<|bc Z<|bR<|hE Z Z Z<|?_;exact⟨Z,A⟩
theorem aMO(f:aE)(a b:aw)(P:Option Addr)(k:Nat)(w:World)(s:bN.aF 8 w P k f.G)(c:f.br=0)(O:f.ground a=true)(yS:f.ground b=true)(py:dJ f a b b<0):
  Calls prog 159 #[.agg #[J f.O,J f.high,.slice P f.G.length k],.agg #[J a.x,J a.y],.agg #[J b.x,J b.y]] w (λ e w'=>(∃ far,rT f a b far)/\e=.returned (.tuple #[.pointer none,J 6])/\Ext w w'):=by
 obtain⟨g1,g2,g3,g4,g5,g6⟩:=aE.hB c;have AG:=aE.M c;have E:=aE.K O;have p:=aE.K yS;obtain⟨_,_,dQ,a2,a3,a4⟩:=aE.idx c E;obtain⟨_,_,hh,eZ,ig,yA⟩:=aE.idx c p;have al:=(aE.C c E).1;have am:=(aE.C c p).1;have ah:=(aE.C c E).2;have ai:=(aE.C c p).2;have af:=aE.GX O;have ag:=aE.GX yS;have Hj:0<f.G.length:=by have:=(aE.rV c E).1;omega
 have ad:(f.eS a != 0)=false:=by rw[al];rfl
 have ae:(f.eS b != 0)=false:=by rw[am];rfl
 have ao:(f.p1 a == 1)=false:=by rw[ah];simpa using af
 have ap:(f.p1 b == 1)=false:=by rw[ai];simpa using ag
 have an:decide (dJ f a b b<0)=true:=baG py;refine bT (n:=61) func159 Z Z Z ?_;refine cZ Z Z λ ch a6 aV cY d=>?_;have gp:=d.lt;refine gz Z Z λ dr b_ bh fl j=>?_;have bo:=Φ aV bh;have j8:=j.lt;refine gz Z Z λ fx e_ N oM g=>?_;have cj:=Φ bo N;have wF:=g.lt;refine va Z<|aG Z<|ar<|?_;have d:=d.O (Φ bh N);refine κ (aq Z (d.all gA gB))<|?_;have j:=j.O N;refine κ (aq Z (j.all bS bq))<|cf uq Z (vW f a _ _ _ (s.be cj)) λ mn t=>?_;have:=t.size;have eM:=Φ cj t;refine vm Z<|bL Z Z<|bL Z Z<|va Z<|aG Z<|av<|aC Z<|cV Z Z<|ax<|ef (iJ Z ad)<|bf<|ar<|?_;have d:=d.O t;refine κ (aq Z (d.all gA gB))<|?_;have g:=g.O t;refine κ (aq Z (g.all bS bq))<|cf uq Z (vW f b _ _ _ (s.be eM)) λ ow r=>?_;have:=r.size;have fP:=Φ eM r;refine vm Z<|bL Z Z<|bL Z Z<|va Z<|aG Z<|av<|aC Z<|cV Z Z<|ax<|ef (iJ Z ae)<|bf<|av<|aC Z<|κ (beq Z Z)<|vm (iJ Z ao)<|iC Z Z Z<|?_;refine vm Z<|iC Z Z Z<|κ (beq Z Z)<|κ (uZ Z (iJ Z ap))<|ax<|ef Z<|bf<|av<|?_;refine c_ [(0,0),(1,0),(2,2),(4,0),(6,2),(8,2)] [0,1,3,4,5,2,6,7,8,9] ?_;have d:=d.O r;refine dE Z (λ _ x=>aq Z ((d.O x).all gA gB))<|?_;have g:=g.O r;refine dE Z (λ _ x=>aq Z ((g.O x).all bS bq))<|aA Z (λ _=>aj qK Z)<|cr Z Z d et Z<|aA Z (λ _=>bY underlying22 Z)<|fO Z Z Z λ vk B Q A=>cT (e:=3) (cs:=[J (-1)]) Z (λ _=>GT) Z λ zq au F az X=>A _ _ ⟨Φ B F,?_⟩;have:=B.size;have gw:=Φ fP B;have mr:=Φ gw F;have Xh:=X.lt;refine fO Z Z Z λ xY o Q A=>ca ala Z Z ((ar5 _ _ f.G.length (-1) _ (aO.G (R:=bN) (by_:=8) (q:=-1) (X.O o) ⟨Z,b7.2 GP⟩ GP) Hj GE).mono ?_);rintro e rJ ⟨C,D,rfl,i,u⟩;refine⟨_,Z,A _ _ ⟨Φ o u,?_⟩⟩;have:=o.size;have n5:=Φ mr o;have:=u.size;have gU:=Φ n5 u;have W:=b4 i.lt;have tF:=dZ i.lt;have i:=i.dq (show w.heap.size<=xY.heap.size by omega);refine p5 (v:=.agg #[J f.O,J f.high,.slice P f.G.length k,J b.x,J b.y,.slice C ((List.replicate f.G.length (-1)).length) D,.slice none 0 0]) Z Z (λ _=>kg Z GT) Z<|fO Z Z Z λ zr m Q A=>gz Z Z λ NN L z ay K=>A _ _ ⟨Φ m z,?_⟩;have:=m.size;have nB:=Φ gU m;have yg:=Φ nB z;have Kj:=K.lt;refine aA Z (λ _=>fh Z)<|fn λ qq l=>?_;have:=l.size;have hQ:=Φ yg l;refine a7<|aC Z<|?_;have j:=j.O (Φ t (Φ r (Φ B (Φ F (Φ o (Φ u (Φ m (Φ z l))))))));refine κ (aq Z (j.all bS bq))<|?_;have K:=K.O l;have i:=i.O (Φ m (Φ z l));have Zf:cN.ce.aM 291 32 qq w.heap.size (τ.ai none) none 0 ([]:List cN):=τ.aM.nil _;refine ca abw Z Z ((ae4 w f P C none k D 0 L ((List.replicate f.G.length (-1))) ([]:List cN) b a 0 _ hQ c s K GE Zf (λ q I=>by simp[τ.ai]at I) (λ y aP=>by simp at aP) Kx GE GE GE).mono ?_);rintro e NQ ⟨M,c1,rfl,gj,q7,ak,G7,U⟩;refine cR ?_;have tS:=Ext.H hQ U (λ q I=>(baB.1 I).elim (λ h=>GE) (λ h=>by simp[τ.ai]at h));have xE:∀ q∈τ.ai M,qq.heap.size<=q:=λ q I=>(G7 q I).elim (λ h=>by simp[τ.ai]at h) id;refine ax<|aC Z<|?_;have i:=i.H U (λ q I h=>(baB.1 h).elim (λ h=>by exfalso;(have:=W q I;omega)) (λ h=>by simp[τ.ai]at h));refine ca alb Z Z ((arC w f P C M k D c1 L ((List.replicate f.G.length (-1))) (dh.push cN.all ([]:List cN) ⟨a,0,0+aE.mE b a⟩) b a a _ tS c s gj GE i q7 (λ q I Y=>by exfalso;(have:=W q I;omega)) ak (λ q aa ab=>by exfalso;(have:=xE q aa;(have:=W q ab;omega))) (vF.start c O a) z1.start p (by rw[dh.Rx,XW];simp;omega)).mono ?_);rintro e X8 ⟨far,dA,c2,kW,rfl,G,H,S,qe⟩;refine cR ?_;have wV:=Ext.H tS qe (λ q I=>(baB.1 I).elim (λ h=>GE) (λ h=>(bas.1 h).elim (λ h=>(i.lt q h).1) (λ h=>(q7.lt q h).1)));have V:=lC c S.len p;refine ax<|av<|av<|?_;refine c_ [(3,0),(5,0),(6,0),(8,0)] [0,1,2,3,4,5,6,7,8,9] ?_;refine bt Z Z<|aA Z (λ _=>cB Z)<|aA Z (λ _=>aj rm Z)<|cr Z Z G et Z<|bt Z Z<|?_;have g:=((g.O (Φ B (Φ F (Φ o (Φ u (Φ m (Φ z l))))))).H U (λ I=>(baB.1 I).elim (λ h=>GE) (λ h=>by simp[τ.ai]at h))).H qe (λ I=>(baB.1 I).elim (λ h=>GE) (λ h=>(bas.1 h).elim (λ h=>(show ∀ q,q∈τ.ai C->q=e_->False from λ q h Y=>by (have:=tF q h;omega)) _ h rfl) (λ h=>(show ∀ q,q∈τ.ai M->q=e_->False from λ q h Y=>by (have:=xE q h;omega)) _ h rfl)));refine dE Z (λ _ x=>aq Z ((g.O x).all bS bq))<|nQ Z Z pn Z (λ _ x=>uY w f P C dA k D c2 L far kW b b _ (Φ wV x) c s (G.O x) (by first|omega|(dsimp only;omega))) Z<|aA Z (λ _=>bD ((b.y*f.O+b.x).toNat) underlying22 cO Z Z (H.bv.Y (aL ((b.y*f.O+b.x).toNat) (by have bu:=V.1;omega))) GE (by have bu:=V.1;omega))<|dE Z (λ _ x=>aq Z (τ.aF.H ew ((H.O x).bv.O (aL ((b.y*f.O+b.x).toNat) (by have bu:=V.1;omega))) (S.get c p) Z aH))<|aA Z (λ _=>blt Z Z)<|fn λ NS T=>?_;have FG:=Φ wV T;refine a7<|fB (iJ Z an)<|ar<|va Z<|bc Z<|bR<|hE Z Z Z<|?_;have G:=G.O T;have H:=H.O T;exact⟨⟨far,S⟩,Z,FG⟩
theorem aMP(f:aE)(a b:aw)(P:Option Addr)(m:Nat)(w:World)(C:bN.aF 8 w P m f.G)(d:f.br=0)(Y:f.ground a=true)(yS:f.ground b=true)(py:0<=dJ f a b b):
  Calls prog 159 #[.agg #[J f.O,J f.high,.slice P f.G.length m],.agg #[J a.x,J a.y],.agg #[J b.x,J b.y]] w (λ e w'=>∃ p F A hj c far l,e=.returned (.tuple #[.pointer (bd p),J 0])/\rT f a b far/\aO w' p [J f.O,J f.high,.slice P f.G.length m,J b.x,J b.y,.slice F far.length hj,.slice A ((l:List cN).length) c] 253 (0,0)/\w.heap.size<=p/\bN.aM 3 8 w' w.heap.size (τ.ai F) F hj far/\(∀ q∈τ.ai F,q=p->False)/\Ext w w'):=by
 obtain⟨g1,g2,g3,g4,g5,g6⟩:=aE.hB d;have AG:=aE.M d;have O:=aE.K Y;have t:=aE.K yS;obtain⟨_,_,dQ,a2,a3,a4⟩:=aE.idx d O;obtain⟨_,_,hh,eZ,ig,yA⟩:=aE.idx d t;have al:=(aE.C d O).1;have am:=(aE.C d t).1;have ah:=(aE.C d O).2;have ai:=(aE.C d t).2;have af:=aE.GX Y;have ag:=aE.GX yS;have Hj:0<f.G.length:=by have:=(aE.rV d O).1;omega
 have ad:(f.eS a != 0)=false:=by rw[al];rfl
 have ae:(f.eS b != 0)=false:=by rw[am];rfl
 have ao:(f.p1 a == 1)=false:=by rw[ah];simpa using af
 have ap:(f.p1 b == 1)=false:=by rw[ai];simpa using ag
 have an:decide (dJ f a b b<0)=false:=baA GE;refine bT (n:=61) func159 Z Z Z ?_;refine cZ Z Z λ ch a6 aV cY g=>?_;have gp:=g.lt;refine gz Z Z λ dr b_ bh fl k=>?_;have bo:=Φ aV bh;have j8:=k.lt;refine gz Z Z λ fx e_ X oM i=>?_;have cj:=Φ bo X;have wF:=i.lt;refine va Z<|aG Z<|ar<|?_;have g:=g.O (Φ bh X);refine κ (aq Z (g.all gA gB))<|?_;have k:=k.O X;refine κ (aq Z (k.all bS bq))<|cf uq Z (vW f a _ _ _ (C.be cj)) λ mn D=>?_;have:=D.size;have eM:=Φ cj D;refine vm Z<|bL Z Z<|bL Z Z<|va Z<|aG Z<|av<|aC Z<|cV Z Z<|ax<|ef (iJ Z ad)<|bf<|ar<|?_;have g:=g.O D;refine κ (aq Z (g.all gA gB))<|?_;have i:=i.O D;refine κ (aq Z (i.all bS bq))<|cf uq Z (vW f b _ _ _ (C.be eM)) λ ow B=>?_;have:=B.size;have fP:=Φ eM B;refine vm Z<|bL Z Z<|bL Z Z<|va Z<|aG Z<|av<|aC Z<|cV Z Z<|ax<|ef (iJ Z ae)<|bf<|av<|aC Z<|κ (beq Z Z)<|vm (iJ Z ao)<|iC Z Z Z<|?_;refine vm Z<|iC Z Z Z<|κ (beq Z Z)<|κ (uZ Z (iJ Z ap))<|ax<|ef Z<|bf<|av<|?_;refine c_ [(0,0),(1,0),(2,2),(4,0),(6,2),(8,2)] [0,1,3,4,5,2,6,7,8,9] ?_;have g:=g.O B;refine dE Z (λ _ x=>aq Z ((g.O x).all gA gB))<|?_;have i:=i.O B;refine dE Z (λ _ x=>aq Z ((i.O x).all bS bq))<|aA Z (λ _=>aj qK Z)<|cr Z Z g et Z<|aA Z (λ _=>bY underlying22 Z)<|fO Z Z Z λ vk L Q K=>cT (e:=3) (cs:=[J (-1)]) Z (λ _=>GT) Z λ zq au S az BM=>K _ _ ⟨Φ L S,?_⟩;have:=L.size;have gw:=Φ fP L;have mr:=Φ gw S;have Xh:=BM.lt;refine fO Z Z Z λ xY s Q K=>ca ala Z Z ((ar5 _ _ f.G.length (-1) _ (aO.G (R:=bN) (by_:=8) (q:=-1) (BM.O s) ⟨Z,b7.2 GP⟩ GP) Hj GE).mono ?_);rintro e rJ ⟨u,z,rfl,j,G⟩;refine⟨_,Z,K _ _ ⟨Φ s G,?_⟩⟩;have:=s.size;have n5:=Φ mr s;have:=G.size;have gU:=Φ n5 G;have T:=b4 j.lt;have tF:=dZ j.lt;have j:=j.dq (show w.heap.size<=xY.heap.size by omega);refine p5 (v:=.agg #[J f.O,J f.high,.slice P f.G.length m,J b.x,J b.y,.slice u ((List.replicate f.G.length (-1)).length) z,.slice none 0 0]) Z Z (λ _=>kg Z GT) Z<|fO Z Z Z λ zr r Q K=>gz Z Z λ NN N H ay U=>K _ _ ⟨Φ r H,?_⟩;have:=r.size;have nB:=Φ gU r;have yg:=Φ nB H;have Kj:=U.lt;refine aA Z (λ _=>fh Z)<|fn λ qq o=>?_;have:=o.size;have hQ:=Φ yg o;refine a7<|aC Z<|?_;have k:=k.O (Φ D (Φ B (Φ L (Φ S (Φ s (Φ G (Φ r (Φ H o))))))));refine κ (aq Z (k.all bS bq))<|?_;have U:=U.O o;have j:=j.O (Φ r (Φ H o));have Zf:cN.ce.aM 291 32 qq w.heap.size (τ.ai none) none 0 ([]:List cN):=τ.aM.nil _;refine ca abw Z Z ((ae4 w f P u none m z 0 N ((List.replicate f.G.length (-1))) ([]:List cN) b a 0 _ hQ d C U GE Zf (λ q I=>by simp[τ.ai]at I) (λ y aP=>by simp at aP) Kx GE GE GE).mono ?_);rintro e NQ ⟨W,c1,rfl,gj,q7,ak,G7,nr⟩;refine cR ?_;have tS:=Ext.H hQ nr (λ q I=>(baB.1 I).elim (λ h=>GE) (λ h=>by simp[τ.ai]at h));have xE:∀ q∈τ.ai W,qq.heap.size<=q:=λ q I=>(G7 q I).elim (λ h=>by simp[τ.ai]at h) id;refine ax<|aC Z<|?_;have j:=j.H nr (λ q I h=>(baB.1 h).elim (λ h=>by exfalso;(have:=T q I;omega)) (λ h=>by simp[τ.ai]at h));refine ca alb Z Z ((arC w f P u W m z c1 N ((List.replicate f.G.length (-1))) (dh.push cN.all ([]:List cN) ⟨a,0,0+aE.mE b a⟩) b a a _ tS d C gj GE j q7 (λ q I V=>by exfalso;(have:=T q I;omega)) ak (λ q aa ab=>by exfalso;(have:=xE q aa;(have:=T q ab;omega))) (vF.start d Y a) z1.start t (by rw[dh.Rx,XW];simp;omega)).mono ?_);rintro e X8 ⟨far,dA,c2,kW,rfl,E,M,kA,qe⟩;refine cR ?_;have wV:=Ext.H tS qe (λ q I=>(baB.1 I).elim (λ h=>GE) (λ h=>(bas.1 h).elim (λ h=>(j.lt q h).1) (λ h=>(q7.lt q h).1)));have oL:=lC d kA.len t;refine ax<|av<|av<|?_;refine c_ [(3,0),(5,0),(6,0),(8,0)] [0,1,2,3,4,5,6,7,8,9] ?_;refine bt Z Z<|aA Z (λ _=>cB Z)<|aA Z (λ _=>aj rm Z)<|cr Z Z E et Z<|bt Z Z<|?_;have i:=((i.O (Φ L (Φ S (Φ s (Φ G (Φ r (Φ H o))))))).H nr (λ I=>(baB.1 I).elim (λ h=>GE) (λ h=>by simp[τ.ai]at h))).H qe (λ I=>(baB.1 I).elim (λ h=>GE) (λ h=>(bas.1 h).elim (λ h=>(show ∀ q,q∈τ.ai u->q=e_->False from λ q h V=>by (have:=tF q h;omega)) _ h rfl) (λ h=>(show ∀ q,q∈τ.ai W->q=e_->False from λ q h V=>by (have:=xE q h;omega)) _ h rfl)));refine dE Z (λ _ x=>aq Z ((i.O x).all bS bq))<|nQ Z Z pn Z (λ _ x=>uY w f P u dA m z c2 N far kW b b _ (Φ wV x) d C (E.O x) (by first|omega|(dsimp only;omega))) Z<|aA Z (λ _=>bD ((b.y*f.O+b.x).toNat) underlying22 cO Z Z (M.bv.Y (aL ((b.y*f.O+b.x).toNat) (by have bu:=oL.1;omega))) GE (by have bu:=oL.1;omega))<|dE Z (λ _ x=>aq Z (τ.aF.H ew ((M.O x).bv.O (aL ((b.y*f.O+b.x).toNat) (by have bu:=oL.1;omega))) (kA.get d t) Z aH))<|aA Z (λ _=>blt Z Z)<|fn λ NS n1=>?_;have FG:=Φ wV n1;refine a7<|ef (iJ Z an)<|bf<|aC Z<|va Z<|bc Z<|hE Z Z Z<|?_;have E:=E.O n1;have M:=M.O n1;exact⟨N,u,dA,z,c2,far,kW,Z,kA,E,GE,M,(λ q I V=>by exfalso;(have:=T q I;omega)),FG⟩
theorem aMN(f:aE)(a b:aw)(P:Option Addr)(g:Nat)(w:World)(k:bN.aF 8 w P g f.G)(h:jd f a b≠0):
  Calls prog 159 #[.agg #[J f.O,J f.high,.slice P f.G.length g],.agg #[J a.x,J a.y],.agg #[J b.x,J b.y]] w (λ e w'=>e=.returned (.tuple #[.pointer none,J (jd f a b)])/\Ext w w'):=by
 rcases abM f a b with⟨c,d⟩|⟨c,d,j⟩|⟨c,d,j,i⟩|⟨c,d,j,i|i⟩
 .rw[d];exact aMK f a b P g w k c
 .rw[j];exact aML f a b P g w k c d
 .rw[i];exact aMM f a b P g w k c d j
 .rw[i.2];exact(aMO f a b P g w k c d j i.1).mono λ e w' h=>⟨h.2.1,h.2.2⟩
 .exact absurd i.2 h
end Go.Proofs.YtooonebcoaleiaaGreat
