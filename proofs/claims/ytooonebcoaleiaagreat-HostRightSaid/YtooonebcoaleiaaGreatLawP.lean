import Derived.Test.YtooonebcoaleiaaGreatPpt
set_option linter.all false
set_option maxRecDepth 100000
set_option maxHeartbeats 4000000
open Go.RowKit
namespace Go.Proofs.YtooonebcoaleiaaGreat
open Tryz
abbrev bbH:=@List.flatMap_append
abbrev bb4:=@List.flatMap_cons
abbrev bcL:=@List.flatMap_nil
abbrev bdM:=@List.getElem_set
abbrev bfc:=@Option.map_eq_none_iff
abbrev bfI:=@Nat.lt_trichotomy
section
variable{f:aE}{l:List ed}{k:Nat}{c a:aw}{t:bb}
theorem as4{T:List bb}(h:tK f l T k=some c):
  0<=fU l (T.getD k default).id/\jd f (T.getD k default).an (l.getD (fU l (T.getD k default).id).toNat default).bG=0/\2<=(hW f (T.getD k default).an (l.getD (fU l (T.getD k default).id).toNat default).bG).length/\
  c=(hW f (T.getD k default).an (l.getD (fU l (T.getD k default).id).toNat default).bG).getD 1 default/\kX T c<=0:=by
 unfold tK at h;split at h
 .exact nomatch h
 .split at h
  .exact nomatch h
  .split at h
   .exact nomatch h
   .split at h
    .exact nomatch h
    .rename_i b a d e
     injection h with h
     subst h;exact⟨GE,by simpa using a,GE,rfl,GE⟩
def at5{b:aw->Int}(h:q6 f a b)(i:0<=b c):∃ r,hq f b a c=c::r/\(r=[]↔c=a):=by
 by_cases e:c=a
 .subst e;exact⟨[],Fs h,Kx⟩
 .obtain⟨k,l,j,m⟩:=h.O i e;refine⟨_,Ft h i e,⟨λ d=>?_,λ h=>absurd h e⟩⟩;by_cases g:nX f b c=a
  .rw[g,Fs h]at d;exact nomatch d
  .rw[Ft h j g]at d;exact nomatch d
theorem at6{b x:aw}(o:jd f a b=0)(F:2<=(hW f a b).length)(z:(hW f a b).getD 1 default=x):
  jd f a x=0/\jd f x b=0/\rp f a x+rp f x b=rp f a b/\a∈dG x/\f.ground x=true/\x≠a/\hW f a x=[a,x]:=by
 obtain⟨m,t,u,v⟩:=aRw o (n:=1) GE z;obtain⟨y,w,D,C,E,G⟩:=abN o;obtain⟨_,_,s,h,_,l⟩:=abN m;have d:=UU y w h;have c:(hW f a x).length=2:=by rw[u,baf];omega
 rw[l,bco]at c;have i:x≠a:=by
  intro e;obtain⟨r,g,j⟩:=at5 d h;rw[g,j.2 e]at c;simp at c
 have q:=Ft d h i;obtain⟨A,H,B,K⟩:=d.O h i;obtain⟨r,g,j⟩:=at5 d B;rw[q,g]at c;have p:r=[]:=baM (by simpa using c);have k:=j.1 p;refine⟨m,t,v,by rw[<-k];exact A,s,i,?_⟩;rw[l,q,g,p,k];rfl
theorem aO1{T:List bb}(l:T.Pairwise BJ)(p:k<T.length)(s:kX T c<=0):(T.set k ((T.getD k default).bG c)).Pairwise BJ:=by
 have m:∀ t∈T,t.an≠c:=λ t o e=>by have:=aLJ.2 ⟨t,o,e⟩;omega
 have d:T.getD k default=T[k]:=by rw[baa,bac p];rfl
 rw[baS]at l ⊢;intro i j b a q;rw[bak]at b a;have h:=l i j b a q;rw[bdM,bdM];split<;>split
 .omega
 .rename_i f g
  subst f;exact⟨by have n:=bbh bb.id d;have r:=h.1;show(T.getD k default).id<_;omega,λ e=>m _ (bbl a) e.symm⟩
 .rename_i f g
  subst g;exact⟨by have n:=bbh bb.id d;have r:=h.1;show _<(T.getD k default).id;omega,m _ (bbl b)⟩
 .exact h
theorem as2{f:aE}{l:List ed}{T:List bb}{Q:bb->Prop}(j:∀ t c,Q t->f.ground c=true->Q (t.bG c))(i:T.Pairwise BJ)(h:∀ t∈T,Q t):∀ k,k<=T.length->(lJ f l T k).1.Pairwise BJ/\∀ t∈(lJ f l T k).1,Q t
 | 0,_=>⟨i,h⟩
 | k+1,au=>by
  obtain⟨e,a⟩:=as2 (l:=l) j i h k GE;have m:=(XE (f:=f) (l:=l) (T:=T) k).1;cases d:tK f l (lJ f l T k).1 k with
  | none=>rw[Kw rfl d];exact⟨e,a⟩
  | some c =>
   rw[RR rfl d];obtain⟨d1,d2,d3,d4,d5⟩:=as4 d;obtain⟨_,_,_,_,g,_⟩:=at6 d2 d3 d4.symm;refine⟨aO1 e GE d5,λ t b=>?_⟩;rcases bbs b with b|rfl
   .exact a t b
   .exact j _ _ (a _ (gZ GE)) g
noncomputable def J_(f:aE)(l:List ed)(T:List bb)(i:Nat):Option aw:=tK f l (lJ f l T i).1 i
def aPV{T:List bb}(h:k<T.length):(T.set k t).getD k default=t:=by rw[baa,baw h];rfl
def aPU{T:List bb}{i:Nat}(h:k≠i):(T.set k t).getD i default=T.getD i default:=by rw[baa,baH h,baa]
theorem XD{f:aE}{l:List ed}{T:List bb}:∀ k,k<=T.length->∀ i,i<T.length->(lJ f l T k).1.getD i default=if i<k then(match J_ f l T i with|some c=>(T.getD i default).bG c|none=>T.getD i default)else T.getD i default
 | 0,_,i,ao=>by rw[ban GE];rfl
 | k+1,au,i,ao=>by
  have d:=XD (f:=f) (l:=l) (T:=T) k GE;have j:=(XE (f:=f) (l:=l) (T:=T) k).1;have g:=d k GE;rw[ban GE]at g;cases b:J_ f l T k with
  | none =>
   rw[Kw rfl b,d i ao];by_cases e:i=k
   .subst e;rw[ban GE,bap GE,b]
   .by_cases a:i<k
    .rw[bap a,bap GE]
    .rw[ban a,ban GE]
  | some c =>
   rw[RR rfl b];by_cases e:i=k
   .subst e;rw[aPV GE,bap GE,b,g]
   .rw[aPU (λ h=>e h.symm),d i ao];by_cases a:i<k
    .rw[bap a,bap GE]
    .rw[ban a,ban GE]
def as1{f:aE}{l:List ed}{T:List bb}:∀ k,k<=T.length->(lJ f l T k).2=((List.range k).filter λ i=>(J_ f l T i).isSome).map λ i=>(T.getD i default).id
 | 0,_=>rfl
 | k+1,au=>by
  have a:=as1 (f:=f) (l:=l) (T:=T) k GE;have d:=XD (f:=f) (l:=l) (T:=T) k GE k GE;rw[ban GE]at d;rw[bbS,bb8,baJ,bbN];cases b:J_ f l T k with
  | none=>rw[Kw rfl b,a];simp
  | some c=>rw[RR rfl b,a,d];simp
def aKO{W:ag}(h:uT W l=0):W.br=0/\rB W l=(W.M l).1/\uU W l=(W.M l).2:=by
 have a:W.br=0:=by
  apply bbt;intro b;rw[(aqA (l:=l) b).1]at h;exact b h
 by_cases c:(l.length:Int)<=200
 .have:=WK (l:=l) a c;exact⟨a,this.2⟩
 .rw[(aqB (l:=l) a GE).1]at h;exact nomatch h
theorem aeG{W:ag}(h:uT W l=0):
  Good (rB W l)/\(rB W l).ah.length=W.ah.length/\HO (uU W l)=true/\rB W l={W with ah:=(rB W l).ah}/\
  ∀ k,k<W.ah.length->((uU W l).any (λ y=>(W.ah.getD k default).id == y)=false/\(rB W l).ah.getD k default=W.ah.getD k default)\/
   ∃ c:aw,(uU W l).any (λ y=>(W.ah.getD k default).id == y)=true/\(rB W l).ah.getD k default=(W.ah.getD k default).bG c/\0<=fU l (W.ah.getD k default).id/\
    jd W.am (W.ah.getD k default).an (l.getD (fU l (W.ah.getD k default).id).toNat default).bG=0/\jd W.am c (l.getD (fU l (W.ah.getD k default).id).toNat default).bG=0/\jd W.am (W.ah.getD k default).an c=0/\
    rp W.am (W.ah.getD k default).an (l.getD (fU l (W.ah.getD k default).id).toNat default).bG=rp W.am c (l.getD (fU l (W.ah.getD k default).id).toNat default).bG+rp W.am (W.ah.getD k default).an c/\
    (W.ah.getD k default).an∈dG c:=by
 obtain⟨G,z,x⟩:=aKO h;have b:=Good.G G;rw[z,x];have s:=as2 (f:=W.am) (l:=l) (T:=W.ah) (Q:=λ t=>0<t.id/\t.id<W.next/\xj W.am W.aT.length t)
  (λ t c I C=>⟨I.1,I.2.1,⟨I.2.2.O,I.2.2.H,C,I.2.2.K,I.2.2.load⟩⟩) b.H (λ t A=>b.each A) W.ah.length (bao _)
 have u:=as8 W l;have v:=as1 (f:=W.am) (l:=l) (T:=W.ah) W.ah.length (bao _);have r:=b.H;refine⟨Good.W0 b Z Z Z Z Z b.db (by rw[u];exact b.dj) s.1 s.2,u,?_,Z,λ k a=>?_⟩
 .show HO (lJ W.am l W.ah W.ah.length).2=true;rw[v];refine asT ?_;rw[bfL];have H:((List.range W.ah.length).filter λ i=>(J_ W.am l W.ah i).isSome).Pairwise (· < ·):=List.Pairwise.filter _ List.pairwise_lt_range;refine List.Pairwise.imp_of_mem (λ{i j} d o K=>?_) H;have d:=baW.1 (bbT.1 d).1;have o:=baW.1 (bbT.1 o).1;rw[p6 d,p6 o];exact((baS.1 r) i j d o K).1
 .have m:=XD (f:=W.am) (l:=l) (T:=W.ah) W.ah.length (bao _) k a;rw[bap a]at m;have w:=XD (f:=W.am) (l:=l) (T:=W.ah) k GE k a;rw[ban GE]at w;have p:((W.M l).2).any (λ y=>(W.ah.getD k default).id == y)=(J_ W.am l W.ah k).isSome:=by
   show(lJ W.am l W.ah W.ah.length).2.any _=_;rw[v,bcz,bbD];constructor
   .rintro⟨y,B,e⟩;obtain⟨i,d,rfl⟩:=baV.1 B;obtain⟨g,L⟩:=bbT.1 d;have g:=baW.1 g;have e:(W.ah.getD k default).id=(W.ah.getD i default).id:=by simpa using e
    have:i=k:=by
     rw[p6 a,p6 g]at e;rcases bfI i k with q|q|q
     .have:=((baS.1 r) i k g a q).1;omega
     .exact q
     .have:=((baS.1 r) k i a g q).1;omega
    rw[<-this];exact L
   .intro n;exact⟨_,baV.2 ⟨k,bbT.2 ⟨baW.2 a,n⟩,Z⟩,Kx⟩
  cases n:J_ W.am l W.ah k with
  | none =>
   rw[n]at m p;exact .inl ⟨p,m⟩
  | some c =>
   rw[n]at m p;obtain⟨d1,d2,d3,d4,d5⟩:=as4 n;rw[w]at d1 d2 d3 d4;obtain⟨D,E,M,F,N,O,P⟩:=at6 d2 d3 d4.symm;exact .inr ⟨c,p,m,d1,d2,E,D,GE,F⟩
end
structure aS where
 by_:Int
 O:Int
 H:Int
 an:aw
 Y:Int
 deriving DecidableEq,Inhabited
namespace aS
def cells(a:aS):List Value:=[.int .i64 (a.by_),.int .i64 (a.O),.int .i64 (a.H),.int .i64 (a.an.x),.int .i64 (a.an.y),.int .i64 (a.Y)]
def ok(a:aS):Prop:=(Lit.int .i64 a.by_).wf=true/\(Lit.int .i64 a.O).wf=true/\(Lit.int .i64 a.H).wf=true/\(Lit.int .i64 a.an.x).wf=true/\(Lit.int .i64 a.an.y).wf=true/\(Lit.int .i64 a.Y).wf=true
def raw(j:Nat)(u:Value):Prop:=match j with
 | 0|1|2|3|4|5=>∃ n:Int,u=.int .i64 n
 | _=>True
def ui(a:aS):∀(j:Nat) u,a.cells[j]? =some u->raw j u:=by
 intro j u b
 match j,b with
 | 0,b|1,b|2,b|3,b|4,b|5,b=>exact⟨_,(bae b).symm⟩
 | j+6,b=>exact trivial
def cells_one(a:aS):∀ u∈a.cells,u.oneCell'=true:=by
 intro u b;unfold cells at b;simp only[baB,bbM,bcH]at b;rcases b with rfl|rfl|rfl|rfl|rfl|rfl<;>rfl
def ce:τ aS:=τ.flat 6 cells ok raw (λ _=>rfl) cells_one ui
def plain:ce.Y:=τ.nc
def zero:Value:=.agg #[.int .i64 0,.int .i64 0,.int .i64 0,.int .i64 0,.int .i64 0,.int .i64 0]
def M:∀(j:Nat) u,zero.cells[j]? =some u->ce.raw j u:=by
 intro j u a;have a:(#[(.int .i64 0:Value),(.int .i64 0:Value),(.int .i64 0:Value),(.int .i64 0:Value),(.int .i64 0:Value),(.int .i64 0:Value)]:Array Value)[j]? =some u:=a
 match j,a with
 | 0,a|1,a|2,a|3,a|4,a|5,a=>exact⟨_,(bae a).symm⟩
 | j+6,a=>cases a
def G:(prog.info? 43).map (λ i=>(i.zero,i.size,i.bytes))=some (some zero,6,48):=GT
theorem d9{by_:Nat}{w:World}{A:Option Addr}{c:Nat}{l:List aS}(h:ce.aF by_ w A c l)(f:0<l.length):
  ∃ b o,A=some ⟨b,o,none⟩/\∀(i:Nat) (a:aS),l[i]? =some a->w.cell? ⟨b,o+i*6,none⟩=some (.int .i64 (a.by_))/\w.cell? ⟨b,o+i*6+1,none⟩=some (.int .i64 (a.O))/\w.cell? ⟨b,o+i*6+2,none⟩=some (.int .i64 (a.H))/\w.cell? ⟨b,o+i*6+3,none⟩=some (.int .i64 (a.an.x))/\w.cell? ⟨b,o+i*6+4,none⟩=some (.int .i64 (a.an.y))/\w.cell? ⟨b,o+i*6+5,none⟩=some (.int .i64 (a.Y)):=by
 obtain⟨b,o,e,j⟩:=h.d9 f;refine⟨b,o,e,λ i a g=>?_⟩;obtain⟨es,⟨rfl,_⟩,d⟩:=j i a g;exact⟨d 0 _ Z,d 1 _ Z,d 2 _ Z,d 3 _ Z,d 4 _ Z,d 5 _ Z⟩
def C{by_:Nat}{w:World}{A:Option Addr}{c:Nat}{l:List aS}(h:ce.aF by_ w A c l):∀ a∈l,a.ok:=τ.aF.D1 (R:=ce) (Q:=ok) (λ{w cs a} (h:ce.bv w cs a)=>(show cs=a.cells/\a.ok from h).2) h
def sh:hg:=(.cons (.int .i64) (.cons (.int .i64) (.cons (.int .i64) (.cons (.cons (.int .i64) (.cons (.int .i64) .nil)) (.cons (.int .i64) .nil)))))
def opens(w:World)(cs:List Value)(h:sh.jF w cs):∃ a,ce.bv w cs a:=by
 obtain⟨_,_,rfl,_,_,⟨f,rfl,b⟩,⟨_,_,rfl,_,_,⟨j,rfl,g⟩,⟨_,_,rfl,_,_,⟨i,rfl,e⟩,⟨_,_,rfl,_,_,⟨_,_,rfl,_,_,⟨k,rfl,l⟩,⟨_,_,rfl,_,_,⟨m,rfl,c⟩,rfl⟩⟩,⟨_,_,rfl,_,_,⟨n,rfl,d⟩,rfl⟩⟩⟩⟩⟩:=h;exact⟨⟨f,j,i,⟨k,m⟩,n⟩,Z,b,g,e,l,c,d⟩
end aS
section
variable{o:aS}{l:List aS}
def axu:yp prog aS.cells 43 :=by
 intro a b w;obtain⟨a0,dQ,a2,⟨a3,a4⟩,a5⟩:=a;obtain⟨z8,hh,eZ,⟨ig,yA⟩,IQ⟩:=b;simp only[aS.cells,aS.mk.injEq,aw.mk.injEq];constructor
 .go_simp
  repeat' split
  all_goals simp_all
 .go_simp
  repeat' split
  all_goals simp_all
def axt:(prog).eqGuardType (prog).depth 43 =false:=GT
def yX{w:World}{cs:List Value}{a:aS}(h:aS.ce.bv w cs a):cs=a.cells:=bcs (show cs=a.cells/\a.ok from h)
def aS.K(o:aS):aS:=⟨o.by_,o.O,if o.O=5 then 0 else o.H,if o.O≠2/\o.O≠3 then⟨0,0⟩else o.an,if o.O≠1/\o.O≠5 then 0 else o.Y⟩
def aS.HJ(o:aS):Bool:= !bA o.by_ 0 7 || !bA o.O 1 5 || !bA o.H 0 1000000 || !bA o.an.x (-1000) 1000 || !bA o.an.y (-1000) 1000 || !bA o.Y 0 1000000
def aS.br(o:aS):Int:=if o.HJ=true then 1 else if(!decide (o.K=o))=true then 4 else 0
def aS.ajb(h:o.HJ=true):o.br=1:=by unfold aS.br;rw[bap h]
def aS.aAx(h:o.HJ=false)(a:(!decide (o.K=o))=true):o.br=4:=by unfold aS.br;rw[ban (by rw[h];decide),bap a]
def aS.aAy(h:o.HJ=false)(a:(!decide (o.K=o))=false):o.br=0:=by unfold aS.br;rw[ban (by rw[h];decide),ban (by rw[a];decide)]
def iN(l:List aS):Int:=if 100<l.length then 2 else match l.find? (λ o=>o.br != 0)with|some o=>o.br|none=>0
def aL7(h:100<l.length):iN l=2:=by unfold iN;rw[bap h]
def aL8(h:l.length<=100)(b:∀ i,i<l.length->(l.getD i default).br=0):iN l=0:=by
 unfold iN;rw[ban GE];have:l.find? (λ o=>o.br != 0)=none:=bbu.2 λ x c=>by
  obtain⟨i,a,rfl⟩:=bbf.1 c;have:=b i a;rw[p6 a]at this;simp[this]
 rw[this]
def aL6{k:Nat}(h:l.length<=100)(a:k<l.length)(c:∀ i,i<k->(l.getD i default).br=0)(d:¬(l.getD k default).br=0):iN l=(l.getD k default).br:=by
 unfold iN;rw[ban GE];have:l.find? (λ o=>o.br != 0)=some (l.getD k default):=by
  rw[bcp];refine⟨by simpa using d,k,a,(p6 a).symm,λ j b=>?_⟩;have:=c j b;rw[p6 GE]at this;simp[this]
 rw[this]
def Nq(n lo a:Int)(w:World):
  Calls prog 58 #[J n,J lo,J a] w (λ e w'=>e=.returned (.bool (bA n lo a))/\Ext w w'):=by
 refine bT (n:=15) func58 Z Z Z ?_;refine ar<|aG Z<|aC Z<|vm Z<|κ (iV Z Z)<|vm Z<|er Z Z<|er Z Z<|aR Z (λ b=>ble (gt b Z) (gt b Z))<|κ (cQ Z Z Z Z)<|bc Z<|b3 Z Z<|?_;exact⟨Z,(Ext.U w)⟩
theorem aLI(o:aS)(w:World):
  Calls prog 59 #[.agg #[J o.by_,J o.O,J o.H,J o.an.x,J o.an.y,J o.Y]] w (λ e w'=>e=.returned (.agg (aS.K o).cells.toArray)/\Ext w w'):=by
 refine bT (n:=27) func59 Z Z Z ?_;refine cZ Z Z λ ch a6 E cY b=>?_;have gp:=b.lt;refine cy GL Z λ dr b_ r fl a=>?_;have f:=Φ E r;refine ax<|av<|ar<|κ (aj lz Z)<|?_;have b:=b.O r;refine a1 Z b aH Z<|κ (beq Z Z)<|ax<|?_;refine j1 Z (λ H=>?_) (λ H=>?_)
 .refine rg<|κ (aj vS Z)<|ep Z Z b Z cO Z Z λ rH d b=>?_;have j:=Ext.H f d bn;refine ax<|av<|ar<|κ (aj lz Z)<|a1 Z b aH Z<|cV Z Z<|vm Z<|aR Z (λ c=>aj lz Z)<|aR Z (λ c=>aq (gt c Z) (b.one aH Z))<|aR Z (λ c=>bne (gt c Z) Z)<|κ (cQ Z Z Z Z)<|ax<|?_;refine dB Z (λ p=>?_) (λ p=>?_)
  .simp only[cb]at p;refine rg<|κ (v:=.agg #[J 0,J 0]) (ee Z)<|κ (aj xv Z)<|st (new:=[J o.by_,J o.O,J 0,J 0,J 0,J o.Y]) Z Z b Z bq Z Z Z λ vh k b=>?_;have u:=Ext.H j k bn;refine ax<|av<|ar<|κ (aj lz Z)<|a1 Z b aH Z<|cV Z Z<|vm Z<|aR Z (λ c=>aj lz Z)<|aR Z (λ c=>aq (gt c Z) (b.one aH Z))<|aR Z (λ c=>bne (gt c Z) Z)<|κ (cQ Z Z Z Z)<|ax<|?_;refine dB Z (λ q=>?_) (λ q=>?_)
   .simp only[cb]at q;refine rg<|κ (aj yK Z)<|ep Z Z b Z cO Z Z λ C8 s b=>?_;have V:=Ext.H u s bn;refine ax<|ar<|κ (aq Z (b.all iw eu))<|?_;have a:=((a.H d aJ).H k aJ).H s aJ;refine ck Z Z a Z eu Z Z λ zq X a=>?_;have O:=Ext.H V X bn;refine tC<|cJ (.cell Z (a.all iw eu) .nil)<|?_;exact⟨by rw[show aS.K o=(⟨o.by_,o.O,0,⟨0,0⟩,0⟩:aS)from by unfold aS.K;congr 1<;>(first|rfl|(split<;>first|rfl|omega))];rfl,O⟩
   .simp only[cb]at q;refine bf<|ar<|κ (aq Z (b.all iw eu))<|?_;have a:=(a.H d aJ).H k aJ;refine ck Z Z a Z eu Z Z λ Y R a=>?_;have N:=Ext.H u R bn;refine tC<|cJ (.cell Z (a.all iw eu) .nil)<|?_;exact⟨by rw[show aS.K o=(⟨o.by_,o.O,0,⟨0,0⟩,o.Y⟩:aS)from by unfold aS.K;congr 1<;>(first|rfl|(split<;>first|rfl|omega))];rfl,N⟩
  .simp only[cb]at p;refine bf<|av<|ar<|κ (aj lz Z)<|a1 Z b aH Z<|cV Z Z<|vm Z<|aR Z (λ c=>aj lz Z)<|aR Z (λ c=>aq (gt c Z) (b.one aH Z))<|aR Z (λ c=>bne (gt c Z) Z)<|κ (cQ Z Z Z Z)<|ax<|?_;refine dB Z (λ l=>?_) (λ l=>?_)
   .simp only[cb]at l;refine rg<|κ (aj yK Z)<|ep Z Z b Z cO Z Z λ sN x b=>?_;have L:=Ext.H j x bn;refine ax<|ar<|κ (aq Z (b.all iw eu))<|?_;have a:=(a.H d aJ).H x aJ;refine ck Z Z a Z eu Z Z λ rJ S a=>?_;have F:=Ext.H L S bn;refine tC<|cJ (.cell Z (a.all iw eu) .nil)<|?_;exact⟨by rw[show aS.K o=(⟨o.by_,o.O,0,⟨o.an.x,o.an.y⟩,0⟩:aS)from by unfold aS.K;congr 1<;>(first|rfl|(split<;>first|rfl|omega))];rfl,F⟩
   .simp only[cb]at l;refine bf<|ar<|κ (aq Z (b.all iw eu))<|?_;have a:=a.H d aJ;refine ck Z Z a Z eu Z Z λ zr A a=>?_;have P:=Ext.H j A bn;refine tC<|cJ (.cell Z (a.all iw eu) .nil)<|?_;exact⟨by rw[show aS.K o=(⟨o.by_,o.O,0,⟨o.an.x,o.an.y⟩,o.Y⟩:aS)from by unfold aS.K;congr 1<;>(first|rfl|(split<;>first|rfl|omega))];rfl,P⟩
 .refine bf<|av<|ar<|κ (aj lz Z)<|a1 Z b aH Z<|cV Z Z<|vm Z<|aR Z (λ c=>aj lz Z)<|aR Z (λ c=>aq (gt c Z) (b.one aH Z))<|aR Z (λ c=>bne (gt c Z) Z)<|κ (cQ Z Z Z Z)<|ax<|?_;refine dB Z (λ m=>?_) (λ m=>?_)
  .simp only[cb]at m;refine rg<|κ (v:=.agg #[J 0,J 0]) (ee Z)<|κ (aj xv Z)<|st (new:=[J o.by_,J o.O,J o.H,J 0,J 0,J o.Y]) Z Z b Z bq Z Z Z λ Bq i b=>?_;have y:=Ext.H f i bn;refine ax<|av<|ar<|κ (aj lz Z)<|a1 Z b aH Z<|cV Z Z<|vm Z<|aR Z (λ c=>aj lz Z)<|aR Z (λ c=>aq (gt c Z) (b.one aH Z))<|aR Z (λ c=>bne (gt c Z) Z)<|κ (cQ Z Z Z Z)<|ax<|?_;refine dB Z (λ h=>?_) (λ h=>?_)
   .simp only[cb]at h;refine rg<|κ (aj yK Z)<|ep Z Z b Z cO Z Z λ qq z b=>?_;have G:=Ext.H y z bn;refine ax<|ar<|κ (aq Z (b.all iw eu))<|?_;have a:=(a.H i aJ).H z aJ;refine ck Z Z a Z eu Z Z λ NQ C a=>?_;have W:=Ext.H G C bn;refine tC<|cJ (.cell Z (a.all iw eu) .nil)<|?_;exact⟨by rw[show aS.K o=(⟨o.by_,o.O,o.H,⟨0,0⟩,0⟩:aS)from by unfold aS.K;congr 1<;>(first|rfl|(split<;>first|rfl|omega))];rfl,W⟩
   .simp only[cb]at h;refine bf<|ar<|κ (aq Z (b.all iw eu))<|?_;have a:=a.H i aJ;refine ck Z Z a Z eu Z Z λ Fm K a=>?_;have Q:=Ext.H y K bn;refine tC<|cJ (.cell Z (a.all iw eu) .nil)<|?_;exact⟨by rw[show aS.K o=(⟨o.by_,o.O,o.H,⟨0,0⟩,o.Y⟩:aS)from by unfold aS.K;congr 1<;>(first|rfl|(split<;>first|rfl|omega))];rfl,Q⟩
  .simp only[cb]at m;refine bf<|av<|ar<|κ (aj lz Z)<|a1 Z b aH Z<|cV Z Z<|vm Z<|aR Z (λ c=>aj lz Z)<|aR Z (λ c=>aq (gt c Z) (b.one aH Z))<|aR Z (λ c=>bne (gt c Z) Z)<|κ (cQ Z Z Z Z)<|ax<|?_;refine dB Z (λ g=>?_) (λ g=>?_)
   .simp only[cb]at g;refine rg<|κ (aj yK Z)<|ep Z Z b Z cO Z Z λ Fo t b=>?_;have T:=Ext.H f t bn;refine ax<|ar<|κ (aq Z (b.all iw eu))<|?_;have a:=a.H t aJ;refine ck Z Z a Z eu Z Z λ Fp M a=>?_;have U:=Ext.H T M bn;refine tC<|cJ (.cell Z (a.all iw eu) .nil)<|?_;exact⟨by rw[show aS.K o=(⟨o.by_,o.O,o.H,⟨o.an.x,o.an.y⟩,0⟩:aS)from by unfold aS.K;congr 1<;>(first|rfl|(split<;>first|rfl|omega))];rfl,U⟩
   .simp only[cb]at g;refine bf<|ar<|κ (aq Z (b.all iw eu))<|ck Z Z a Z eu Z Z λ R_ D a=>?_;have B:=Ext.H f D bn;refine tC<|cJ (.cell Z (a.all iw eu) .nil)<|?_;exact⟨by rw[show aS.K o=(⟨o.by_,o.O,o.H,⟨o.an.x,o.an.y⟩,o.Y⟩:aS)from by unfold aS.K;congr 1<;>(first|rfl|(split<;>first|rfl|omega))];rfl,B⟩
theorem aeQ(o:aS)(w:World):
  Calls prog 34 #[.agg #[J o.by_,J o.O,J o.H,J o.an.x,J o.an.y,J o.Y]] w (λ e w'=>e=.returned (J o.br)/\Ext w w'):=by
 refine bT (n:=43) func34 Z Z Z ?_;refine cZ Z Z λ F D r E b=>?_;refine aG Z<|av<|ar<|κ (aj ri Z)<|a1 Z b aH Z<|cf L1 Z (Nq o.by_ 0 7 _) λ G f=>?_;have s:=Φ r f;refine κ (dj Z)<|vm Z<|aR Z (λ a=>aj lz Z)<|?_;have b:=b.O f;refine aR Z (λ a=>aq (gt a Z) (b.one aH Z))<|iD Z L1 (λ a=>b6 (gt a Z) (b6 Z (b6 Z Z))) (λ a=>Nq o.O 1 5 _) λ H j=>?_;have v:=Φ s j;refine aR Z (λ a=>dj (gt a Z))<|κ (dS Z Z Z Z)<|vm Z<|aR Z (λ a=>aj vS Z)<|?_;have b:=b.O j;refine aR Z (λ a=>aq (gt a Z) (b.one aH Z))<|iD Z L1 (λ a=>b6 (gt a Z) (b6 Z (b6 Z Z))) (λ a=>Nq o.H 0 1000000 _) λ B m=>?_;have z:=Φ v m;refine aR Z (λ a=>dj (gt a Z))<|κ (dS Z Z Z Z)<|vm Z<|aR Z (λ a=>aj xv Z)<|aR Z (λ a=>aj fj (gt a Z))<|?_;have b:=b.O m;refine aR Z (λ a=>aq (gt a Z) (b.one aH Z))<|iD Z L1 (λ a=>b6 (gt a Z) (b6 Z (b6 Z Z))) (λ a=>Nq o.an.x (-1000) 1000 _) λ C i=>?_;have y:=Φ z i;refine aR Z (λ a=>dj (gt a Z))<|κ (dS Z Z Z Z)<|vm Z<|aR Z (λ a=>aj xv Z)<|aR Z (λ a=>aj fk (gt a Z))<|?_;have b:=b.O i;refine aR Z (λ a=>aq (gt a Z) (b.one aH Z))<|iD Z L1 (λ a=>b6 (gt a Z) (b6 Z (b6 Z Z))) (λ a=>Nq o.an.y (-1000) 1000 _) λ K g=>?_;have u:=Φ y g;refine aR Z (λ a=>dj (gt a Z))<|κ (dS Z Z Z Z)<|vm Z<|aR Z (λ a=>aj yK Z)<|?_;have b:=b.O g;refine aR Z (λ a=>aq (gt a Z) (b.one aH Z))<|iD Z L1 (λ a=>b6 (gt a Z) (b6 Z (b6 Z Z))) (λ a=>Nq o.Y 0 1000000 _) λ L h=>?_;have k:=Φ u h;refine aR Z (λ a=>dj (gt a Z))<|κ (dS Z Z Z Z)<|ax<|?_;refine dB Z (λ c=>?_) (λ c=>?_)
 .refine ar<|bc Z<|bR<|b3 Z Z<|?_;exact⟨by rw[aS.ajb c];rfl,k⟩
 .refine bf<|av<|av<|?_;refine c_ [(0,0),(1,0),(2,0)] [0,1,2,3] ?_;have b:=b.O h;refine dE Z (λ _ x=>aq Z ((b.O x).all iw eu))<|nQ Z Z aCj Z (λ _ x=>aLI o _) Z<|dE Z (λ _ x=>aq Z ((b.O x).all iw eu))<|aA Z (λ _=>Cb axu axt (p:=aS.K o) (q:=o) Z Z)<|fn λ A t=>?_;have l:=Φ k t;refine a7<|?_;refine dB Z (λ d=>?_) (λ d=>?_)
  .refine ar<|bc Z<|bR<|b3 Z Z<|?_;exact⟨by rw[aS.aAx c d];rfl,l⟩
  .refine bf<|ar<|bc Z<|b3 Z Z<|?_;exact⟨by rw[aS.aAy c d];rfl,l⟩
theorem aeP(A:Option Addr)(c:Nat)(l:List aS)(w:World)(d:aS.ce.aF 48 w A c l):
  Calls prog 60 #[.slice A l.length c] w (λ e w'=>e=.returned (J (iN l))/\Ext w w'):=by
 have H:=d.M;refine bT (n:=21) func60 Z Z Z ?_;refine ar<|aG Z<|av<|aC Z<|κ (bY underlying76 Z)<|κ (gy Z Z)<|ax<|?_;refine c7 Z (λ s=>?_) (λ s=>?_)
 .refine ar<|bc Z<|bR<|b3 Z Z<|?_;exact⟨by rw[aL7 GE];rfl,(Ext.U w)⟩
 .refine bf<|av<|aC Z<|κ (bY underlying76 Z)<|vm Z<|ax<|bp<|?_;refine di (λ p o j=>∃ k:Nat,o=[(9,.slice A l.length c),(10,J (l.length:Int)),(11,J (k:Int))]/\p=l.length-k/\Ext w j/\(k<=l.length)/\(∀ i,i<k->(l.getD i default).br=0)) _ _ ⟨0,Z,Z,(Ext.U w),GE,λ i m=>GE⟩ (c' Z Z Z) ?_;rintro C z G ⟨k,rfl,rfl,a,F,b⟩;have:=a.size;refine ar<|cF Z Z<|ax<|av<|?_;refine c7 Z (λ v=>?_) (λ v=>?_)
  .refine bf<|av<|bp<|ar<|κ (bD k underlying76 eu Z Z ((d.be a).Y (aL k)) Z GE)<|κ (aq Z (τ.aF.G yX ((d.be a).O (aL k)) (cg (l:=l) (u:=default) GE) iw eu))<|cy GL Z λ L D q E f=>?_;have t:=Φ a q;refine ck Z Z f Z eu Z Z λ B y f=>?_;have x:=Ext.H t y bn;refine ax<|ar<|κ (aq Z (f.all iw eu))<|cf aa8 Z (aeQ (l.getD k default) _) λ K r=>?_;have h:=Φ x r;refine aG Z<|aC Z<|cV Z Z<|ax<|?_;refine fr Z (λ g=>?_) (λ g=>?_)
   .refine aC Z<|bc Z<|dO<|bR<|k1<|dO<|bR<|b3 Z Z<|?_;exact⟨by rw[aL6 GE (show k<l.length by omega) b (by simpa using g)];rfl,h⟩
   .refine dP<|bK<|cW Z Z Z<|?_;exact cM ⟨k+1,Z,Z,h,GE,pC b (by simpa using g)⟩
  .refine cI<|cH<|cU<|cG<|a7<|ar<|bc Z<|b3 Z Z<|?_;exact⟨by rw[aL8 GE (λ i m=>b i GE)];rfl,a⟩
end
def ax5:dU prog dw.ce 138 207 16:=dU.O (z:=dw.zero) (k:=2) underlying138 dw.G rfl rfl GP dw.M
def ax6:dU prog ed.ce 139 216 24:=dU.O (z:=ed.zero) (k:=3) underlying139 ed.G rfl rfl GP ed.M
def ZS:dU prog dm.ce 140 188 40:=dU.O (z:=dm.zero) (k:=5) underlying140 dm.G rfl rfl GP dm.M
def qk(o:aS):List dw:=if o.O=1 then[⟨o.H,o.Y⟩]else[]
def qm(o:aS):List ed:=if o.O=2 then[⟨o.H,⟨o.an.x,o.an.y⟩⟩]else[]
def ql(o:aS):List dm:=if o.O=3 then[⟨1,o.H,⟨o.an.x,o.an.y⟩,0⟩]else if o.O=4 then[⟨2,o.H,⟨0,0⟩,0⟩]else if o.O=5 then[⟨3,o.by_,⟨0,0⟩,o.Y⟩]else[]
theorem aik(o:aS)(Y:World)(u:Nat)(A B C:Option Addr)(a b c:Nat)(Kk:List dw)(Rz:List ed)(Ry:List dm)(w:World)(kU:Ext Y w)(cA:o.ok)(d:aO w u [.slice A Kk.length a,.slice B Rz.length b,.slice C Ry.length c] 181 (0,0))(k:dw.ce.aM 207 16 w Y.heap.size (τ.ai A) A a Kk)(i:ed.ce.aM 216 24 w Y.heap.size (τ.ai B) B b Rz)(j:dm.ce.aM 188 40 w Y.heap.size (τ.ai C) C c Ry)(m:∀ q∈τ.ai A,q=u->False)(p:∀ q∈τ.ai B,q=u->False)(l:∀ q∈τ.ai C,q=u->False)(F:∀ q∈τ.ai B,q∈τ.ai A->False)(z:∀ q∈τ.ai C,q∈τ.ai A->False)(D:∀ q∈τ.ai C,q∈τ.ai B->False)(HE:Kk.length<=100)(tG:Rz.length<=100)(qi:Ry.length<=100):
  Calls prog 101 #[.pointer (bd u),.agg #[J o.by_,J o.O,J o.H,J o.an.x,J o.an.y,J o.Y]] w (λ e w'=>∃ T a' X rW O cn,e=.returned (.tuple #[])/\aO w' u [.slice T (Kk++qk o).length a',.slice X (Rz++qm o).length rW,.slice O (Ry++ql o).length cn] 181 (0,0)/\dw.ce.aM 207 16 w' Y.heap.size (τ.ai T) T a' (Kk++qk o)/\ed.ce.aM 216 24 w' Y.heap.size (τ.ai X) X rW (Rz++qm o)/\dm.ce.aM 188 40 w' Y.heap.size (τ.ai O) O cn (Ry++ql o)/\(∀ q∈τ.ai T,q=u->False)/\(∀ q∈τ.ai X,q=u->False)/\(∀ q∈τ.ai O,q=u->False)/\(∀ q∈τ.ai X,q∈τ.ai T->False)/\(∀ q∈τ.ai O,q∈τ.ai T->False)/\(∀ q∈τ.ai O,q∈τ.ai X->False)/\(∀ q∈τ.ai T,q∈τ.ai A\/w.heap.size<=q)/\(∀ q∈τ.ai X,q∈τ.ai B\/w.heap.size<=q)/\(∀ q∈τ.ai O,q∈τ.ai C\/w.heap.size<=q)/\Mod (u::(τ.ai A++(τ.ai B++τ.ai C))) w w'):=by
 have bf:=kU.size;have mL:=d.lt;have XK:=b4 k.lt;have XL:=b4 i.lt;have ak:=b4 j.lt;refine bT (n:=84) func101 Z Z Z ?_;refine cZ Z Z λ ch a6 g cY y=>?_;have dL:=(Mod.U (u::(τ.ai A++(τ.ai B++τ.ai C))) w).trans (Mod.O g);have gp:=y.lt;refine ax<|ar<|κ (aj lz Z)<|a1 Z y aH Z<|ax<|bp<|ar<|κ (beq Z Z)<|aG Z<|?_;refine j1 Z (λ tq=>?_) (λ tq=>?_)
 .refine c_ [(4,0),(6,0),(8,0),(10,2),(11,3),(14,3)] [0,1,2,3,4,5,6,7,8,9,10,11,12,13,14] ?_;refine bt Z Z<|bt Z Z<|aA Z (λ _=>cB Z)<|aA Z (λ _=>aj aa9 Z)<|?_;have d:=d.O g;refine cr Z Z d akw Z<|aA Z (λ _=>aj vS Z)<|cr Z Z y aH Z<|aA Z (λ _=>aj yK Z)<|cr Z Z y aH Z<|p5 (v:=.agg #[J o.H,J o.Y]) Z Z (λ _=>kg Z GT) Z<|fO Z Z Z λ qs U Q f=>cT (e:=207) (cs:=[J o.H,J o.Y]) Z (λ _=>GT) Z λ sM ke eW M0 iU=>f _ _ ⟨Φ U eW,?_⟩;have:=U.size;have gi:=dL.trans (Mod.O U);have jk:=gi.trans (Mod.O eW);have a2:=iU.lt;have k:=k.O (Φ g (Φ U eW));refine en Z Z Z λ C7 N Q f=>ap ax5 τ.O (k.O N) ((aO.G (R:=dw.ce) (by_:=16) (q:=(⟨o.H,o.Y⟩:dw)) iU ⟨Z,(by obtain⟨Ka,kn,L,jx,jQ,ko⟩:=cA;exact⟨L,ko⟩)⟩ GP).be N) Z Z (by simp only[baj,baq];omega) (by simp only[baj,baq];omega) (by have:=N.size;omega) Z λ vh La aE iZ DY Me a0=>f _ _ ?_;have:=N.size;have mq:=jk.trans (Mod.O N);have jb:=mq.Y iZ (λ q I=> .inl (bav _ (bas.2 (.inl I))));refine aA Z (λ _=>cB Z)<|aA Z (λ _=>aj aa9 Z)<|?_;have d:=(d.O (Φ U (Φ eW N))).H iZ (λ I=>m _ I rfl);refine en Z Z Z λ xX fM Q f=>ep Z Z (d.O fM) Z aCk Z Z λ Bo nV d=>f _ _ ?_;have lu:=jb.trans (Mod.O fM);have mR:=lu.Y nV wx;refine fn λ sN fN=>?_;have ku:=mR.trans (Mod.O fN);refine bK<|ne<|cJ .nil<|?_;have d:=d.O fN;have eF:=sK (oN fM nV) fN;have DY:=DY.H eF (bM λ q I E=>baC (Me q I) (λ ah=>by (exact m q ah E)) (λ ah=>GE));have i:=((i.O (Φ g (Φ U (Φ eW N)))).H iZ F).H eF (bM p);have j:=((j.O (Φ g (Φ U (Φ eW N)))).H iZ z).H eF (bM l);have r:qk o=[(⟨o.H,o.Y⟩:dw)]:=by unfold qk;simp[*]
  have s:qm o=[]:=by unfold qm;simp[*]
  have t:ql o=[]:=by unfold ql;simp[*]
  rw[r,s,t];simp only[baP];exact⟨La,aE,B,b,C,c,Z,d,DY,i,j,(eh Me m),p,l,(fa (oq Me (fa F) XL)),(fa (oq Me (fa z) ak)),D,(λ q I=>(Me q I).imp id λ h=>GE),(λ q I=> .inl I),(λ q I=> .inl I),ku⟩
 .refine ar<|κ (beq Z Z)<|aG Z<|?_;refine j1 Z (λ Jj=>?_) (λ Jj=>?_)
  .refine c_ [(4,0),(6,0),(8,0),(10,2),(11,3),(14,3)] [0,1,2,3,4,5,6,7,8,9,10,11,12,13,14] ?_;refine bt Z Z<|bt Z Z<|aA Z (λ _=>cB Z)<|aA Z (λ _=>aj aba Z)<|?_;have d:=d.O g;refine cr Z Z d akx Z<|aA Z (λ _=>aj vS Z)<|cr Z Z y aH Z<|aA Z (λ _=>aj xv Z)<|dE Z (λ _ x=>aq Z ((y.O x).Y [J o.an.x,J o.an.y] bS bq Z))<|p5 (v:=.agg #[J o.H,J o.an.x,J o.an.y]) Z Z (λ _=>kg Z GT) Z<|fO Z Z Z λ zr V Q f=>cT (e:=216) (cs:=[J o.H,J o.an.x,J o.an.y]) Z (λ _=>GT) Z λ NN D2 gJ bm yo=>f _ _ ⟨Φ V gJ,?_⟩;have:=V.size;have nB:=dL.trans (Mod.O V);have yg:=nB.trans (Mod.O gJ);have Kj:=yo.lt;have i:=i.O (Φ g (Φ V gJ));refine en Z Z Z λ qq K Q f=>ap ax6 τ.O (i.O K) ((aO.G (R:=ed.ce) (by_:=24) (q:=(⟨o.H,⟨o.an.x,o.an.y⟩⟩:ed)) yo ⟨Z,(by obtain⟨Ka,kn,L,jx,jQ,ko⟩:=cA;exact⟨L,jx,jQ⟩)⟩ GP).be K) Z Z (by simp only[baj,baq];omega) (by simp only[baj,baq];omega) (by have:=K.size;omega) Z λ NP aJ aL J9 ZJ PN aP=>f _ _ ?_;have:=K.size;have hQ:=yg.trans (Mod.O K);have yi:=hQ.Y J9 (λ q I=> .inl (bav _ (bas.2 (.inr (bas.2 (.inl I))))));refine aA Z (λ _=>cB Z)<|aA Z (λ _=>aj aba Z)<|?_;have d:=(d.O (Φ V (Φ gJ K))).H J9 (λ I=>p _ I rfl);refine en Z Z Z λ Fo jB Q f=>ep Z Z (d.O jB) Z aCl Z Z λ R9 CT d=>f _ _ ?_;have o4:=yi.trans (Mod.O jB);have BA:=o4.Y CT wx;refine fn λ NU ej=>?_;have qz:=BA.trans (Mod.O ej);refine bK<|ne<|cJ .nil<|?_;have d:=d.O ej;have jP:=sK (oN jB CT) ej;have k:=((k.O (Φ g (Φ V (Φ gJ K)))).H J9 (fa F)).H jP (bM m);have ZJ:=ZJ.H jP (bM λ q I E=>baC (PN q I) (λ Q6=>by (exact p q Q6 E)) (λ Q6=>GE));have j:=((j.O (Φ g (Φ V (Φ gJ K)))).H J9 D).H jP (bM l);have r:qk o=[]:=by unfold qk;simp[*]
   have s:qm o=[(⟨o.H,⟨o.an.x,o.an.y⟩⟩:ed)]:=by unfold qm;simp[*]
   have t:ql o=[]:=by unfold ql;simp[*]
   rw[r,s,t];simp only[baP];exact⟨A,a,aJ,aL,C,c,Z,d,k,ZJ,j,m,(eh PN p),l,(oq PN F XK),z,(fa (oq PN (fa D) ak)),(λ q I=> .inl I),(λ q I=>(PN q I).imp id λ h=>GE),(λ q I=> .inl I),qz⟩
  .refine ar<|κ (beq Z Z)<|aG Z<|?_;refine j1 Z (λ xA=>?_) (λ xA=>?_)
   .refine c_ [(4,0),(6,0),(8,0),(10,2),(11,3),(14,3)] [0,1,2,3,4,5,6,7,8,9,10,11,12,13,14] ?_;refine bt Z Z<|bt Z Z<|aA Z (λ _=>cB Z)<|aA Z (λ _=>aj I7 Z)<|?_;have d:=d.O g;refine cr Z Z d Ut Z<|aA Z (λ _=>aj vS Z)<|cr Z Z y aH Z<|aA Z (λ _=>aj xv Z)<|dE Z (λ _ x=>aq Z ((y.O x).Y [J o.an.x,J o.an.y] bS bq Z))<|p5 (v:=.agg #[J 1,J o.H,J o.an.x,J o.an.y,J 0]) Z Z (λ _=>kg Z GT) Z<|fO Z Z Z λ NW W Q f=>cT (e:=188) (cs:=[J 1,J o.H,J o.an.x,J o.an.y,J 0]) Z (λ _=>GT) Z λ NZ a9 wS bh SQ=>f _ _ ⟨Φ W wS,?_⟩;have:=W.size;have wW:=dL.trans (Mod.O W);have mV:=wW.trans (Mod.O wS);have aT:=SQ.lt;have j:=j.O (Φ g (Φ W wS));refine en Z Z Z λ Sf H Q f=>ap ZS τ.O (j.O H) ((aO.G (R:=dm.ce) (by_:=40) (q:=(⟨1,o.H,⟨o.an.x,o.an.y⟩,0⟩:dm)) SQ ⟨Z,(by obtain⟨Ka,kn,L,jx,jQ,ko⟩:=cA;exact⟨ea,L,jx,jQ,ea⟩)⟩ GP).be H) Z Z (by simp only[baj,baq];omega) (by simp only[baj,baq];omega) (by have:=H.size;omega) Z λ Yb aK al uP Zv PI bg=>f _ _ ?_;have:=H.size;have vx:=mV.trans (Mod.O H);have FL:=vx.Y uP (λ q I=> .inl (bav _ (bas.2 (.inr (bas.2 (.inr I))))));refine aA Z (λ _=>cB Z)<|aA Z (λ _=>aj I7 Z)<|?_;have d:=(d.O (Φ W (Φ wS H))).H uP (λ I=>l _ I rfl);refine en Z Z Z λ bn l7 Q f=>ep Z Z (d.O l7) Z abb Z Z λ bo CK d=>f _ _ ?_;have Ss:=FL.trans (Mod.O l7);have St:=Ss.Y CK wx;refine fn λ bi Fx=>?_;have K1:=St.trans (Mod.O Fx);refine bK<|ne<|cJ .nil<|?_;have d:=d.O Fx;have pD:=sK (oN l7 CK) Fx;have k:=((k.O (Φ g (Φ W (Φ wS H)))).H uP (fa z)).H pD (bM m);have i:=((i.O (Φ g (Φ W (Φ wS H)))).H uP (fa D)).H pD (bM p);have Zv:=Zv.H pD (bM λ q I E=>baC (PI q I) (λ Q2=>by (exact l q Q2 E)) (λ Q2=>GE));have r:qk o=[]:=by unfold qk;simp[*]
    have s:qm o=[]:=by unfold qm;simp[*]
    have t:ql o=[(⟨1,o.H,⟨o.an.x,o.an.y⟩,0⟩:dm)]:=by unfold ql;simp[*]
    rw[r,s,t];simp only[baP];exact⟨A,a,B,b,aK,al,Z,d,k,i,Zv,m,p,(eh PI l),F,(oq PI z XK),(oq PI D XL),(λ q I=> .inl I),(λ q I=> .inl I),(λ q I=>(PI q I).imp id λ h=>GE),K1⟩
   .refine ar<|κ (beq Z Z)<|aG Z<|?_;refine j1 Z (λ am=>?_) (λ am=>?_)
    .refine c_ [(4,0),(6,0),(8,2),(9,3),(12,3)] [0,1,2,3,4,5,6,7,8,9,10,11,12] ?_;refine bt Z Z<|bt Z Z<|aA Z (λ _=>cB Z)<|aA Z (λ _=>aj I7 Z)<|?_;have d:=d.O g;refine cr Z Z d Ut Z<|aA Z (λ _=>aj vS Z)<|cr Z Z y aH Z<|p5 (v:=.agg #[J 2,J o.H,J 0,J 0,J 0]) Z Z (λ _=>kg Z GT) Z<|fO Z Z Z λ a3 P Q f=>cT (e:=188) (cs:=[J 2,J o.H,J 0,J 0,J 0]) Z (λ _=>GT) Z λ br ba zu be ae=>f _ _ ⟨Φ P zu,?_⟩;have:=P.size;have ay:=dL.trans (Mod.O P);have FD:=ay.trans (Mod.O zu);have aU:=ae.lt;have j:=j.O (Φ g (Φ P zu));refine en Z Z Z λ bj M Q f=>ap ZS τ.O (j.O M) ((aO.G (R:=dm.ce) (by_:=40) (q:=(⟨2,o.H,⟨0,0⟩,0⟩:dm)) ae ⟨Z,(by obtain⟨Ka,kn,L,jx,jQ,ko⟩:=cA;exact⟨ea,L,ea,ea,ea⟩)⟩ GP).be M) Z Z (by simp only[baj,baq];omega) (by simp only[baj,baq];omega) (by have:=M.size;omega) Z λ bk aI aM CM DX PK aQ=>f _ _ ?_;have:=M.size;have Ij:=FD.trans (Mod.O M);have vt:=Ij.Y CM (λ q I=> .inl (bav _ (bas.2 (.inr (bas.2 (.inr I))))));refine aA Z (λ _=>cB Z)<|aA Z (λ _=>aj I7 Z)<|?_;have d:=(d.O (Φ P (Φ zu M))).H CM (λ I=>l _ I rfl);refine en Z Z Z λ aW ab Q f=>ep Z Z (d.O ab) Z abb Z Z λ bl CP d=>f _ _ ?_;have ao:=vt.trans (Mod.O ab);have Ik:=ao.Y CP wx;refine fn λ a4 vq=>?_;have SA:=Ik.trans (Mod.O vq);refine bK<|ne<|cJ .nil<|?_;have d:=d.O vq;have JZ:=sK (oN ab CP) vq;have k:=((k.O (Φ g (Φ P (Φ zu M)))).H CM (fa z)).H JZ (bM m);have i:=((i.O (Φ g (Φ P (Φ zu M)))).H CM (fa D)).H JZ (bM p);have DX:=DX.H JZ (bM λ q I E=>baC (PK q I) (λ Hr=>by (exact l q Hr E)) (λ Hr=>GE));have r:qk o=[]:=by unfold qk;simp[*]
     have s:qm o=[]:=by unfold qm;simp[*]
     have t:ql o=[(⟨2,o.H,⟨0,0⟩,0⟩:dm)]:=by unfold ql;simp[*]
     rw[r,s,t];simp only[baP];exact⟨A,a,B,b,aI,aM,Z,d,k,i,DX,m,p,(eh PK l),F,(oq PK z XK),(oq PK D XL),(λ q I=> .inl I),(λ q I=> .inl I),(λ q I=>(PK q I).imp id λ h=>GE),SA⟩
    .refine ar<|κ (beq Z Z)<|aG Z<|?_;refine j1 Z (λ an=>?_) (λ an=>?_)
     .refine c_ [(4,0),(6,0),(8,0),(10,2),(11,3),(14,3)] [0,1,2,3,4,5,6,7,8,9,10,11,12,13,14] ?_;refine bt Z Z<|bt Z Z<|aA Z (λ _=>cB Z)<|aA Z (λ _=>aj I7 Z)<|?_;have d:=d.O g;refine cr Z Z d Ut Z<|aA Z (λ _=>aj ri Z)<|cr Z Z y aH Z<|aA Z (λ _=>aj yK Z)<|cr Z Z y aH Z<|p5 (v:=.agg #[J 3,J o.by_,J 0,J 0,J o.Y]) Z Z (λ _=>kg Z GT) Z<|fO Z Z Z λ X4 S Q f=>cT (e:=188) (cs:=[J 3,J o.by_,J 0,J 0,J o.Y]) Z (λ _=>GT) Z λ a5 bb N5 bc af=>f _ _ ⟨Φ S N5,?_⟩;have:=S.size;have az:=dL.trans (Mod.O S);have aB:=az.trans (Mod.O N5);have aV:=af.lt;have j:=j.O (Φ g (Φ S N5));refine en Z Z Z λ aX G Q f=>ap ZS τ.O (j.O G) ((aO.G (R:=dm.ce) (by_:=40) (q:=(⟨3,o.by_,⟨0,0⟩,o.Y⟩:dm)) af ⟨Z,(by obtain⟨Ka,kn,L,jx,jQ,ko⟩:=cA;exact⟨ea,Ka,ea,ea,ko⟩)⟩ GP).be G) Z Z (by simp only[baj,baq];omega) (by simp only[baj,baq];omega) (by have:=G.size;omega) Z λ a7 aF aN WA ZA PL aR=>f _ _ ?_;have:=G.size;have au:=aB.trans (Mod.O G);have aC:=au.Y WA (λ q I=> .inl (bav _ (bas.2 (.inr (bas.2 (.inr I))))));refine aA Z (λ _=>cB Z)<|aA Z (λ _=>aj I7 Z)<|?_;have d:=(d.O (Φ S (Φ N5 G))).H WA (λ I=>l _ I rfl);refine en Z Z Z λ aY ad Q f=>ep Z Z (d.O ad) Z abb Z Z λ aZ ai d=>f _ _ ?_;have av:=aC.trans (Mod.O ad);have aw:=av.Y ai wx;refine fn λ a8 yc=>?_;have aD:=aw.trans (Mod.O yc);refine bK<|ne<|cJ .nil<|?_;have d:=d.O yc;have aa:=sK (oN ad ai) yc;have k:=((k.O (Φ g (Φ S (Φ N5 G)))).H WA (fa z)).H aa (bM m);have i:=((i.O (Φ g (Φ S (Φ N5 G)))).H WA (fa D)).H aa (bM p);have ZA:=ZA.H aa (bM λ q I E=>baC (PL q I) (λ ag=>by (exact l q ag E)) (λ ag=>GE));have r:qk o=[]:=by unfold qk;simp[*]
      have s:qm o=[]:=by unfold qm;simp[*]
      have t:ql o=[(⟨3,o.by_,⟨0,0⟩,o.Y⟩:dm)]:=by unfold ql;simp[*]
      rw[r,s,t];simp only[baP];exact⟨A,a,B,b,aF,aN,Z,d,k,i,ZA,m,p,(eh PL l),F,(oq PL z XK),(oq PL D XL),(λ q I=> .inl I),(λ q I=> .inl I),(λ q I=>(PL q I).imp id λ h=>GE),aD⟩
     .refine dP<|bK<|ne<|cJ .nil<|?_;have d:=d.O g;have k:=k.O g;have i:=i.O g;have j:=j.O g;have r:qk o=[]:=by unfold qk;simp[*]
      have s:qm o=[]:=by unfold qm;simp[*]
      have t:ql o=[]:=by unfold ql;simp[*]
      rw[r,s,t];simp only[baP];exact⟨A,a,B,b,C,c,Z,d,k,i,j,m,p,l,F,z,D,(λ q I=> .inl I),(λ q I=> .inl I),(λ q I=> .inl I),dL⟩
def Rv{l:List aS}(h:iN l=0):l.length<=100/\∀ o∈l,o.br=0:=by
 unfold iN at h;split at h
 .cases h
 .refine⟨GE,λ o b=>?_⟩;split at h
  .rename_i x a
   have:=bdm a;rw[h]at this;exact nomatch this
  .rename_i a
   have:=bbu.1 a o b;simpa using this
section
variable{k:Nat}{l:List aS}
def A9(W:ag)(k:Nat):List (Int×Int):=(W.ah.take k).map λ t=>(t.id,t.H)
def aMc{W:ag}(h:k<W.ah.length):A9 W (k+1)=A9 W k++ [((W.ah.getD k default).id,(W.ah.getD k default).H)]:=by
 unfold A9;rw[Fa (d:=default) h,baJ];rfl
def aMe{W:ag}(a:Good W)(h:k<W.ah.length):dR (A9 W k) (W.ah.getD k default).id=none:=by
 unfold dR A9;rw[List.find?_map,bfc,bfc,bbu];intro x c;obtain⟨i,b,e⟩:=bbf.1 c;rw[baf]at b;rw[bfN]at e;have:=(baS.1 a.H) i k GE h GE;rw[<-e,p6 h];have d:=this.1;simp only[Function.comp_apply,ba9];omega
def may(W:ag)(o:aS):Bool:=if o.O=5 then decide (o.by_<(W.aT.length:Int)) && (o.by_ == o.by_)else(dR (A9 W W.ah.length) o.H).isSome && ((dR (A9 W W.ah.length) o.H).getD 0 == o.by_)
def jT(W:ag)(l:List aS)(k:Nat):List dw:=(l.take k).flatMap λ o=>if may W o=true then qk o else[]
def afK{W:ag}(h:k<l.length)(a:may W (l.getD k default)=true):jT W l (k+1)=jT W l k++qk (l.getD k default):=by
 unfold jT;rw[Fa (d:=default) h,bbH,bb4,bcL,baP,bap a]
def afJ{W:ag}(h:k<l.length)(a:may W (l.getD k default)=false):jT W l (k+1)=jT W l k:=by
 unfold jT;rw[Fa (d:=default) h,bbH,bb4,bcL,baP,ban (by rw[a];decide),baP]
def asU(W:ag)(l:List aS):∀ k,(jT W l k).length<=k
 | 0=>by simp[jT]
 | k+1=>by
  have b:=asU W l k;by_cases h:k<l.length
  .cases a:may W (l.getD k default)with
   | true=>rw[afK h a,bam];have:(qk (l.getD k default)).length<=1:=(by unfold qk;(repeat' split)<;>simp);omega
   | false=>rw[afJ h a];omega
  .have:jT W l (k+1)=jT W l k:=by unfold jT;rw[baE GE,baE GE]
   rw[this];omega
def j9(W:ag)(l:List aS)(k:Nat):List ed:=(l.take k).flatMap λ o=>if may W o=true then qm o else[]
def afO{W:ag}(h:k<l.length)(a:may W (l.getD k default)=true):j9 W l (k+1)=j9 W l k++qm (l.getD k default):=by
 unfold j9;rw[Fa (d:=default) h,bbH,bb4,bcL,baP,bap a]
def afN{W:ag}(h:k<l.length)(a:may W (l.getD k default)=false):j9 W l (k+1)=j9 W l k:=by
 unfold j9;rw[Fa (d:=default) h,bbH,bb4,bcL,baP,ban (by rw[a];decide),baP]
def asW(W:ag)(l:List aS):∀ k,(j9 W l k).length<=k
 | 0=>by simp[j9]
 | k+1=>by
  have b:=asW W l k;by_cases h:k<l.length
  .cases a:may W (l.getD k default)with
   | true=>rw[afO h a,bam];have:(qm (l.getD k default)).length<=1:=(by unfold qm;(repeat' split)<;>simp);omega
   | false=>rw[afN h a];omega
  .have:j9 W l (k+1)=j9 W l k:=by unfold j9;rw[baE GE,baE GE]
   rw[this];omega
def kq(W:ag)(l:List aS)(k:Nat):List dm:=(l.take k).flatMap λ o=>if may W o=true then ql o else[]
def afM{W:ag}(h:k<l.length)(a:may W (l.getD k default)=true):kq W l (k+1)=kq W l k++ql (l.getD k default):=by
 unfold kq;rw[Fa (d:=default) h,bbH,bb4,bcL,baP,bap a]
def afL{W:ag}(h:k<l.length)(a:may W (l.getD k default)=false):kq W l (k+1)=kq W l k:=by
 unfold kq;rw[Fa (d:=default) h,bbH,bb4,bcL,baP,ban (by rw[a];decide),baP]
def asV(W:ag)(l:List aS):∀ k,(kq W l k).length<=k
 | 0=>by simp[kq]
 | k+1=>by
  have b:=asV W l k;by_cases h:k<l.length
  .cases a:may W (l.getD k default)with
   | true=>rw[afM h a,bam];have:(ql (l.getD k default)).length<=1:=(by unfold ql;(repeat' split)<;>simp);omega
   | false=>rw[afL h a];omega
  .have:kq W l (k+1)=kq W l k:=by unfold kq;rw[baE GE,baE GE]
   rw[this];omega
def asX(W:ag)(l:List aS)(k:Nat):(jT W l k).length<=k/\(j9 W l k).length<=k/\(kq W l k).length<=k:=⟨asU W l k,asW W l k,asV W l k⟩
theorem asY(A:Option Addr)(c:Nat)(l:List aS)(N:ag.cS)(W:ag)(w:World)(V:aS.ce.aF 48 w A c l)(bk:ag.fd w N W):
  Calls prog 70 #[.slice A l.length c,.agg ((ag.cells N W).toArray)] w (λ e w'=>∃ g M b c1 f c2,((iN l≠0/\e=.returned (.tuple #[.slice none 0 0,.slice none 0 0,.slice none 0 0,J (iN l)]))\/(iN l=0/\W.br≠0/\e=.returned (.tuple #[.slice none 0 0,.slice none 0 0,.slice none 0 0,J W.br]))\/(iN l=0/\W.br=0/\e=.returned (.tuple #[.slice g (jT W l l.length).length M,.slice b (j9 W l l.length).length c1,.slice f (kq W l l.length).length c2,J 0])/\dw.ce.aM 207 16 w' w.heap.size (τ.ai g) g M (jT W l l.length)/\ed.ce.aM 216 24 w' w.heap.size (τ.ai b) b c1 (j9 W l l.length)/\dm.ce.aM 188 40 w' w.heap.size (τ.ai f) f c2 (kq W l l.length)))/\Ext w w'):=by
 have nS:=V.M;refine bT (n:=82) func70 Z Z Z ?_;refine cZ Z Z λ ch x aV cY a=>?_;have gp:=a.lt;refine va Z<|va Z<|va Z<|aG Z<|av<|aC Z<|cf abc Z (aeP _ _ l _ (V.be aV)) λ dr c0=>?_;have:=c0.size;have bo:=Φ aV c0;refine aG Z<|aC Z<|cV Z Z<|ax<|?_;refine fr Z (λ X=>?_) (λ X=>?_)
 .refine aC Z<|va Z<|va Z<|va Z<|bc Z<|bR<|cJ (.tmp Z (.tmp Z (.tmp Z (.tmp Z .nil))))<|?_;exact⟨none,0,none,0,none,0,.inl ⟨X,Z⟩,bo⟩
 .obtain⟨bs,_⟩:=Rv (by simpa using X);refine bf<|av<|ar<|?_;have a:=a.O c0;refine κ (aq Z (a.all cD bP))<|cf L7 Z (Gz N W _ (bk.be bo)) λ xW eW=>?_;have:=eW.size;have lM:=Φ bo eW;refine aG Z<|aC Z<|cV Z Z<|ax<|?_;refine fr Z (λ hk=>?_) (λ hk=>?_)
  .refine aC Z<|va Z<|va Z<|va Z<|bc Z<|bR<|cJ (.tmp Z (.tmp Z (.tmp Z (.tmp Z .nil))))<|?_;exact⟨none,0,none,0,none,0,.inr (.inl ⟨by simpa using X,hk,rfl⟩),lM⟩
  .have aZ:=Good.G (by simpa using hk);have tu:=aZ.dj;refine bf<|ar<|aeN Z λ rH z iP Wd a9=>?_;have ib:=Φ lM iP;refine aG Z<|av<|ar<|κ (aj fC Z)<|?_;have a:=a.O (Φ eW iP);refine a1 Z a gR Z<|κ (bY underlying26 Z)<|vm Z<|ax<|bp<|?_;refine di (λ bJ bH E=>∃ k:Nat,bH=[(0,.slice A l.length c),(3,.pointer (bd x)),(4,.slice none 0 0),(5,.slice none 0 0),(6,.slice none 0 0),(7,J 0),(10,.map (some z)),(30,.slice N.T W.ah.length N.t),(31,J (W.ah.length:Int)),(32,J (k:Int))]/\bJ=W.ah.length-k/\Ext w E/\aO E x (ag.cells N W) 28 (0,0)/\rR E z (A9 W k)/\(k<=W.ah.length)) _ _ ⟨0,Z,Z,ib,a,a9,GE⟩ (c' Z Z Z) ?_;rintro iZ bz zp ⟨k,rfl,rfl,ka,a,h,au⟩;have bu:=a.lt;have Xg:=h.lt;refine ar<|cF Z Z<|ax<|av<|?_;refine c7 Z (λ aN=>?_) (λ aN=>?_)
   .refine bf<|av<|bp<|ar<|κ (bD k underlying26 eg Z Z ((bk.T.be ka).Y (aL k)) Z GE)<|κ (aq Z (τ.aF.G gm ((bk.T.be ka).O (aL k)) (cg (l:=W.ah) (u:=default) GE) oI eg))<|cy s_ Z λ zq bC dv bE Y=>?_;have mr:=Φ ka dv;refine ck Z Z Y Z eg Z Z λ wN xM Y=>?_;have jD:=Ext.H mr xM bn;refine ax<|rg<|vm Z<|κ (aj r6 Z)<|a1 Z Y aH Z<|κ (aj ur Z)<|a1 Z Y aH Z<|?_;have h:=(h.O dv).H xM aJ;refine mu underlying179 underlying3 h (aMe aZ GE) Z Z Z λ X5 zb h=>?_;have FE:=Ext.H jD zb bn;refine nl<|bK<|cW Z Z Z<|?_;have bm:A9 W (k+1)=A9 W k++ [((W.ah.getD k default).id,(W.ah.getD k default).H)]:=aMc GE;have a:=((a.O dv).H xM aJ).H zb aJ;exact cM ⟨k+1,Z,Z,FE,a,(by rw[bm];exact h),GE⟩
   .refine cI<|cH<|cU<|cG<|a7<|ar<|cy aCm Z λ H5 D mQ bA a8=>?_;have rN:=Φ ka mQ;refine ax<|av<|aC Z<|κ (bY underlying76 Z)<|vm Z<|ax<|bp<|?_;have nP:k=W.ah.length:=GE
    subst nP;have a:=a.O mQ;have h:=h.O mQ;refine di (λ bJ bH E=>∃ j:Nat,∃ g:Option Addr,∃ M:Nat,∃ b:Option Addr,∃ c1:Nat,∃ f:Option Addr,∃ c2:Nat,bH=[(3,.pointer (bd x)),(4,.slice none 0 0),(5,.slice none 0 0),(6,.slice none 0 0),(7,J 0),(10,.map (some z)),(13,.pointer (bd D)),(42,.slice A l.length c),(43,J (l.length:Int)),(44,J (j:Int))]/\bJ=l.length-j/\Ext w E/\aO E x (ag.cells N W) 28 (0,0)/\rR E z (A9 W W.ah.length)/\aO E D [.slice g ((jT W l j).length) M,.slice b ((j9 W l j).length) c1,.slice f ((kq W l j).length) c2] 181 (0,0)/\dw.ce.aM 207 16 E w.heap.size (τ.ai g) g M (jT W l j)/\ed.ce.aM 216 24 E w.heap.size (τ.ai b) b c1 (j9 W l j)/\dm.ce.aM 188 40 E w.heap.size (τ.ai f) f c2 (kq W l j)/\(j<=l.length)/\(∀ q∈τ.ai g,q=x->False)/\(∀ q∈τ.ai g,q=z->False)/\(∀ q∈τ.ai g,q=D->False)/\(∀ q∈τ.ai b,q=x->False)/\(∀ q∈τ.ai b,q=z->False)/\(∀ q∈τ.ai b,q=D->False)/\(∀ q∈τ.ai b,q∈τ.ai g->False)/\(∀ q∈τ.ai f,q=x->False)/\(∀ q∈τ.ai f,q=z->False)/\(∀ q∈τ.ai f,q=D->False)/\(∀ q∈τ.ai f,q∈τ.ai g->False)/\(∀ q∈τ.ai f,q∈τ.ai b->False)) _ _ ⟨0,none,0,none,0,none,0,Z,Z,rN,a,h,a8,(τ.aM.nil _),(τ.aM.nil _),(τ.aM.nil _),GE,(λ q I F=>by (simp[τ.ai]at I)),(λ q I F=>by (simp[τ.ai]at I)),(λ q I F=>by (simp[τ.ai]at I)),(λ q I F=>by (simp[τ.ai]at I)),(λ q I F=>by (simp[τ.ai]at I)),(λ q I F=>by (simp[τ.ai]at I)),(λ q I F=>by (simp[τ.ai]at I)),(λ q I F=>by (simp[τ.ai]at I)),(λ q I F=>by (simp[τ.ai]at I)),(λ q I F=>by (simp[τ.ai]at I)),(λ q I F=>by (simp[τ.ai]at I)),(λ q I F=>by (simp[τ.ai]at I))⟩ (c' Z Z Z) ?_;rintro sG bx X8 ⟨j,g,M,b,c1,f,c2,rfl,rfl,wV,a,h,v,r,s,t,aB,P,Q,D_,O,R,uk,xt,S,T,GI,D',Un⟩;have bF:=a.lt;have Xj:=h.lt;have bB:=v.lt;have XU:=b4 r.lt;have Bj:=b4 s.lt;have NL:=b4 t.lt;have uL:=asX W l j;refine ar<|cF Z Z<|ax<|av<|?_;refine c7 Z (λ aY=>?_) (λ aY=>?_)
    .have y2:=aS.C V _ (gZ (d:=default) (show j<l.length by omega));refine bf<|av<|bp<|ar<|κ (bD j underlying76 eu Z Z ((V.be wV).Y (aL j)) Z GE)<|κ (aq Z (τ.aF.G yX ((V.be wV).O (aL j)) (cg (l:=l) (u:=default) GE) iw eu))<|cy GL Z λ Fq bG p bt C=>?_;have yl:=Φ wV p;have br:=C.lt;refine ck Z Z C Z eu Z Z λ bw o C=>?_;have:=o.size;have N_:=Ext.H yl o bn;refine ax<|aC Z<|κ (aj vS Z)<|a1 Z C aH Z<|?_;have h:=(h.O p).H o aJ;refine κ (lk underlying179 underlying3 UG h Z Z)<|vm Z<|bL Z Z<|bL Z Z<|va Z<|aG Z<|av<|ar<|κ (aj lz Z)<|a1 Z C aH Z<|κ (beq Z Z)<|ax<|?_;refine j1 Z (λ U=>?_) (λ U=>?_)
     .refine c_ [(1,0),(3,0),(5,0)] [0,1,2,3,4,5,6,7,8,9] ?_;refine aA Z (λ _=>aj ri Z)<|cr Z Z C aH Z<|aA Z (λ _=>aj ri Z)<|cr Z Z C aH Z<|aA Z (λ _=>aj lY Z)<|?_;have a:=(a.O p).H o aJ;refine cr Z Z a lZ Z<|aA Z (λ _=>bY underlying25 Z)<|aA Z (λ _=>blt Z Z)<|aA Z (λ _=>fh Z)<|aA Z (λ _=>fh Z)<|fn λ NZ y=>?_;have:=y.size;have mV:=Φ N_ y;refine a7<|aC Z<|vm Z<|er Z Z<|aR Z (λ K=>aj ri Z)<|?_;have C:=C.O y;refine aR Z (λ K=>aq (gt K Z) (C.one aH Z))<|aR Z (λ K=>beq (gt K Z) (gt K Z))<|κ (cQ Z Z Z Z)<|ax<|?_;refine dB Z (λ Jk=>?_) (λ Jk=>?_)
      .have B:may W (l.getD j default)=true:=by unfold may;rw[bap U];rw[<-Jk]
       refine rg<|κ (aq Z (C.all iw eu))<|?_;have v:=((v.O p).H o aJ).O y;have r:=((r.O p).H o (bV XU)).O y;have s:=((s.O p).H o (bV Bj)).O y;have t:=((t.O p).H o (bV NL)).O y;have aQ:∀ q∈(D::(τ.ai g++(τ.ai b++τ.ai f))),w.heap.size<=q:=by
        intro q I;simp only[baB,bas]at I;rcases I with I|I|I|I
        .omega
        .exact(r.lt q I).1
        .exact(s.lt q I).1
        .exact(t.lt q I).1
       refine ca aky Z Z ((aik (l.getD j default) w D _ _ _ _ _ _ _ _ _ _ mV y2 v r s t D_ uk GI xt D' Un GE GE GE).mono ?_);rintro e Se ⟨a4,ai,a5,ak,a6,al,rfl,SQ,bg,bh,bi,aF,aI,aK,ap,aw,ay,ae,af,ah,wu⟩;refine cR ?_;have BG:=Ext.H mV wu aQ;refine nl<|bK<|cW Z Z Z<|?_;have G:jT W l (j+1)=jT W l j++qk (l.getD j default):=afK GE B;have H:j9 W l (j+1)=j9 W l j++qm (l.getD j default):=afO GE B;have L:kq W l (j+1)=kq W l j++ql (l.getD j default):=afM GE B;have a:=a.O y;have aW:x∉(D::(τ.ai g++(τ.ai b++τ.ai f))):=by
        intro I;simp only[baB,bas]at I;rcases I with I|I|I|I
        .omega
        .exact(λ q (i:q∈τ.ai g) (m:q=x)=>show False by (exact P q i m)) _ I Z
        .exact(λ q (i:q∈τ.ai b) (m:q=x)=>show False by (exact O q i m)) _ I Z
        .exact(λ q (i:q∈τ.ai f) (m:q=x)=>show False by (exact S q i m)) _ I Z
       have a:=a.H wu aW;have h:=h.O y;have aX:z∉(D::(τ.ai g++(τ.ai b++τ.ai f))):=by
        intro I;simp only[baB,bas]at I;rcases I with I|I|I|I
        .omega
        .exact(λ q (i:q∈τ.ai g) (m:q=z)=>show False by (exact Q q i m)) _ I Z
        .exact(λ q (i:q∈τ.ai b) (m:q=z)=>show False by (exact R q i m)) _ I Z
        .exact(λ q (i:q∈τ.ai f) (m:q=z)=>show False by (exact T q i m)) _ I Z
       have h:=h.H wu aX;exact cM ⟨j+1,a4,ai,a5,ak,a6,al,Z,Z,BG,a,h,(by rw[G,H,L];exact SQ),(by rw[G];exact bg),(by rw[H];exact bh),(by rw[L];exact bi),GE,(eh ae P),(eh ae Q),aF,(eh af O),(eh af R),aI,ap,(eh ah S),(eh ah T),aK,aw,ay⟩
      .have B:may W (l.getD j default)=false:=by unfold may;rw[bap U];rw[<-Jk]
       refine dP<|bK<|cW Z Z Z<|?_;have G:jT W l (j+1)=jT W l j:=afJ GE B;have H:j9 W l (j+1)=j9 W l j:=afN GE B;have L:kq W l (j+1)=kq W l j:=afL GE B;have a:=a.O y;have h:=h.O y;have v:=((v.O p).H o aJ).O y;have r:=((r.O p).H o (bV XU)).O y;have s:=((s.O p).H o (bV Bj)).O y;have t:=((t.O p).H o (bV NL)).O y;exact cM ⟨j+1,g,M,b,c1,f,c2,Z,Z,mV,a,h,(by rw[G,H,L];exact v),(by rw[G];exact r),(by rw[H];exact s),(by rw[L];exact t),GE,P,Q,D_,O,R,uk,xt,S,T,GI,D',Un⟩
     .refine bf<|aC Z<|vm Z<|er Z Z<|aR Z (λ K=>aj ri Z)<|aR Z (λ K=>aq (gt K Z) (C.one aH Z))<|aR Z (λ K=>beq (gt K Z) (gt K Z))<|κ (cQ Z Z Z Z)<|ax<|?_;refine dB Z (λ Eu=>?_) (λ Eu=>?_)
      .have B:may W (l.getD j default)=true:=by unfold may;rw[ban U];rw[<-Eu]
       refine rg<|κ (aq Z (C.all iw eu))<|?_;have v:=(v.O p).H o aJ;have r:=(r.O p).H o (bV XU);have s:=(s.O p).H o (bV Bj);have t:=(t.O p).H o (bV NL);have aP:∀ q∈(D::(τ.ai g++(τ.ai b++τ.ai f))),w.heap.size<=q:=by
        intro q I;simp only[baB,bas]at I;rcases I with I|I|I|I
        .omega
        .exact(r.lt q I).1
        .exact(s.lt q I).1
        .exact(t.lt q I).1
       refine ca aky Z Z ((aik (l.getD j default) w D _ _ _ _ _ _ _ _ _ _ N_ y2 v r s t D_ uk GI xt D' Un GE GE GE).mono ?_);rintro e Fk ⟨a0,bj,a2,bl,a3,bq,rfl,SK,ba,bb,be,az,aD,aE,am,an,ao,aa,ab,ad,AV⟩;refine cR ?_;have Df:=Ext.H N_ AV aP;refine nl<|bK<|cW Z Z Z<|?_;have G:jT W l (j+1)=jT W l j++qk (l.getD j default):=afK GE B;have H:j9 W l (j+1)=j9 W l j++qm (l.getD j default):=afO GE B;have L:kq W l (j+1)=kq W l j++ql (l.getD j default):=afM GE B;have a:=(a.O p).H o aJ;have aT:x∉(D::(τ.ai g++(τ.ai b++τ.ai f))):=by
        intro I;simp only[baB,bas]at I;rcases I with I|I|I|I
        .omega
        .exact(λ q (i:q∈τ.ai g) (m:q=x)=>show False by (exact P q i m)) _ I Z
        .exact(λ q (i:q∈τ.ai b) (m:q=x)=>show False by (exact O q i m)) _ I Z
        .exact(λ q (i:q∈τ.ai f) (m:q=x)=>show False by (exact S q i m)) _ I Z
       have a:=a.H AV aT;have aU:z∉(D::(τ.ai g++(τ.ai b++τ.ai f))):=by
        intro I;simp only[baB,bas]at I;rcases I with I|I|I|I
        .omega
        .exact(λ q (i:q∈τ.ai g) (m:q=z)=>show False by (exact Q q i m)) _ I Z
        .exact(λ q (i:q∈τ.ai b) (m:q=z)=>show False by (exact R q i m)) _ I Z
        .exact(λ q (i:q∈τ.ai f) (m:q=z)=>show False by (exact T q i m)) _ I Z
       have h:=h.H AV aU;exact cM ⟨j+1,a0,bj,a2,bl,a3,bq,Z,Z,Df,a,h,(by rw[G,H,L];exact SK),(by rw[G];exact ba),(by rw[H];exact bb),(by rw[L];exact be),GE,(eh aa P),(eh aa Q),az,(eh ab O),(eh ab R),aD,am,(eh ad S),(eh ad T),aE,an,ao⟩
      .have B:may W (l.getD j default)=false:=by unfold may;rw[ban U];rw[<-Eu]
       refine dP<|bK<|cW Z Z Z<|?_;have G:jT W l (j+1)=jT W l j:=afJ GE B;have H:j9 W l (j+1)=j9 W l j:=afN GE B;have L:kq W l (j+1)=kq W l j:=afL GE B;have a:=(a.O p).H o aJ;have v:=(v.O p).H o aJ;have r:=(r.O p).H o (bV XU);have s:=(s.O p).H o (bV Bj);have t:=(t.O p).H o (bV NL);exact cM ⟨j+1,g,M,b,c1,f,c2,Z,Z,N_,a,h,(by rw[G,H,L];exact v),(by rw[G];exact r),(by rw[H];exact s),(by rw[L];exact t),GE,P,Q,D_,O,R,uk,xt,S,T,GI,D',Un⟩
    .refine cI<|cH<|cU<|cG<|a7<|av<|?_;refine c_ [(1,0),(3,0),(5,0)] [0,1,2,3,4,5,6,7,8,9] ?_;refine aA Z (λ _=>aj aa9 Z)<|cr Z Z v akw Z<|aA Z (λ _=>aj aba Z)<|cr Z Z v akx Z<|aA Z (λ _=>aj I7 Z)<|cr Z Z v Ut Z<|aA Z (λ _=>fh Z)<|aA Z (λ _=>fh Z)<|aA Z (λ _=>fh Z)<|aA Z (λ _=>fh Z)<|fn λ bv vo=>?_;have Yq:=Φ wV vo;refine a7<|rt<|cJ (.tmp Z (.tmp Z (.tmp Z (.tmp Z .nil))))<|?_;have r:=r.O vo;have s:=s.O vo;have t:=t.O vo;have aM:j=l.length:=GE
     subst aM;exact⟨g,M,b,c1,f,c2,.inr (.inr ⟨by simpa using X,by simpa using hk,rfl,r,s,t⟩),Yq⟩
end
section
variable{l:List aS}
def qX(W:ag)(l:List aS):Int:=if iN l≠0 then iN l else W.br
def NA{W:ag}(h:qX W l=0):iN l=0/\W.br=0:=by
 unfold qX at h;split at h
 .rename_i a;exact absurd h a
 .rename_i a;exact⟨by simpa using a,h⟩
def aPg{W:ag}(h:qX W l=0):l.length<=100:=(Rv (NA h).1).1
theorem aPh(A:Option Addr)(c:Nat)(l:List aS)(d:ag.cS)(W:ag)(w:World)(i:aS.ce.aF 48 w A c l)(j:ag.fd w d W)(h:qX W l≠0):Calls prog 70 #[.slice A l.length c,.agg (ag.cells d W).toArray] w (λ e w'=>e=.returned (.tuple #[.slice none 0 0,.slice none 0 0,.slice none 0 0,.int .i64 (qX W l)])/\Ext w w'):=by
 refine(asY A c l d W w i j).mono λ e w' k=>?_;obtain⟨p,n,m,c1,o,c2,(⟨a,b⟩|⟨a,b,g⟩|⟨a,b,_⟩),f⟩:=k
 .exact⟨by rw[b];unfold qX;rw[bap a],f⟩
 .exact⟨by rw[g];unfold qX;rw[ban (by simpa using a)],f⟩
 .exact absurd (by unfold qX;rw[ban (by simpa using a)];exact b) h
theorem asZ(A:Option Addr)(c:Nat)(l:List aS)(j:ag.cS)(W:ag)(w:World)(n:aS.ce.aF 48 w A c l)(q:ag.fd w j W)(h:qX W l=0):Calls prog 70 #[.slice A l.length c,.agg (ag.cells j W).toArray] w (λ e w'=>∃ d f a c1 b c2,e=.returned (.tuple #[.slice d (jT W l l.length).length f,.slice a (j9 W l l.length).length c1,.slice b (kq W l l.length).length c2,.int .i64 0])/\dw.ce.aM 207 16 w' w.heap.size (τ.ai d) d f (jT W l l.length)/\ed.ce.aM 216 24 w' w.heap.size (τ.ai a) a c1 (j9 W l l.length)/\dm.ce.aM 188 40 w' w.heap.size (τ.ai b) b c2 (kq W l l.length)/\Ext w w'):=by
 obtain⟨s,m⟩:=NA h;refine(asY A c l j W w n q).mono λ e w' t=>?_;obtain⟨d,f,a,c1,b,c2,(⟨g,i⟩|⟨g,i,k⟩|⟨g,i,k,p,o,r⟩),u⟩:=t
 .exact absurd s g
 .exact absurd m i
 .exact⟨d,f,a,c1,b,c2,k,p,o,r,u⟩
end
section
variable{o:Oper}{id:Nat}{op:Op}
section
variable{F:List Nat}{P:Program}{ops:Array Oper}{Q:Exit->Act->World->Prop}{a_:Nat->Nat}
def yx(F:List Nat)(P:Program)(b:Array Oper)(c:World)(o:Oper)(v:Value)(a:Act):Prop :=
  (Region.wanted o (yielded b a.tmps)=true/\∀ w,Mod F c w->CX P w v ((execOp a.eval o).run P w))\/
  (Region.wanted o (yielded b a.tmps)=false/\v=undef)
def yx.of_same{c:World}{v:Value}{a b:Act}(h:yx F P ops c o v a)(d:execOp b.eval o=execOp a.eval o)(e:Region.wanted o (yielded ops b.tmps)=Region.wanted o (yielded ops a.tmps)):yx F P ops c o v b:=by
  unfold yx at *;rw[d,e];exact h
theorem yx.on{w0 a8:World}{v:Value}{a:Act}(h:yx F P ops w0 o v a)(hx:Mod F w0 a8):yx F P ops a8 o v a :=
  h.imp (λ⟨aa,ab⟩=>⟨aa,λ w hw=>ab w (hx.trans hw)⟩) id
theorem Yields.aNy{w0:World}{v:Value}{a:Act}(h:Yields P ops o v a):yx F P ops w0 o v a :=
  h.imp (λ⟨aa,ab⟩=>⟨aa,λ w _=>by rw[ab w];exact⟨rfl,rfl⟩⟩) id
def aPv(F:List Nat)(P:Program)(d:Array Oper)(Q:Exit->Act->World->Prop)(c:Nat->Nat)(i:Nat)(K:Act->World->Prop)(a:Act)(b:World):Prop :=
  ∃ o,d[i]? =some o/\
    ((c i<=1/\∃ v,yx F P d b o v a/\K (a.put o.dst v) b)\/
     (1<c i/\∀ w,Ext b w->wpOp P d Q i (λ e w'=>(c i=2->Mod F b w')/\K e w') a w))
def O4(F:List Nat)(P:Program)(b:Array Oper)(Q:Exit->Act->World->Prop)(c:Nat->Nat):Nat->Array Bool->Act->World->Prop
  | 0,l,a,w0=>Region.ready .any b l=[]/\∀ w,Ext w0 w->Q .normal a w
  | f+1,l,a,w0=>(Region.ready .any b l=[]->∀ w,Ext w0 w->Q .normal a w)/\∀ i∈Region.ready .any b l,aPv F P b Q c i (O4 F P b Q c f (l.setIfInBounds i true)) a w0
theorem LL:∀(f:Nat) (l:Array Bool) (a:Act) (g:World),O4 F P ops Q a_ f l a g->∀ w,Ext g w->wpAny P .any ops Q f l a w
  | 0,_,_,_,h,w,hw=>⟨h.1,h.2 w hw⟩
  | f+1,l,a,g,h,w,hw=>⟨λ j=>h.1 j w hw,λ i k=>by
      obtain⟨o,p,c⟩:=h.2 i k;rcases c with⟨_,v,I,b⟩|⟨_,c⟩
      · unfold wpOp
        simp only[p];rcases I with⟨d,I⟩|⟨d,rfl⟩
        · rw[bap d]
          refine .inl ?_;have I:=I w (Mod.O hw);unfold Oper.wp;generalize (execOp a.eval o).run P w=r at *
          cases r with
          | ok n w' =>
            cases n<;>simp only[CX]at I<;>simp only[Oper.upon]
            case value u=>obtain⟨rfl,rfl⟩:=I;exact LL f _ _ _ b _ hw
            case skip=>obtain⟨rfl,rfl⟩:=I;exact LL f _ _ _ b _ hw
            case enter z args=>obtain⟨rfl,q⟩:=I;exact q.mono λ e A ⟨s,t⟩=>by subst s;exact LL f _ _ _ b _ (hw.O t)
          | halt x w'=>simp only[CX]at I
        · rw[ban (by rw[d];decide)]
          exact LL f _ _ _ b _ hw
      · exact bcR (λ y w' m=>LL f _ _ _ m.2 _ (Ext.U w')) (c w hw)⟩
theorem alu{i:Nat}{m:Oper}{v:Value}(S:ops[i]? =some m)(r:a_ i<=1)(p':∀(j:Nat) (o:Oper) cs b,ops[j]? =some o->o.op≠ .select cs b)
    (j3:∀ c a w,¬Q (.panic c) a w)(aQ:World->Act->Prop)(n3:∀ g a,aQ g a->yx F P ops g m v a)
    (z2:∀ g a C,aQ g a->execOp C.eval m=execOp a.eval m->Region.wanted m (yielded ops C.tmps)=Region.wanted m (yielded ops a.tmps)->aQ g C)
    (z3:∀ g t a,Mod F g t->aQ g a->aQ t a)(R:Nat->Bool)(N:Array Bool)
    (hR:∀ j x,ops[j]? =some x->j≠i->(∀ e∈x.after,Region.binds .any e=true->R e.on=true)->R j=true)
    (E:(∀ g t a,aQ g a->aQ t a)\/∀ j,R j=true->3<=a_ j->N.getD j true=true):
    ∀(f:Nat) (l:Array Bool) (a:Act) (g:World),(∀ j,l.getD j false=true->R j=true)->(∀ j,N.getD j true=true->l.getD j true=true)->
      (∀ j x,ops[j]? =some x->j≠i->l.getD j true=false->(∀ e∈x.after,Region.binds .any e=true->e.on≠i)->m.apart ops x=true)->
      i∈Region.ready .any ops l->aQ g a->O4 F P ops Q a_ f (l.setIfInBounds i true) (a.put m.dst v) g->O4 F P ops Q a_ (f+1) l a g:=by
  intro f;induction f with
  | zero =>
    intro l a g _ _ _ A s H;refine⟨λ h=>(by rw[h]at A;cases A),λ j K=>?_⟩;by_cases p:j=i
    · subst p;exact⟨m,S,.inl ⟨r,v,n3 _ _ s,H⟩⟩
    · have:=bc5 K p
      rw[H.1]at this;cases this
  | succ f b0 =>
    intro l a g Ha G_ X A s H;refine⟨λ h=>(by rw[h]at A;cases A),λ j K=>?_⟩;by_cases p:j=i
    · subst p;exact⟨m,S,.inl ⟨r,v,n3 _ _ s,H⟩⟩
    · obtain⟨x,B,q⟩:=H.2 j (bc5 K p)
      obtain⟨L,n,Hi,eA⟩:=bei.1 K;obtain rfl:n=x:=by rw[B]at Hi;exact(bae Hi).symm
      have QG:∀ e∈n.after,Region.binds .any e=true->e.on≠i:=λ e U O aa=>by
        have q:=eA e U O;have aN:=(bei.1 A).1;rw[aa]at q;rcases ba2 i l.size with z|z
        · simp[z]at aN q;rw[aN]at q;cases q
        · simp[bbj z]at q
      have Qd:=X j n B p L QG;obtain⟨T,a2,a3⟩:=be1 Qd;have QU:∀ cs b,m.op≠ .select cs b:=λ cs b=>p' i m cs b S;have V:∀ cs b,n.op≠ .select cs b:=λ cs b=>p' j n cs b B;have be:∀ t a u,aQ t a->aQ t (a.put n.dst u):=λ t a u s=>z2 _ _ _ s (bdk m QU a n.dst u a3) (bdB m a n.dst u a3);have GY:R j=true:=hR j n B p λ e U O=>Ha _ (eA e U O);have Hb:∀ k,(l.setIfInBounds j true).getD k false=true->R k=true:=λ k r=>by
        by_cases y:j=k
        · rw[<-y];exact GY
        · rw[bcM false y]at r;exact Ha k r
      have W:∀ k,N.getD k true=true->(l.setIfInBounds j true).getD k true=true:=λ k r=>by
        by_cases y:j=k
        · subst y
          rcases ba2 j l.size with z|z
          · simp[z]
          · simp[bbj z]
        · rw[bcM true y];exact G_ k r
      have Y:∀ k G,ops[k]? =some G->k≠i->(l.setIfInBounds j true).getD k true=false->
          (∀ e∈G.after,Region.binds .any e=true->e.on≠i)->m.apart ops G=true:=λ k G r sm Ho iy=>by
        refine X k G r sm ?_ iy;by_cases y:j=k
        · subst y;exact L
        · rw[bcM true y]at Ho;exact Ho
      have Hn:=bc5 A (bdg p);rcases q with⟨M,u,I,hK⟩|⟨M,q⟩
      · refine⟨n,B,.inl ⟨M,u,I.of_same (bdk n V a m.dst v T).symm (bdB n a m.dst v T).symm,?_⟩⟩
        refine b0 _ _ _ Hb W Y Hn (be _ _ _ s) ?_;rw[bbX _ _ p,<-bcB a v u a2];exact hK
      · refine⟨n,B,.inr ⟨M,λ w hw=>?_⟩⟩
        refine bcR (λ C w' D=>⟨D.2.1,?_⟩) (agt (aQ:=aQ g) B T a2 V j3 (be g) (λ a d s=>z2 _ _ _ s Z Z) s (q w hw));have QW:aQ w' C:=by
          rcases ba2 (a_ j) 3 with bW|uG
          · exact z3 _ _ _ (D.2.1 GE) D.1
          · rcases E with E|E
            · exact E _ _ _ D.1
            · have:=G_ j (E j GY uG);rw[L]at this;cases this
        refine b0 _ _ _ Hb W Y Hn QW ?_;rw[bbX _ _ p];exact D.2.2
def N3(F:List Nat)(P:Program)(c:Array Oper)(Q:Exit->Act->World->Prop)(b:Nat->Nat):List Nat->Act->World->Prop
  | [],a,w0=>∀ w,Ext w0 w->Q .normal a w
  | i::r,a,w0=>∃ o,c[i]? =some o/\
      ((b i=0/\∃ v,yx F P c w0 o v a/\N3 F P c Q b r (a.put o.dst v) w0)\/
       (b i=1/\∃ v,Yields P c o v a/\N3 F P c Q b r (a.put o.dst v) w0)\/
       (1<b i/\∀ w,Ext w0 w->wpOp P c Q i (λ d w'=>(b i=2->Mod F w0 w')/\N3 F P c Q b r d w') a w))
theorem TM(p:Region.noSelect ops=true)(n:∀ c a w,¬Q (.panic c) a w):∀(r:List Nat) (l:Array Bool) (a:Act) (e:World),l.size=ops.size->l1 ops a_ r l=true->N3 F P ops Q a_ r a e->O4 F P ops Q a_ r.length l a e
  | [],l,a,e,_,b,h=>⟨by simpa[l1]using b,h⟩
  | i::r,l,a,e,az,b,h=>by
    obtain⟨o,g,h⟩:=h;have z:=bdo p;rcases h with⟨f,v,I,q⟩|⟨f,v,I,q⟩|⟨f,h⟩
    · simp only[l1,f,bai]at b
      obtain⟨⟨⟨t,d⟩,B⟩,b⟩:=b;obtain⟨R,E,G,A⟩:=TZ az B;exact alu g GE z n (λ e a=>yx F P ops e o v a) (λ _ _ h=>h) (λ _ _ _ h s m=>h.of_same s m) (λ _ _ _ D h=>h.on D) R l E (.inr A) _ _ _ _ G (λ _ h=>h) (bcb g t) (by simpa using d) I
        (TM p n r _ _ _ (by simpa using az) b q)
    · simp only[l1,f,bai]at b
      obtain⟨⟨t,d⟩,b⟩:=b;exact alu g GE z n (λ _ a=>Yields P ops o v a) (λ _ _ h=>Yields.aNy h) (λ _ _ _ h s m=>h.of_same s m) (λ _ _ _ _ h=>h) (λ _=>true) l (λ _ _ _ _ _=>Z) (.inl λ _ _ _ h=>h) _ _ _ _ (λ _ _=>Z) (λ _ h=>h) (bcb g t) (by simpa using d) I
        (TM p n r _ _ _ (by simpa using az) b q)
    · obtain⟨k,C⟩:∃ k,a_ i=k+2:=⟨a_ i-2,GE⟩
      simp only[l1,C,bai,ba9]at b;obtain⟨d,b⟩:=b;refine⟨λ x=>(by rw[d]at x;cases x),λ j u=>?_⟩;rw[d]at u;obtain rfl:j=i:=by simpa using u
      exact⟨o,g,.inr ⟨f,λ w m=>bcR (λ H w' y=>⟨y.1,TM p n r _ _ _ (by simpa using az) b y.2⟩) (h w m)⟩⟩
theorem aNQ{a:Act}{w:World}(c:List Nat)(f:P.follows .mixedOrders=true)(b:(Region.noSelect ops && (c.length == ops.size) && l1 ops a_ c (Array.replicate ops.size false))=true)
    (h:N3 F P ops (i_ (Q .normal)) a_ c a w):(Code.region id ops true).wp P Q a w:=by
  simp only[bai,ba9]at b;obtain⟨⟨g,d⟩,b⟩:=b;refine bft (bep f (Q:=i_ (Q .normal)) ?_) (λ e a w I=>by cases e<;>first|exact I|exact I.elim);have:=TM (P:=P) g (Q:=i_ (Q .normal)) (λ _ _ _ h=>h) c (Array.replicate ops.size false) a w Kx b h;rw[d]at this;exact LL _ _ _ _ this _ (baL _ w).drew
end
section
variable{F:List Nat}{P:Program}{n:Nat}{E df:List (Nat×Value)}{a:Act}{w w' w0 a8:World}{Q:Exit->Act->World->Prop}{ops:Array Oper}{v:Value}{a_:Nat->Nat}
variable{d:Option Nat}{ty:TypeId}{pos:String}{af:Array Edge}{g:Option (Nat×Bool)}{x y z:Operand}{t:TypeId}{rest:List Oper}{cd:List Nat}{i:Nat}
def BT(F:List Nat)(P:Program)(n:Nat)(d:Array Oper)(Q:Exit->Act->World->Prop)(b:Nat->Nat)(c:List Nat)(E:List (Nat×Value))(e:World):Prop:=∀ a,fz n E a->N3 F P d (i_ (Q .normal)) b c a e
def RB(F:List Nat)(c:List (Nat×Nat))(b:List Nat)(f:P.follows .mixedOrders=true)(d:(Region.noSelect ops && (b.length == ops.size) && l1 ops (qa c) b (Array.replicate ops.size false))=true)
    (h:BT F P n ops Q (qa c) b E w):W P n (.region id ops true) Q E w:=λ a e=>aNQ b f d (h a e)
def PF(h:∀ w,Ext w0 w->N n Q E w):BT F P n ops Q a_ [] E w0:=λ a b w c=>h w c a b
def yQ{d:Nat}(c:ops[i]? =some ⟨some d,op,ty,pos,af,none⟩)(e:a_ i=0)(g:∀ w,Mod F w0 w->dc P E ⟨some d,op,ty,pos,af,none⟩ w v w)(f:Nat.blt d n=true)
    (h:BT F P n ops Q a_ cd ((d,v)::E) w0):BT F P n ops Q a_ (i::cd) E w0:=λ a b =>
  ⟨_,c,.inl ⟨e,v,.inl ⟨C' rfl,λ w j=>by rw[g w j n a b];exact⟨rfl,rfl⟩⟩,h _ (b.put f v)⟩⟩
def kR{d:Nat}(c:ops[i]? =some ⟨some d,op,ty,pos,af,none⟩)(e:a_ i=1)(g:∀ w,dc P E ⟨some d,op,ty,pos,af,none⟩ w v w)(f:Nat.blt d n=true)
    (h:BT F P n ops Q a_ cd ((d,v)::E) w0):BT F P n ops Q a_ (i::cd) E w0:=λ a b =>
  ⟨_,c,.inr (.inl ⟨e,v,.inl ⟨C' rfl,λ w=>g w n a b⟩,h _ (b.put f v)⟩)⟩
def GV(f:o.guard=none)(c:ops[i]? =some o)(b:a_ i=2)(h:∀ w,Ext w0 w->IJ P n ops o E w λ d w'=>Mod F w0 w'/\BT F P n ops Q a_ cd d w'):BT F P n ops Q a_ (i::cd) E w0:=λ a g =>
  ⟨_,c,.inr (.inr ⟨GE,λ w j=>NB f c (h w j) (λ d w' e b k=>⟨λ _=>b.1,b.2 e k⟩) g⟩)⟩
def UN(f:o.guard=none)(b:ops[i]? =some o)(c:a_ i=3)(h:∀ w,Ext w0 w->IJ P n ops o E w λ d w'=>BT F P n ops Q a_ cd d w'):BT F P n ops Q a_ (i::cd) E w0:=λ a g =>
  ⟨_,b,.inr (.inr ⟨GE,λ w j=>NB f b (h w j) (λ d w' e c k=>⟨λ l=>GE,c e k⟩) g⟩)⟩
end
end
section
variable{l:List aS}
def ji(W:ag)(l:List aS):Int:=if qX W l≠0 then qX W l else if 1000000<=W.db then 6 else 0
def xR(W:ag)(l:List aS):ag:=rE W (jT W l l.length)
noncomputable def xS(W:ag)(l:List aS):ag:=rB (xR W l) (j9 W l l.length)
noncomputable def qY(W:ag)(l:List aS):ag:=(xS W l).L (kq W l l.length)
noncomputable def oU(W:ag)(l:List aS):ag:=if ji W l≠0 then ag.zero else {qY W l with db:=(qY W l).db+1}
def Fb(W:ag)(l:List aS):List Int:=if ji W l≠0 then[]else Bf W (jT W l l.length)
noncomputable def Fc(W:ag)(l:List aS):List Int:=if ji W l≠0 then[]else uU (xR W l) (j9 W l l.length)
noncomputable def HR(W:ag)(l:List aS):List Bool:=if ji W l≠0 then[]else(xS W l).B (kq W l l.length)
def ato{W:ag}(h:ji W l≠0):oU W l=ag.zero/\Fb W l=[]/\Fc W l=[]/\HR W l=[]:=by
 unfold oU Fb Fc HR;simp only[bap h,and_self]
def afW{W:ag}(h:ji W l=0):oU W l={qY W l with db:=(qY W l).db+1}/\Fb W l=Bf W (jT W l l.length)/\Fc W l=uU (xR W l) (j9 W l l.length)/\HR W l=(xS W l).B (kq W l l.length):=by
 have a:¬ji W l≠0:=by simpa using h
 unfold oU Fb Fc HR;simp only[ban a,and_self]
def NH{W:ag}(h:ji W l=0):qX W l=0/\W.db<1000000/\W.br=0/\l.length<=100:=by
 unfold ji at h;split at h
 .contradiction
 .rename_i a
  have a:qX W l=0:=by simpa using a
  split at h
  .exact nomatch h
  .exact⟨a,GE,(NA a).2,aPg a⟩
def aBm{W:ag}{l:List dm}(h:W.br=0)(a:l.length<=200):W.z l=0/\W.L l=(W.O l).1:=by
 have e:W.z l=0:=by unfold ag.z;rw[ban GE,ban GE]
 exact⟨e,by unfold ag.L;rw[bap e]⟩
def aai{W:ag}{l:List dw}(h:W.br=0)(a:l.length<=200):oG W l=0:=by unfold oG;rw[ban GE,ban GE]
theorem afU{W:ag}(h:ji W l=0):oG W (jT W l l.length)=0/\uT (xR W l) (j9 W l l.length)=0/\(xS W l).z (kq W l l.length)=0/\Good (xR W l)/\Good (xS W l)/\Good (qY W l):=by
 obtain⟨f,g,c,i⟩:=NH h;obtain⟨k,j,m⟩:=asX W l l.length;have a:=aai (l:=jT W l l.length) c GE;have g1:Good (xR W l):=(XH a).right;have b:=(WK (W:=xR W l) (l:=j9 W l l.length) g1.br GE).1;have g2:Good (xS W l):=(aeG b).1;obtain⟨d,e⟩:=aBm (W:=xS W l) (l:=kq W l l.length) g2.br GE;refine⟨a,b,d,g1,g2,?_⟩;unfold qY;rw[e];exact g2.O _
def TI(W:ag)(l:List aS)(w:World)(e:Ending)(w':World):Prop :=
 ∃ d c f a c1 b c2,e=.returned (.tuple #[.agg (ag.cells d (oU W l)).toArray,.agg #[.slice c (Fb W l).length f,.slice a (Fc W l).length c1,.slice b (HR W l).length c2],J (ji W l)])/\bF w' w.heap.size d (oU W l)/\
  bN.aM 3 8 w' w.heap.size (τ.ai c) c f (Fb W l)/\bN.aM 3 8 w' w.heap.size (τ.ai a) a c1 (Fc W l)/\xO.aM 4 1 w' w.heap.size (τ.ai b) b c2 (HR W l)/\
  (∀ q,(q∈τ.ai c\/q∈τ.ai a\/q∈τ.ai b)->q∉bF.G d)/\Ext w w'
theorem aPX(a:ag.cS)(W:ag)(A:Option Addr)(c:Nat)(l:List aS)(w:World)(x:ag.fd w a W)(u:aS.ce.aF 48 w A c l)(e:qX W l≠0):
  Calls prog 44 #[.agg ((ag.cells a W).toArray),.slice A l.length c] w (TI W l w):=by
 have C:(qX W l == 0)=false:=by simpa using e
 have z:(qX W l != 0)=true:=by simpa using e
 refine bT (n:=62) func44 Z Z Z ?_;refine cZ Z Z λ K F t H f=>?_;have P:=f.lt;refine cy nO Z λ L G k N b=>?_;have y:=Φ t k;have Q:=b.lt;refine cy GM Z λ O M h S d=>?_;have g:=Φ y h;refine aG Z<|aC Z<|?_;have f:=f.O (Φ k h);refine κ (aq Z (f.all cD bP))<|cf abd Z (aPh _ _ l a W _ (u.be g) (x.be g) e) λ R i=>?_;have B:=Φ g i;refine vm Z<|bL Z Z<|bL Z Z<|bL Z Z<|bL Z Z<|va Z<|va Z<|va Z<|aG Z<|av<|aC Z<|κ (beq Z Z)<|vm (iJ Z C)<|af8 Z<|af8 Z<|af8 Z<|κ (uZ Z Z)<|ax<|ef Z<|?_;refine bf<|av<|aC Z<|cV Z Z<|ax<|fB (iJ Z z)<|ar<|κ (v:=.agg #[J 0,J 0,.slice none 0 0,.slice none 0 0,.slice none 0 0,.slice none 0 0,.slice none 0 0,J 0,J 0]) (ee Z)<|κ (v:=.agg #[.slice none 0 0,.slice none 0 0,.slice none 0 0]) (ee Z)<|vm Z<|?_;have b:=b.O (Φ h i);refine ck Z Z b Z bP Z Z λ T o b=>?_;have D:=Ext.H B o bn;have d:=(d.O i).H o aJ;refine ck Z Z d Z yL Z Z λ U j d=>?_;have E:=Ext.H D j bn;refine bc Z<|bR<|?_;have b:=b.H j aJ;refine cJ (.cell Z (b.all cD bP) (.cell Z (d.all L3 yL) (.tmp Z .nil)))<|?_;have e0:ji W l=qX W l:=by unfold ji;rw[bap e]
 obtain⟨m,p,r,s⟩:=ato (W:=W) (l:=l) (by rw[e0];first|exact e|decide);exact⟨⟨none,none,none,none,none,0,0,0,0,0⟩,none,0,none,0,none,0,by rw[e0,m,p,r,s];rfl,by rw[m];exact bF.zero _ _,by rw[p];exact τ.aM.nil _,by rw[r];exact τ.aM.nil _,by rw[s];exact τ.aM.nil _,λ q I=>by simp[τ.ai]at I,E⟩
theorem aPY(a:ag.cS)(W:ag)(A:Option Addr)(c:Nat)(l:List aS)(w:World)(z:ag.fd w a W)(y:aS.ce.aF 48 w A c l)(h:qX W l=0)(m:1000000<=W.db):
  Calls prog 44 #[.agg ((ag.cells a W).toArray),.slice A l.length c] w (TI W l w):=by
 refine bT (n:=62) func44 Z Z Z ?_;refine cZ Z Z λ V N x U d=>?_;have gp:=d.lt;refine cy nO Z λ X T o fl b=>?_;have B:=Φ x o;have j8:=b.lt;refine cy GM Z λ fx Y j oM f=>?_;have i:=Φ B j;refine aG Z<|aC Z<|?_;have d:=d.O (Φ o j);refine κ (aq Z (d.all cD bP))<|ca abd Z Z ((asZ _ _ l a W _ (y.be i) (z.be i) h).mono ?_);rintro e rI ⟨P,R,M,S,Q,O,rfl,L,H,K,g⟩;refine cR ?_;have C:=Φ i g;refine vm Z<|bL Z Z<|bL Z Z<|bL Z Z<|bL Z Z<|va Z<|va Z<|va Z<|aG Z<|av<|aC Z<|κ (beq Z Z)<|vm Z<|iC Z Z Z<|κ (aj yJ Z)<|iC Z Z Z<|?_;have d:=d.O g;refine a1 Z d aH Z<|iC Z Z Z<|κ (iV Z Z)<|κ (pH Z Z)<|ax<|?_;have E:(decide (1000000<=W.db))=true:=by exact baG m
 refine fB (by rw[<-E];rfl)<|rg<|aG Z<|av<|aC Z<|cV Z Z<|ax<|fB Z<|ar<|κ (v:=.agg #[J 0,J 0,.slice none 0 0,.slice none 0 0,.slice none 0 0,.slice none 0 0,.slice none 0 0,J 0,J 0]) (ee Z)<|κ (v:=.agg #[.slice none 0 0,.slice none 0 0,.slice none 0 0]) (ee Z)<|vm Z<|?_;have b:=b.O (Φ j g);refine ck Z Z b Z bP Z Z λ G k b=>?_;have F:=Ext.H C k bn;have f:=(f.O g).H k aJ;refine ck Z Z f Z yL Z Z λ wN r f=>?_;have D:=Ext.H F r bn;refine bc Z<|bR<|?_;have b:=b.H r aJ;refine cJ (.cell Z (b.all cD bP) (.cell Z (f.all L3 yL) (.tmp Z .nil)))<|?_;have e0:ji W l=6:=by unfold ji;rw[ban (by simpa using h),bap m]
 obtain⟨p,s,t,u⟩:=ato (W:=W) (l:=l) (by rw[e0];first|exact h|decide);exact⟨⟨none,none,none,none,none,0,0,0,0,0⟩,none,0,none,0,none,0,by rw[e0,p,s,t,u];rfl,by rw[p];exact bF.zero _ _,by rw[s];exact τ.aM.nil _,by rw[t];exact τ.aM.nil _,by rw[u];exact τ.aM.nil _,λ q I=>by simp[τ.ai]at I,D⟩
theorem aPZ(a:ag.cS)(W:ag)(A:Option Addr)(c:Nat)(l:List aS)(w:World)(bk:ag.fd w a W)(az:aS.ce.aF 48 w A c l)(T:ji W l=0):
  Calls prog 44 #[.agg ((ag.cells a W).toArray),.slice A l.length c] w (TI W l w):=by
 obtain⟨aa,ab,ay,ba⟩:=NH T;obtain⟨bm,bw,dD,g1,g2,g3⟩:=afU T;have ai:0<=(qY W l).db/\(qY W l).db<=1000000:=g3.db;refine bT (n:=62) func44 Z Z Z ?_;refine cZ Z Z λ ch a6 aV cY b=>?_;have gp:=b.lt;refine cy nO Z λ dr b_ bh fl m=>?_;have bo:=Φ aV bh;have j8:=m.lt;refine cy GM Z λ fx e_ Y oM k=>?_;have X:=Φ bo Y;have wF:=k.lt;refine aG Z<|aC Z<|?_;have b:=b.O (Φ bh Y);refine κ (aq Z (b.all cD bP))<|ca abd Z Z ((asZ _ _ l a W _ (az.be X) (bk.be X) aa).mono ?_);rintro e rI ⟨aB,aE,YI,aF,aD,aw,rfl,U,H,K,O⟩;refine cR ?_;have:=O.size;have ic:=Φ X O;have tM:=b4 H.lt;have jv:=dZ H.lt;have pL:=b4 K.lt;have wk:=dZ K.lt;refine vm Z<|bL Z Z<|bL Z Z<|bL Z Z<|bL Z Z<|va Z<|va Z<|va Z<|aG Z<|av<|aC Z<|κ (beq Z Z)<|vm Z<|iC Z Z Z<|κ (aj yJ Z)<|iC Z Z Z<|?_;have b:=b.O O;refine a1 Z b aH Z<|iC Z Z Z<|κ (iV Z Z)<|κ (pH Z Z)<|ax<|?_;have nd:(decide (1000000<=W.db))=false:=by exact baA GE
 refine ef (by rw[<-nd];rfl)<|bf<|av<|aC Z<|cV Z Z<|ax<|ef Z<|bf<|ar<|cy GM Z λ H2 ap r au d=>?_;have:=r.size;have vu:=Φ ic r;have ao:=d.lt;refine ax<|ar<|?_;have b:=b.O r;refine κ (aq Z (b.all cD bP))<|vm Z<|?_;have U:=U.O r;refine ca akz Z Z ((ata (jT W l (l).length) _ _ a W _ (bk.be vu) U.bv).mono ?_);rintro e H5 ⟨ae,K_,LO,rfl,R,L,an,o⟩;refine cR ?_;have:=o.size;have rN:=Φ vu o;have tF:=dZ R.lt;have Bh:=b4 L.lt;have i:=dZ L.lt;refine vm Z<|bL Z Z<|bL Z Z<|bL Z Z<|?_;have b:=b.O o;refine st Z Z b Z bP Z Z Z λ KI f b=>?_;have:=f.size;have pR:=Ext.H rN f bn;refine κ (aj akA Z)<|?_;have d:=(d.O o).H f aJ;refine ep Z Z d Z td Z Z λ Bq h d=>?_;have:=h.size;have mT:=Ext.H pR h bn;refine ax<|ar<|?_;have b:=b.H h aJ;refine κ (aq Z (b.all cD bP))<|vm Z<|?_;have H:=((H.O (Φ r o)).H f (bx jv)).H h (bV tM);have R:=(R.H f (bx tF)).H h (bx tF);refine ca aCn Z Z ((aLb ae (rE W (jT W l (l).length)) _ _ (j9 W l (l).length) _ R.bv H.bv).mono ?_);rintro e NQ ⟨LI,ak,am,rfl,P,M,Vv,t⟩;refine cR ?_;have:=t.size;have tS:=Φ mT t;have M7:=dZ P.lt;have HY:=b4 M.lt;have z:=dZ M.lt;refine vm Z<|bL Z Z<|bL Z Z<|bL Z Z<|?_;have b:=b.O t;refine st Z Z b Z bP Z Z Z λ X8 j b=>?_;have:=j.size;have wV:=Ext.H tS j bn;refine κ (aj akB Z)<|?_;have d:=(d.O t).H j aJ;refine ep Z Z d Z td Z Z λ aA g d=>?_;have:=g.size;have SD:=Ext.H wV g bn;refine ax<|ar<|?_;have b:=b.H g aJ;refine κ (aq Z (b.all cD bP))<|vm Z<|?_;have K:=(((((K.O (Φ r o)).H f (bx wk)).H h (bV pL)).O t).H j (bx wk)).H g (bV pL);have P:=(P.H j (bx M7)).H g (bx M7);refine ca aCo Z Z ((aBs (kq W l (l).length) _ _ _ LI (rB (rE W (jT W l (l).length)) (j9 W l (l).length)) P.bv K.bv).mono ?_);rintro e NU ⟨V,ad,al,rfl,y,S,ah,C⟩;refine cR ?_;have qz:=Φ SD C;have B:=dZ y.lt;have N:=dZ S.lt;have af:∀ q∈τ.ai ad,q∈bF.G V->False:=ah;refine vm Z<|bL Z Z<|bL Z Z<|bL Z Z<|?_;have b:=b.O C;refine st Z Z b Z bP Z Z Z λ C_ p b=>?_;have pT:=Ext.H qz p bn;refine κ (aj akC Z)<|?_;have d:=(d.O C).H p aJ;refine ep Z Z d Z akD Z Z λ Sa v d=>?_;have BC:=Ext.H pT v bn;refine ax<|ar<|κ (aj yJ Z)<|?_;have b:=b.H v aJ;refine a1 Z b aH Z<|κ (bad Z Z (mb ((by have I:_/\_:=ai;unfold qY xS xR at I;omega))))<|κ (aj yJ Z)<|ep Z Z b Z cO Z Z λ Sb u b=>?_;have BD:=Ext.H BC u bn;refine ax<|av<|?_;refine RB [b_] [(0,0),(1,0),(2,2),(3,3)] [0,1,2,3,4] GT GT ?_;refine yQ Z Z (λ _ x=>aq Z ((b.H x aJ).all cD bP)) Z<|?_;have d:=d.H u aJ;refine yQ Z Z (λ _ x=>aq Z ((d.H x aJ).all L3 yL)) Z<|?_;have m:=(((((((((m.O (Φ Y (Φ O (Φ r o)))).H f aJ).H h aJ).O t).H j aJ).H g aJ).O C).H p aJ).H v aJ).H u aJ;refine GV Z Z Z λ Sd s Q hK=>ck Z Z (m.O s) Z bP Z Z λ N0 E m=>hK _ _ ⟨(Mod.O s).trans E,?_⟩;have BF:=Φ BD s;have wX:=Ext.H BF E bn;have k:=(((((((((((k.O (Φ O (Φ r o))).H f aJ).H h aJ).O t).H j aJ).H g aJ).O C).H p aJ).H v aJ).H u aJ).O s).H E aJ;refine UN Z Z Z λ KL D Q hK=>ck Z Z (k.O D) Z yL Z Z λ KE G k=>hK _ _ ?_;have oC:=Φ wX D;have KZ:=Ext.H oC G bn;refine kR Z Z (λ _=>fh Z) Z<|PF λ X2 F=>?_;have De:=Φ KZ F;refine a7<|rt<|?_;have m:=((m.O D).H G aJ).O F;have k:=k.O F;refine cJ (.cell Z (m.all cD bP) (.cell Z (k.all L3 yL) (.tmp Z .nil)))<|?_;have y:=(((((((y.H p (bx B)).H v (bx B)).H u (bx B)).O s).H E (bx B)).O D).H G (bx B)).O F;have L:=(((((((((((((L.H f (bx i)).H h (bx i)).O t).H j (bx i)).H g (bx i)).O C).H p (bx i)).H v (bx i)).H u (bx i)).O s).H E (bx i)).O D).H G (bx i)).O F;have M:=((((((((((M.H j (bx z)).H g (bx z)).O C).H p (bx z)).H v (bx z)).H u (bx z)).O s).H E (bx z)).O D).H G (bx z)).O F;have S:=(((((((S.H p (bx N)).H v (bx N)).H u (bx N)).O s).H E (bx N)).O D).H G (bx N)).O F;obtain⟨n3,z2,z3,z4⟩:=afW T;have hR:bF X2 w.heap.size V (oU W l):=by rw[n3];exact(y.dq GE).asB Z Z Z Z Z ⟨y.nums.1,y.nums.2.1,y.nums.2.2.1,b7.2 (by show _<=(qY W l).db+1/\(qY W l).db+1<=_;omega)⟩
 exact⟨V,K_,LO,ak,am,ad,al,by rw[T,n3,z2,z3,z4];rfl,hR,by rw[z2];exact L.dq GE,by rw[z3];exact M.dq GE,by rw[z4];exact S.dq GE,λ q I hf=>I.elim (λ I=>by exfalso;(have:=B q hf;(have:=Bh q I;omega))) (λ I=>I.elim (λ I=>by exfalso;(have:=B q hf;(have:=HY q I;omega))) (λ I=>af q I hf)),De⟩
def RU(a:ag.cS)(W:ag)(A:Option Addr)(c:Nat)(l:List aS)(w:World)(e:ag.fd w a W)(d:aS.ce.aF 48 w A c l):Calls prog 44 #[.agg (ag.cells a W).toArray,.slice A l.length c] w (TI W l w):=by
 by_cases b:qX W l=0
 .by_cases f:1000000<=W.db
  .exact aPY a W A c l w e d b f
  .exact aPZ a W A c l w e d (by unfold ji;rw[ban (by simpa using b),ban f])
 .exact aPX a W A c l w e d b
end
section
variable{V:ag}
structure Kept(W V:ag):Prop where
 am:V.am=W.am
 aT:V.aT=W.aT
 db:V.db=W.db
 next:V.next=W.next+((V.ah.length:Int)-W.ah.length)
 len:W.ah.length<=V.ah.length
 old:∀(i:Nat) (t:bb),W.ah[i]? =some t->∃ u:bb,V.ah[i]? =some u/\{u with load:=t.load}=t
 new:∀(i:Nat) (u:bb),W.ah.length<=i->V.ah[i]? =some u->W.next<=u.id
def Kept.U(W:ag):Kept W W:=⟨rfl,rfl,rfl,GE,bao _,λ i t h=>⟨t,h,rfl⟩,λ i u h a=>by
 rw[baX GE]at a;cases a⟩
theorem Kept.O{U W:ag}(h:Kept U V)(k:Kept V W):Kept U W where
 am:=k.am.trans h.am
 aT:=k.aT.trans h.aT
 db:=k.db.trans h.db
 next:=by rw[k.next,h.next];omega
 len:=bay h.len k.len
 old i t a:=by
  obtain⟨u,b,e⟩:=h.old i t a;obtain⟨x,c,f⟩:=k.old i u b;refine⟨x,c,?_⟩;rw[<-e,<-f]
 new i u ao b:=by
  by_cases d:i<V.ah.length
  .obtain⟨t,a⟩:=iK d;obtain⟨x,c,e⟩:=k.old i t a;rw[b]at c;obtain rfl:=bae c;have:=h.new i t ao a;have j:t.id=u.id:=by rw[<-e]
   omega
  .have g:=k.new i u GE b;have:=h.next;have:=h.len;omega
theorem apH{W:ag}{k:Nat}{t:bb}{n:Int}(b:W.ah[k]? =some t)(e:V.am=W.am)(d:V.aT=W.aT)(f:V.db=W.db)(g:V.next=W.next)(a:V.ah=W.ah.set k (ag.k_ t n)):Kept W V where
 am:=e
 aT:=d
 db:=f
 next:=by rw[a,bak,g];omega
 len:=by rw[a,bak];exact bao _
 old i x ao:=by
  rw[a];by_cases c:k=i
  .subst c;rw[b]at ao;obtain rfl:=bae ao;exact⟨_,baw (bab.1 b).1,Z⟩
  .exact⟨x,by rw[baH c];exact ao,rfl⟩
 new i u ao hu:=by
  rw[a,baX (by rw[bak];exact ao)]at hu;cases hu
theorem aJr{W:ag}{d:dm}(h:Good W)(a:W.Y d=some V):Kept W V:=by
 unfold ag.Y at a;split at a
 .obtain⟨k,t,_,b,_,l,m,_,r,o,rfl⟩:=aqI a;exact apH b Z Z Z Z Z
 .split at a
  .obtain⟨k,t,n,_,b,_,m,_,s,q,rfl⟩:=akm a;exact apH b Z Z Z Z Z
  .split at a
   .obtain⟨c,y,p,w,l,v,z,x,rfl⟩:=anc a;refine⟨Z,Z,Z,by simp;omega,Kx,λ i t b=>⟨t,?_,rfl⟩,λ i u j f=>?_⟩
    .simp only;rw[baz (bab.1 b).1];exact b
    .simp only at f;rw[baD j]at f;have g:i-W.ah.length=0:=by
      have:=(bab.1 f).1;simp at this;omega
     rw[g]at f;have e:u=⟨W.next,d.H,d.Y,c,ag.gT d.Y,0⟩:=by simpa using f.symm
     rw[e];exact bbI _
   .cases a
def aJs{W:ag}(h:Good W):∀ l:List dm,Kept W (W.O l).1:=by
 intro l;induction l generalizing W with
 | nil=>exact Kept.U W
 | cons d l a =>
  simp only[ag.O];cases b:W.Y d with
  | none=>exact a h
  | some V=>exact(aJr h b).O (a (h.Y b))
def Kept.getD{W:ag}(h:Kept W V){i:Nat}(b:i<W.ah.length):{V.ah.getD i default with load:=(W.ah.getD i default).load}=W.ah.getD i default:=by
 obtain⟨t,a⟩:=iK b;obtain⟨u,c,e⟩:=h.old i t a;rw[baa,baa,a,c];exact e
theorem aBv{W:ag}{l:List dm}(h:W.z l=0):Good W/\l.length<=200/\W.L l=(W.O l).1/\W.B l=(W.O l).2:=by
 have b:W.br=0:=by
  cases a:decide (W.br=0)with
  | true=>simpa using a
  | false=>have:=(akf (W:=W) (l:=l) (by simpa using a)).2.2;rw[h]at this;exact this.symm
 have c:l.length<=200:=by
  cases a:decide (l.length<=200)with
  | true=>simpa using a
  | false=>have:=(akg (W:=W) (l:=l) b (by simpa using a)).2.2;rw[h]at this;cases this
 exact⟨Good.G b,c,aa1 b c,aa2 b c⟩
def arq:List dm->List Bool->List dm
 | d::l,b::cT=>if b then d::arq l cT else arq l cT
 | _,_=> []
end
end Go.Proofs.YtooonebcoaleiaaGreat
