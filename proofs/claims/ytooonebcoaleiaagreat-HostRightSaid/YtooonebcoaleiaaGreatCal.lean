import Derived.Test.YtooonebcoaleiaaGreatVoteE
set_option linter.all false
set_option maxRecDepth 100000
set_option maxHeartbeats 4000000
open Go.RowKit
namespace Go.Proofs.YtooonebcoaleiaaGreat
open Tryz
abbrev bdf:=@Nat.zero_testBit
abbrev bea:=@Nat.testBit_two_pow
abbrev ber:=@beq_true
end Go.Proofs.YtooonebcoaleiaaGreat
namespace Go.Proofs.YtooonebcoaleiaaGreat.b9
open Tryz
open Go.RowKit Go.Proofs.YtooonebcoaleiaaGreat Go.Proofs.YtooonebcoaleiaaGreat.fg
def Part(a b:Nat):Prop:=∀ i,a.testBit i=true->b.testBit i=true
def Part.refl(a:Nat):Part a a:=λ_ h=>h
def Part.trans{a b c:Nat}(h:Part a b)(g:Part b c):Part a c:=λi d=>g i (h i d)
def Part.and{a b:Nat}(h:Part a b):a &&& b=a:=abE λi=>by
 rw[Nat.testBit_and];cases c:a.testBit i with
 | false=>rfl
 | true=>rw[h i c];rfl
def Part.size{a b:Nat}(h:Part a b):size a<=size b:=aAI 32 a b h.and
def Part.zero{a:Nat}(h:Part a 0):a=0:=abE λi=>by
 rw[bdf];cases b:a.testBit i with
 | false=>rfl
 | true=>have:=h i b;rw[bdf]at this;cases this
def Part.lt{a b:Nat}(h:Part a b){n:Nat}(c:b<2 ^ n):a<2 ^ n:=by
 rw[<-h.and];exact bdv Nat.and_le_right c
def I3(a k i:Nat)(c:a<4294967296)(d:k<32):(diff a (2 ^ k)).testBit i=(a.testBit i && !decide (k=i)):=by
 by_cases b:i<32
 .rw[Ps a _ i c b,bea]
 .rw[aj8 _ _ _ b];have:a.testBit i=false:=bcv (bba c (bck (n:=2) GP (by omega:32<=i)));rw[this];rfl
def aaX(a k:Nat)(c:a<4294967296)(b:k<32):Part (diff a (2 ^ k)) a:=λi h=>by
 rw[I3 a k i c b]at h;simp at h;exact h.1
theorem aBi{a b:Nat}(d:a<4294967296):diff a b=0↔Part a b:=by
 constructor
 .intro h i c;have e:i<32:=by
   rcases ba2 i 32 with h|h
   .exact h
   .rw[bcv (bba d (bck (n:=2) GP h))]at c;cases c
  have:=Ps a b i d e;rw[h,c,bdf]at this;simpa using this.symm
 .intro h;refine abE λi=>?_;rw[bdf];by_cases c:i<32
  .rw[Ps a b i d c];cases f:a.testBit i with
   | false=>rfl
   | true=>rw[h i f];rfl
  .exact aj8 _ _ _ c
structure zI(m:Nat)(l:List Nat):Prop where
 m16:m<65536
 len:l.length=16
 lt:∀ k,l.getD k 0<4294967296
 sub:∀ k,Part (l.getD k 0) m
 self:∀ k,(l.getD k 0).testBit k=false
 mem:∀ k,l.getD k 0≠0->m.testBit k=true
theorem W3(m:Nat):∀(l:List Nat) (k:Nat),Kc m l k=true↔∀ j,j<l.length->E6 m (l.getD j 0) (k+j)=true
 | [],k=>by simp[Kc]
 | x::xs,k=>by
  rw[Kc,bai,W3 m xs (k+1)];constructor
  .rintro⟨b,c⟩ j a
   match j with
   | 0=>exact b
   | j+1 =>
    have:=c j (by simpa using a);rw[show k+(j+1)=k+1+j from by omega];exact this
  .intro h;refine⟨h 0 Kx,λj a=>?_⟩;have:=h (j+1) (by simpa using a);rw[show k+(j+1)=k+1+j from by omega]at this;exact this
def aq5(m x k:Nat)(d:x<4294967296):E6 m x k=true↔Part x m/\x.testBit k=false/\(x≠0->m.testBit k=true):=by
 unfold E6;rw[bai,bai,ba9,aBi d];simp only[ba3,baY,ba9];constructor
 .rintro⟨⟨a,b⟩,c⟩;exact⟨a,b,λh=>c.resolve_left h⟩
 .rintro⟨a,b,c⟩;refine⟨⟨a,b⟩,?_⟩;by_cases h:x=0
  .exact .inl h
  .exact .inr (c h)
def ace(l:List Nat)(k:Nat)(h:l.length<=k):l.getD k 0=0:=by simp[h]
theorem aja{m:Nat}{l:List Nat}(o:l.length=16)(d:∀ k,l.getD k 0<4294967296):check m l=0↔m≠0/\zI m l/\iO m l<0:=by
 unfold check;constructor
 .intro h;split at h
  .cases h
  .rename_i e
   split at h
   .cases h
   .rename_i a
    split at h
    .cases h
    .rename_i b
     have a:Kc m l 0=true:=by simpa using a
     rw[W3]at a;have c:∀ k,Part (l.getD k 0) m/\(l.getD k 0).testBit k=false/\(l.getD k 0≠0->m.testBit k=true):=by
      intro k;by_cases n:k<l.length
      .have:=a k n;rw[bbi,aq5 _ _ _ (d k)]at this;exact this
      .rw[ace l k GE];exact⟨λi f=>by simp at f,Kx,λh=>absurd rfl h⟩
     exact⟨GE,⟨GE,o,d,λk=>(c k).1,λk=>(c k).2.1,λk=>(c k).2.2⟩,by show wC _ _ _<0;omega⟩
 .rintro⟨e,g,b⟩;have a:Kc m l 0=true:=by
   rw[W3];intro j p;rw[bbi,aq5 _ _ _ (d j)];exact⟨g.sub j,g.self j,g.mem j⟩
  have:=g.m16;have b:¬0<=wC ((size m:Int) / 2+1) l 0:=by
   show ¬0<=iO m l;omega
  rw[ban GE,ban (by rw[a];decide),ban b]
def Q'(l:List Nat)(k j:Nat)(c:l.length=16):(sz l k).getD j 0=if j=k then 0 else A8 k (l.getD j 0):=by
 rw[ap5 l k c];by_cases b:j<l.length
 .rw[baa,bau,bdE];by_cases a:k=j
  .subst a;simp[b,W5]
  .rw[ban a,ban (λh=>a h.symm)];simp[b]
 .rw[ace _ _ (by simp;omega),ace l j GE,W5];split<;>rfl
theorem zI.leave{m:Nat}{l:List Nat}(g:zI m l){k:Nat}(d:k<16):zI (diff m (2 ^ k)) (sz l k):=by
 have c:m<4294967296:=by have:=g.m16;omega
 refine⟨(aaX m k c GE).lt (n:=16) g.m16,Wi l k g.len,λj=>?_,λj=>?_,λj=>?_,λj=>?_⟩
 .rw[Q' l k j g.len];split
  .decide
  .exact I4 _ _
 .rw[Q' l k j g.len];split
  .intro i a;simp at a
  .intro i a;unfold A8 at a;rw[I3 _ _ _ (g.lt j) GE]at a;rw[I3 _ _ _ c GE];simp at a ⊢;exact⟨g.sub j i a.1,a.2⟩
 .rw[Q' l k j g.len];split
  .simp
  .unfold A8;rw[I3 _ _ _ (g.lt j) GE,g.self j];rfl
 .rw[Q' l k j g.len];split
  .intro h;exact absurd Z h
  .rename_i e
   intro h;have b:l.getD j 0≠0:=by intro b;rw[b,W5]at h;exact h Z
   rw[I3 _ _ _ c GE,g.mem j b];simp;omega
def arb(t:Int):∀(l:List Nat) (i:Nat),wC t l i<0->∀ j,j<l.length->¬t<=(size (l.getD j 0):Int)
 | [],_,_,j,a=>by simp at a
 | x::xs,i,h,j,a=>by
  unfold wC at h;by_cases b:t<=(size x:Int)
  .rw[bap b]at h;omega
  .rw[ban b]at h
   match j with
   | 0=>exact b
   | j+1=>exact arb t xs (i+1) h j (by simpa using a)
def aRA{m:Nat}{l:List Nat}(h:iO m l<0)(j:Nat)(a:j<l.length):¬(size m:Int) / 2+1<=(size (l.getD j 0):Int):=arb _ l 0 h j a
structure axC(m:Nat)(l:List Nat)(r:Nat×List Nat):Prop where
 hB:zI r.1 r.2
 some_:r.1≠0
 iO:iO r.1 r.2<0
 sub:Part r.1 m
 aPB:∀ j,Part (r.2.getD j 0) (l.getD j 0)
 da:∀ j,m.testBit j=true->r.1.testBit j=false->size r.1<2*size (l.getD j 0)
theorem aMU(f m:Nat)(l:List Nat)(g:zI m l)(t:m≠0)(E:sI l<=f):axC m l (u_ f m l):=by
 induction f generalizing m l with
 | zero =>
  have n:iO m l<0:=by
   rcases bb6 (iO m l) 0 with h|h
   .exact h
   .obtain⟨k,_,p,e⟩:=Yd h;have:=aei g.len p e;omega
  exact⟨g,t,n,.refl _,λj=> .refl _,λj c a=>by rw[show(u_ 0 m l).1=m from rfl,c]at a;cases a⟩
 | succ f B =>
  unfold u_;split
  .rename_i n
   obtain⟨k,p,w,e⟩:=Yd n;rw[p,ba4];have z:k<16:=by have:=g.len;omega
   have q:m<4294967296:=by have:=g.m16;omega
   have o:l.getD k 0=l[k]:=by simp[w]
   have u:Part l[k] (diff m (2 ^ k)):=by
    intro i d;rw[I3 _ _ _ q GE];have c:=g.sub k i (by rw[o];exact d);have a:k≠i:=by
     rintro rfl;have:=g.self k;rw[o,d]at this;cases this
    simp[c,a]
   have x:diff m (2 ^ k)≠0:=by
    intro h;rw[h]at u;rw[u.zero,asM]at e;omega
   have F:=aei g.len w e;have b:=B _ _ (g.leave z) x GE;generalize u_ f (diff m (2 ^ k)) (sz l k)=r at b;have s:=aaX m k q GE;have v:∀ j,Part ((sz l k).getD j 0) (l.getD j 0):=by
    intro j;rw[Q' l k j g.len];split
    .intro i d;simp at d
    .exact aaX _ _ (g.lt j) GE
   refine⟨b.hB,b.some_,b.iO,b.sub.trans s,λj=>(b.aPB j).trans (v j),λj c a=>?_⟩;by_cases y:j=k
   .subst y;have:=(b.sub.trans s).size;rw[o];omega
   .have A:(diff m (2 ^ k)).testBit j=true:=by
     rw[I3 _ _ _ q GE,c];simp;omega
    have D:=b.da j A a;have C:=(v j).size;omega
  .rename_i n
   exact⟨g,t,by show b9.iO m l<0;omega,.refl _,λj=> .refl _,λj c a=>by rw[c]at a;cases a⟩
def Xy(l:List Nat)(q x j:Nat)(I:q<l.length):(l.set q x).getD j 0=if j=q then x else l.getD j 0:=by
 rw[baa,bdE];by_cases h:q=j
 .subst h;simp[I]
 .rw[ban h,ban (λe=>h e.symm)];simp
theorem zI.aQU{m:Nat}{l:List Nat}(g:zI m l){p q:Nat}(f:p<16)(I:q<16)(c:m.testBit p=true)(d:m.testBit q=true)(e:p≠q):zI m (l.set q (l.getD q 0 ||| 2 ^ p)):=by
 have b:q<l.length:=by rw[g.len];exact I
 refine⟨g.m16,by rw[bak];exact g.len,λk=>?_,λk=>?_,λk=>?_,λk=>?_⟩
 .rw[Xy _ _ _ _ b];split
  .exact aqn (g.lt q) (Kd GE)
  .exact g.lt k
 .rw[Xy _ _ _ _ b];split
  .intro i a;rw[Nat.testBit_or,bea]at a;simp at a;rcases a with a|rfl
   .exact g.sub q i (by simpa using a)
   .exact c
  .exact g.sub k
 .rw[Xy _ _ _ _ b];split
  .rename_i h;subst h
   rw[Nat.testBit_or,bea,g.self];simp[e]
  .exact g.self k
 .rw[Xy _ _ _ _ b];split
  .rename_i h;subst h;intro _;exact d
  .exact g.mem k
end Go.Proofs.YtooonebcoaleiaaGreat.b9
namespace Go.Proofs.YtooonebcoaleiaaGreat.kO
open Tryz
open Go.Proofs.YtooonebcoaleiaaGreat.fg

def aVO(j:Nat):UInt8:=1 <<<UInt8.ofNat j
def aqk(b:BitVec 32):Nat->BitVec 32
 | 0=>0#32
 | k+1=>aqk b k ^^^ (if b.getLsbD k then 1#32 <<<k else 0#32)
end Go.Proofs.YtooonebcoaleiaaGreat.kO
namespace Go.Proofs.YtooonebcoaleiaaGreat.kO
open Tryz
open Go.RowKit Go.Proofs.YtooonebcoaleiaaGreat.fg

def cells(l:List UInt8):List Value:=l.map λb=>Value.int .u8 (b.toNat:Int)
def azj(s:ByteArray)(c:Nat):bytesRow s c=(cells (s.data.toList++List.replicate (c-s.size) 0)).toArray:=by
 unfold bytesRow cells;apply Array.toList_inj.1;simp
theorem azk(a:World)(T:ByteArray):∃ C b L,(convert 9 160 (.string T)).run prog a=.ok (.slice (some ⟨a.heap.size,0,none⟩) T.size C) b/\Below a.heap.size a b/\
  aO b a.heap.size (cells (T.data.toList++List.replicate (C-T.size) 0)) 5 (L,L+1)/\T.size<=L:=by
 refine⟨grownCap a T.size 0 5,_,(bytesRow T (grownCap a T.size 0 5)).size,run_bytes_of_string (P:=prog) a 9 160 5 T underlying9 underlying160 underlying5,(baL _ _).drew.alloc (bao _) _,?_,?_⟩
 .rw[azj];exact aO.new a.drew _ _ _
 .unfold bytesRow;rw[bdG,Array.size_map];exact Nat.le_add_right _ _
structure Inv(T:ByteArray)(b:BitVec 32)(p N k:Nat)(t:List UInt8):Prop where
 len:t.length=N
 low:∀ j,j<k->b.getLsbD j=true->p+j<8*N
 sum:fold (~~~0#32) t=fold (~~~0#32) T.data.toList ^^^ steps (8*N-p) (aqk b k)
end Go.Proofs.YtooonebcoaleiaaGreat.kO
namespace Go.Proofs.YtooonebcoaleiaaGreat
open Tryz
section
variable{m:Nat}
def BO(aQ:Nat)(w:World)(A:Option Addr)(c:Nat)(t:List UInt8):Prop :=
 ∃(g:Nat) (R:List UInt8) (L:Nat),A=some ⟨g,0,none⟩/\aQ<=g/\aO w g (kO.cells (t++R)) 5 (L,L+1)/\t.length<=L/\t.length<=c/\c<=9223372036854775807/\t.length<=140737488355328
section
variable{aQ:Nat}{w w':World}{A:Option Addr}{c:Nat}{t:List UInt8}{S:List Nat}
def BO.lt(h:BO aQ w A c t):∀ q∈τ.ai A,aQ<=q/\q<w.heap.size:=by
 obtain⟨g,R,L,rfl,a,b,_⟩:=h;intro q I;rw[bah.1 I];exact⟨a,b.lt⟩
def BO.O(h:BO aQ w A c t)(x:Ext w w'):BO aQ w' A c t:=by
 obtain⟨g,R,L,rfl,a,b,d⟩:=h;exact⟨g,R,L,Z,a,b.O x,d⟩
def ain{w:World}:∀ l:List UInt8,dX (λ es a=>HK.bv w es a) (l.map λ b=> [Value.int .u8 (b.toNat:Int)]) l
 | []=>trivial
 | b::l=>⟨⟨rfl,trivial⟩,ain l⟩
def aiX:∀ l:List UInt8,(l.map λ b=> [Value.int .u8 (b.toNat:Int)]).flatten=kO.cells l
 | []=>rfl
 | b::l=>by rw[ba5,bbc,aiX l];rfl
def BO.bv(h:BO aQ w A c t):HK.aF 1 w A c t:=by
 obtain⟨g,R,L,rfl,k,f,i,b,d,l⟩:=h;refine⟨b,d,GE,(λ e=>nomatch e),_,ain t,?_⟩;rw[aiX];refine⟨by unfold kO.cells;rw[bbd];exact(bcY _).symm,λ _=>⟨g,0,rfl,λ j u a=>?_⟩⟩;rw[bbi,f.cell j];unfold kO.cells at a ⊢;rw[baJ,baz (by have:=(bab.1 a).1;exact this)];exact a
end
section
variable{P:Program}{n:Nat}{E df:List (Nat×Value)}{a:Act}{w w' w0 a8:World}{Q:Exit->Act->World->Prop}{ops:Array Oper}{v:Value}
variable{d:Option Nat}{ty:TypeId}{pos:String}{af:Array Edge}{g:Option (Nat×Bool)}{x y z:Operand}{t u:TypeId}{rest:List Oper}{i j:Int}{k k':IntKind}
theorem azf(c:ev E x=some (.int k i))(a:ev E y=some (.int k' (m:Int)))(b:m<=k.bits)(e:0<=i):dc P E ⟨d,.binOp .shr t x y u,ty,pos,af,g⟩ w (.int k (i / 2 ^ m)) w:=ot c a (by rfl:binOp .shr t (.int k i) (.int k' (m:Int))=Op.shift .shr k i k' (m:Int)) (by
 unfold Op.shift;rw[ban GE];show(pure (Value.int k (i.fdiv (2 ^ min (m:Int).toNat k.bits))):Sem Value).run _ _=_;rw[ba4,bch b,Int.fdiv_eq_ediv_of_nonneg _ (by exact Int.le_of_lt (Int.pow_pos GP))];rfl)
theorem aze(e:ev E x=some (.int k 1))(b:ev E y=some (.int k' j))(a:j=(m:Int))(c:m<=k.bits):dc P E ⟨d,.binOp .shl t x y u,ty,pos,af,g⟩ w (.int k (k.wrap (2 ^ m))) w:=ot e b (by rfl:binOp .shl t (.int k 1) (.int k' j)=Op.shift .shl k 1 k' j) (by
 subst a;unfold Op.shift;rw[ban GE];show(pure (Value.int k (k.wrap (1*2 ^ min (m:Int).toNat k.bits))):Sem Value).run _ _=_;rw[ba4,bch c,Int.one_mul];rfl)
def ayX(b:ev E x=some (.int k i))(a:ev E y=some (.int k j)):dc P E ⟨d,.binOp .and t x y u,ty,pos,af,g⟩ w (.int k (bits .and k i j)) w:=ot b a (binOp_and t k i j) rfl
theorem aAQ{T:ByteArray}{c:Nat}(r:ev E x=some (.string T))(t:T.size<=140737488351232)(q:Nat.blt c n=true)
  (h:∀ b A C,Ext w b->BO w.heap.size b A C T.data.toList->cx prog n ops Q rest ((c,.slice A T.size C)::E) b):
  cx prog n ops Q (⟨some c,.convert 9 160 x,ty,pos,af,none⟩::rest) E w:=by
 obtain⟨C,e,L,d,j,i,o⟩:=kO.azk w T;have f:T.size<=C/\C<=9223372036854775807:=by
  have g:=run_bytes_of_string (P:=prog) w 9 160 5 T underlying9 underlying160 underlying5;rw[g]at d;injection d with k s
  injection k with _ _ l
  rw[<-l];exact⟨grownCap_ge w T.size 0 _,grownCap_le_maxLen w T.size 0 _ (by simp only[maxLen];omega)⟩
 refine i' (v:=.slice (some ⟨w.heap.size,0,none⟩) T.size C) (w':=e) (λ m a p=>?_) q (h e _ _ j ⟨w.heap.size,List.replicate (C-T.size) 0,L,Z,bao _,i,o,f.1,f.2,by show T.size<=_;omega⟩);simp only[execOp,p.ev r,bar,d,bal,bat]
end
end
section
variable{a m:Nat}{j:Int}{k':IntKind}
open fg
abbrev dY:=Nat
def dY.ce:τ dY:=τ.flat 1 (λ n:Nat=> [.int .u32 (n:Int)]) (λ n=>n<4294967296) (λ _ u=>∃ n:Int,u=.int .u32 n) (λ _=>rfl) (by intro a u b;simp at b;subst b;rfl) (by
 intro a j u b;cases j with
 | zero=>simp at b;exact⟨_,b.symm⟩
 | succ j=>simp at b)
def AB{w:World}{cs:List Value}{a:dY}(h:dY.ce.bv w cs a):cs=[.int .u32 (a:Int)]:=bcs (show cs=[.int .u32 (a:Int)]/\a<4294967296 from h)
def dY.M:∀(j:Nat) u,(Value.int .u32 0).cells[j]? =some u->dY.ce.raw j u:=by
 intro j u a;have a:(#[(.int .u32 0:Value)]:Array Value)[j]? =some u:=a
 match j,a with
 | 0,a=>exact⟨_,(bae a).symm⟩
 | j+1,a=>simp at a
abbrev dY.zero:Value:=.int .u32 0
def dY.G:(prog.info? 34).map (λ i=>(i.zero,i.size,i.bytes))=some (some (.int .u32 0),1,4):=GT
def dY.plain:dY.ce.Y:=τ.nc
def dY.C{by_:Nat}{w:World}{A:Option Addr}{c:Nat}{l:List dY}(h:dY.ce.aF by_ w A c l):∀ a∈l,a<4294967296:=τ.aF.D1 (R:=dY.ce) (Q:=λ a=>a<4294967296) (λ{w cs a} (h:dY.ce.bv w cs a)=>(show cs=[.int .u32 (a:Int)]/\a<4294967296 from h).2) h
section
open b9
variable{P:Program}{E:List (Nat×Value)}{w:World}{d:Option Nat}{ty:TypeId}{pos:String}{af:Array Edge}{g:Option (Nat×Bool)}{x y:Operand}{t u:TypeId}
def yB(a k:Nat):Int:=if a.testBit k then 1 else 0
def H0(f:ev E x=some (.int .u32 (a:Int)))(c:ev E y=some (.int k' j))(b:j=(m:Int))(e:m<=32):dc P E ⟨d,.binOp .shr t x y u,ty,pos,af,g⟩ w (.int .u32 ((a / 2 ^ m:Nat):Int)) w:=by
 subst b;have h:=azf (P:=P) (w:=w) (d:=d) (ty:=ty) (pos:=pos) (af:=af) (g:=g) (t:=t) (u:=u) (m:=m) f c e (bb9 a)
 rwa [show(a:Int) / 2 ^ m=((a / 2 ^ m:Nat):Int) by simp]at h
def NM(e:ev E x=some (.int .u32 ((a / 2 ^ m:Nat):Int)))(b:ev E y=some (.int .u32 1))(c:a<4294967296):dc P E ⟨d,.binOp .and t x y u,ty,pos,af,g⟩ w (.int .u32 (yB a m)) w:=by
 have h:=ayX (P:=P) (w:=w) (d:=d) (ty:=ty) (pos:=pos) (af:=af) (g:=g) (t:=t) (u:=u) e b
 rwa [ay4 a m c]at h
def R2{b:Nat}(e:ev E x=some (.int .u32 (a:Int)))(c:ev E y=some (.int .u32 (b:Int))):dc P E ⟨d,.binOp .andNot t x y u,ty,pos,af,g⟩ w (.int .u32 ((diff a b:Nat):Int)) w:=ot e c (by rfl:binOp .andNot t (.int .u32 (a:Int)) (.int .u32 (b:Int))=pure (.int .u32 (bits .andNot .u32 (a:Int) (b:Int)))) (by rw[aBg];rfl)
def aQT{b:Nat}(h:ev E x=some (.int .u32 (a:Int)))(c:ev E y=some (.int .u32 (b:Int)))(f:a<4294967296)(e:b<4294967296):dc P E ⟨d,.binOp .or t x y u,ty,pos,af,g⟩ w (.int .u32 ((a ||| b:Nat):Int)) w:=ot h c (by rfl:binOp .or t (.int .u32 (a:Int)) (.int .u32 (b:Int))=pure (.int .u32 (bits .or .u32 (a:Int) (b:Int)))) (by rw[aL4 a b f e];rfl)
theorem X0(e:ev E x=some (.int .u32 1))(b:ev E y=some (.int k' j))(a:j=(m:Int))(c:m<32):dc P E ⟨d,.binOp .shl t x y u,ty,pos,af,g⟩ w (.int .u32 ((2 ^ m:Nat):Int)) w:=by
 have h:=aze (P:=P) (w:=w) (d:=d) (ty:=ty) (pos:=pos) (af:=af) (g:=g) (t:=t) (u:=u) (k:=.u32) e b a (by show m<=32;omega)
 rwa [show(IntKind.u32.wrap ((2:Int) ^ m))=((2 ^ m:Nat):Int) by
  rw[show((2:Int) ^ m)=((2 ^ m:Nat):Int) by simp,Yg _ (bb9 _) (Int.ofNat_lt.2 (Kd c))]]at h
end
def atH(n:Nat)(a:n<4294967296)(w:World):Calls prog 85 #[.int .u32 (n:Int)] w λ e w'=>e=.returned (J (b9.size n:Int))/\Ext w w' :=
 (b9.aAM n a w).mono λ e w' ⟨h,q,I⟩=>⟨h,by rw[I];exact below_drewN (baL _ _) q⟩
def HI(t:Int)(x:dY):Bool:=decide (t<=(b9.size x:Int))
theorem ara(t:Int):∀(l:List Nat) (i:Nat),(fK (HI t) l= -1/\b9.wC t l i= -1)\/∃ k:Nat,fK (HI t) l=(k:Int)/\b9.wC t l i=((i+k:Nat):Int)
 | [],i=> .inl ⟨rfl,rfl⟩
 | x::xs,i=>by
  unfold b9.wC;by_cases a:t<=(b9.size x:Int)
  .exact .inr ⟨0,JL (k:=0) Kx (by show HI t x=true;exact baG a) (λ j d=>GE),by rw[bap a];rfl⟩
  .rw[ban a];rcases ara t xs (i+1)with⟨f,c⟩|⟨k,f,c⟩
   .refine .inl ⟨JK λ j d=>?_,c⟩
    match j with
    | 0=>exact baA a
    | j+1 =>
     rcases JJ (HI t) xs with⟨_,b⟩|⟨k,e,b,_⟩
     .exact b _ (bbl _)
     .omega
   .refine .inr ⟨k+1,?_,by rw[c];congr 1;omega⟩;rcases JJ (HI t) xs with⟨b,_⟩|⟨m,e,b,h,g⟩
    .omega
    .obtain rfl:m=k:=GE
     refine JL (by simpa using e) (by simpa using h) (λ j d=>?_)
     match j with
     | 0=>exact baA a
     | j+1=>exact g j GE
def aRz(m:Nat)(l:List Nat):fK (HI ((b9.size m:Int) / 2+1)) l=b9.iO m l:=by
 unfold b9.iO;rcases ara ((b9.size m:Int) / 2+1) l 0 with⟨a,b⟩|⟨k,a,b⟩
 .rw[a,b]
 .rw[a,b,bbi]
def aq6(m x k:Nat):((((b9.diff x m:Nat):Int) != 0) || (yB x k == 1) || (((x:Nat):Int) != 0 && (yB m k == 0)))= !b9.E6 m x k:=by
 unfold b9.E6 yB;generalize b9.diff x m=d;have a:(((d:Nat):Int) != 0)= !(d == 0):=by
  rw[bcz];simp
 have b:(((x:Nat):Int) != 0)= !(x == 0):=by
  rw[bcz];simp
 rw[a,b];cases(d == 0)<;>cases(x == 0)<;>cases x.testBit k<;>cases m.testBit k<;>rfl
def IM(m:Nat)(l:List Nat):Prop:=l.length=16/\b9.check m l=0
theorem XZ{l:List Nat}:IM m l↔m≠0/\m<65536/\l.length=16/\(∀ j,j<l.length->b9.E6 m (l.getD j 0) j=true)/\b9.iO m l<0:=by
 have g:=b9.W3 m l 0;unfold IM b9.check;constructor
 .rintro⟨f,h⟩;split at h
  .cases h
  .split at h
   .cases h
   .split at h
    .cases h
    .rename_i a b c
     refine⟨GE,GE,f,λ j e=>?_,bfD.1 c⟩;have:=g.1 (by simpa using b) j e
     rwa [bbi]at this
 .rintro⟨a,b,f,c,d⟩;refine⟨f,?_⟩;rw[ban GE,ban (by rw[g.2 (λ j e=>by rw[bbi];exact c j e)];decide)];exact ban (show ¬0<=b9.iO m l by omega)
def aQP(h:m≠0)(a:m<65536):(((m:Int)== 0) || (((m / 2 ^ 16:Nat):Int) != 0))=false:=by
 have e:m / 2 ^ 16=0:=bdL a;rw[e];simp[h]
def aQO(h:(((m:Int)== 0) || (((m / 2 ^ 16:Nat):Int) != 0))=false):m≠0/\m<65536:=by
 simp only[baN,bbG,bdn]at h;omega
theorem aji(A:Option Addr)(c:Nat)(l:List dY)(w:World)(h:dY.ce.aF 4 w A c l):
  Calls prog 29 #[.slice A l.length c] w λ e w'=>∃ b' cn,e=.returned (.slice b' l.length cn)/\dY.ce.aM 34 4 w' w.heap.size (τ.ai b') b' cn l/\(b'=none↔A=none)/\Below w.heap.size w w':=by
 obtain⟨i0,ao,sv,tx,tz⟩:=bc6 dY.G;have Xk:∀(w:World) (a:Option Addr) (n c ln cn:Nat),(binOp .eql 35 (.slice a n c) (.slice none ln cn)).run prog w=.ok (.bool a.isNone) w:=λ w a n c ln cn=>bcG w _ _ a n c ln cn underlying35;cases A with
 | none =>
  obtain rfl:c=0:=h.2.2.2.1 rfl;obtain rfl:l=[]:=baM (by have:=h.1;omega);go_enter func29,ntmps29;go_wp2_with fail
  go_ret;exact⟨none,0,Z,τ.aM.nil _,Kx,baL _ _⟩
 | some a =>
  have du:Below w.heap.size w (w.alloc (.cells #[] 34)):=(baL _ w).alloc (bao _) _;obtain⟨n,gx⟩:∃ n,Hid (l.length=n):=⟨_,bag rfl⟩;obtain⟨aa,ab,ay,ba,ess,b2,cL⟩:=h.be du;have BU:=bag b2;have ry:∀ u∈ess.flatten,u.oneCell'=true:=by
   intro u hu;obtain⟨y,aP,hu⟩:=bbv.1 hu;obtain⟨a,ha⟩:=b2.left y aP;exact dY.ce.one ha u hu
  have tv:∀(j:Nat) u,ess.flatten[j]? =some u->dY.ce.raw (j % dY.ce.size) u:=λ j u hu=>Mb b2 GP hu;rw[gx.out]at aa ay cL;have eX:=bag cL;have k7:=bag (Own.empty (e:=34) (size:=dY.ce.size) (G:=dY.ce.raw) w (bao w.heap.size));clear h ba b2 cL;rw[gx.out];go_enter func29,ntmps29;go_wp2_with (at_builtin;refine N4 _ rfl _ _ 35 rfl w.heap.size 34 i0 (Value.int .u32 0) dY.ce.size 4 underlying35 ao sv tx tz rfl GP dY.ce.raw dY.M _ _ _ rfl k7.out (some a) n c ess.flatten rfl eX.out ry tv ?qc4 ?qc5 ?qc6 ?_)
  case qc4=>unfold maxLen;omega
  case qc5=>omega
  case qc6=>simp
  intro v' a8 gF lj pz hl;have dx:=du.grown lj Kx (by intro k au;simp[Value.ownBlock]at au;omega);obtain⟨cX,c1,rfl,hle,_,_,_,nj⟩:=gF.shape;have mF:cX≠none:=by
   intro h;subst h;exact pz (nj Z)
  have bI:Hid (dY.ce.aM 34 4 a8 w.heap.size (τ.ai cX) cX c1 l):=bag (τ.aM.E5 dY.plain BU.out (by rw[gx.out];exact ay) (by rw[gx.out];simpa using gF));have xa:=bag mF;clear lj pz hl gF mF nj ry tv;go_wp2_with fail
  go_ret;exact⟨cX,c1,Z,bI.out,⟨λ h=>absurd h xa.out,λ h=>by cases h⟩,dx⟩
theorem aIO(b:FuncId)(cs:List Value)(p:dY->Bool)(A:Option Addr)(c:Nat)(l:List dY)(w:World)(g:dY.ce.aF 4 w A c l)(t:Enters prog b)(s:∀ x∈l,∀ w',Ext w w'->Calls prog b (([.int .u32 (x:Int)]:List Value)++cs).toArray w' λ e v=>e=.returned (.bool (p x))/\Ext w' v):
  Calls prog 86 #[.slice A l.length c,.func (.func b) #[] cs.toArray] w (λ e w'=>e=.returned (J (fK p l))/\Ext w w'):=by
 have G:=g.M;refine bT (n:=19) func86 Z Z Z ?_;refine ar<|aG Z<|av<|aC Z<|κ (bY underlying35 Z)<|vm Z<|ax<|bp<|?_;refine di (λ r q m=>∃ k:Nat,q=[(0,.slice A l.length c),(1,.func (.func b) #[] cs.toArray),(7,J (l.length:Int)),(8,J (k:Int))]/\r=l.length-k/\Ext w m/\(k<=l.length)/\(∀ i,i<k->p (l.getD i 0)=false)) _ _ ⟨0,Z,Z,(Ext.U w),GE,λ i o=>GE⟩ (c' Z Z Z) ?_;rintro D B F ⟨k,rfl,rfl,a,E,f⟩;refine ar<|cF Z Z<|ax<|av<|?_;refine c7 Z (λ y=>?_) (λ y=>?_)
 .refine bf<|av<|bp<|aC Z<|aG Z<|aC Z<|vm Z<|vm Z<|κ (bD k underlying35 vU Z Z ((g.be a).Y (aL k)) Z GE)<|κ (aq Z (τ.aF.H AB ((g.be a).O (aL k)) (cg (l:=l) (u:=0) GE) Z ob))<|Ae t Z Z Z ((s (l.getD k 0) (gZ GE) _ a).mono ?_);rintro e C ⟨rfl,z⟩;refine cR ?_;have j:=Φ a z;refine ax<|?_;refine dB Z (λ h=>?_) (λ h=>?_)
  .refine aC Z<|bc Z<|dO<|bR<|k1<|dO<|bR<|b3 Z Z<|?_;exact⟨by have e:=JN (p:=p) (l:=l) (d:=0) (k:=k) GE h f;rw[e];rfl,j⟩
  .refine dP<|bK<|cW Z Z Z<|?_;exact cM ⟨k+1,Z,Z,j,GE,pC f h⟩
 .refine cI<|cH<|cU<|cG<|a7<|ar<|bc Z<|b3 Z Z<|?_;exact⟨by have e:=JM (p:=p) (l:=l) (d:=0) (λ i o=>f i GE);rw[e];rfl,a⟩
theorem aQV(a:Nat)(f:a<4294967296)(t:Int)(b:Nat)(w:World)(c:aO w b [J t] 3 (0,0)):
  Calls prog 87 #[.int .u32 (a:Int),.pointer (bd b)] w (λ e w'=>e=.returned (.bool (HI t a))/\Ext w w'):=by
 refine bT (n:=8) func87 Z Z Z ?_;refine ar<|aG Z<|av<|?_;refine c_ [(1,0),(2,0)] [0,1,2,3,4] ?_;refine bt Z Z<|nQ Z Z akG Z (λ _ x=>atH a f _) Z<|cr Z Z c aH Z<|aA Z (λ _=>iV Z Z)<|aA Z (λ _=>fh Z)<|fn λ g d=>?_;refine a7<|rt<|b3 Z Z<|?_;exact⟨Z,d⟩
theorem atL(m:Nat)(s:m<4294967296)(A:Option Addr)(c:Nat)(l:List Nat)(w:World)(f:dY.ce.aF 4 w A c l):
  Calls prog 57 #[.agg #[.int .u32 (m:Int),.slice A l.length c]] w (λ e w'=>e=.returned (J (b9.iO m l))/\Ext w w'):=by
 have F:b9.size m<=32:=b9.GB 32 m;refine bT (n:=13) func57 Z Z Z ?_;refine cZ Z Z λ B y o z a=>?_;have D:=a.lt;refine aG Z<|ar<|κ (aj r4 Z)<|a1 Z a ob Z<|cf akG Z (atH m s _) λ C b=>?_;have:=b.size;have p:=Φ o b;refine κ (aak Z Z GE GE (afi GE GE GE))<|fb Z Z<|cy UG Z λ H j g v d=>?_;have u:=Φ p g;refine st (new:=[J (((b9.size m:Int) / 2)+1)]) Z Z d Z cO Z Z Z λ G k d=>?_;have i:=Ext.H u k bn;refine ax<|ar<|κ (aj vV Z)<|?_;have a:=(a.O (Φ b g)).H k aJ;refine a1 Z a yN Z<|κ (A3 Z Z)<|cf aCF Z (aIO 87 [.pointer (bd j)] (HI (((b9.size m:Int) / 2)+1)) _ _ l _ (f.be i) aCE (λ x t w' h=>aQV x (dY.C f x t) (((b9.size m:Int) / 2)+1) j w' (d.O h))) λ E q=>?_;have r:=Φ i q;refine bc Z<|b3 Z Z<|?_;exact⟨by rw[aRz];rfl,r⟩
theorem atG(m:Nat)(x:m<4294967296)(A:Option Addr)(c:Nat)(l:List Nat)(w:World)(o:dY.ce.aF 4 w A c l):
  Calls prog 32 #[.agg #[.int .u32 (m:Int),.slice A l.length c]] w (λ e w'=>∃ v:Int,e=.returned (J v)/\(v=0↔IM m l)/\Ext w w'):=by
 refine bT (n:=54) func32 Z Z Z ?_;refine cZ Z Z λ X r q W f=>?_;refine aG Z<|av<|ar<|κ (aj r4 Z)<|a1 Z f ob Z<|κ (beq Z Z)<|vm Z<|aR Z (λ b=>aj r4 Z)<|aR Z (λ b=>aq (gt b Z) (f.one ob Z))<|aR Z (λ b=>H0 (m:=16) (gt b Z) Z Z GP)<|aR Z (λ b=>bne (gt b Z) Z)<|κ (dS Z Z Z Z)<|ax<|?_;refine dB Z (λ p=>?_) (λ p=>?_)
 .refine ar<|bc Z<|bR<|b3 Z Z<|?_;exact⟨1,Z,⟨λ d=>absurd d GP,λ d=>absurd d (λ d=>by obtain⟨H,D,_⟩:=XZ.1 d;rw[aQP H D]at p;cases p)⟩,q⟩
 .obtain⟨B,C⟩:=aQO p;refine bf<|av<|ar<|κ (aj vV Z)<|a1 Z f yN Z<|κ (bY underlying35 Z)<|cV Z Z<|ax<|?_;refine fr Z (λ M=>?_) (λ M=>?_)
  .refine ar<|bc Z<|bR<|b3 Z Z<|?_;exact⟨4,Z,⟨λ d=>absurd d GP,λ d=>absurd d (λ d=>by have:=d.1;omega)⟩,q⟩
  .have z:l.length=16:=GE
   refine bf<|av<|ar<|κ (aj vV Z)<|a1 Z f yN Z<|κ (bY underlying35 Z)<|vm Z<|ax<|bp<|?_;refine di (λ G F s=>∃ k:Nat,F=[(1,.pointer (bd r)),(19,.slice A l.length c),(20,J (l.length:Int)),(21,J (k:Int))]/\G=l.length-k/\Ext w s/\aO s r [.int .u32 (m:Int),.slice A l.length c] 37 (0,0)/\(k<=l.length)/\(∀ j,j<k->b9.E6 m (l.getD j 0) j=true)) _ _ ⟨0,Z,Z,q,f,GE,λ i U=>GE⟩ (c' Z Z Z) ?_;rintro T S Q ⟨k,rfl,rfl,g,f,V,t⟩;refine ar<|cF Z Z<|ax<|av<|?_;refine c7 Z (λ K=>?_) (λ K=>?_)
   .refine bf<|av<|bp<|aC Z<|κ (bD k underlying35 vU Z Z ((o.be g).Y (aL k)) Z GE)<|κ (aq Z (τ.aF.H AB ((o.be g).O (aL k)) (cg (l:=l) (u:=0) GE) Z ob))<|va Z<|aG Z<|aC Z<|κ (aj r4 Z)<|a1 Z f ob Z<|κ (R2 Z Z)<|cV Z Z<|vm Z<|er Z Z<|er Z Z<|aR Z (λ b=>H0 (m:=k) (gt b Z) (gt b Z) Z GE)<|?_;refine aR Z (λ b=>NM (a:=(l.getD k 0)) (gt b Z) Z (dY.C o _ (gZ GE)))<|aR Z (λ b=>beq (gt b Z) Z)<|κ (dS Z Z Z Z)<|vm Z<|er Z Z<|aR Z (λ b=>bne (gt b Z) Z)<|Bk Z (λ b=>(gt b Z))<|dV Z Z Z Z (λ b=>aj r4 Z) Z<|dV Z Z Z Z (λ b=>aq (gt b Z) (f.one ob Z)) Z<|dV Z Z Z Z (λ b=>fW Z) Z<|dV Z Z Z Z (λ b=>H0 (m:=k) (gt b Z) (gt b Z) Z GE) Z<|dV Z Z Z Z (λ b=>NM (a:=m) (gt b Z) Z x) Z<|dV Z Z Z Z (λ b=>beq (gt b Z) Z) Z<|aR Z (λ b=>E7 b (gt b Z) Z Z)<|κ (dS Z Z Z Z)<|ax<|?_;refine dB Z (λ h=>?_) (λ h=>?_)
    .refine ar<|bc Z<|dO<|bR<|k1<|dO<|bR<|b3 Z Z<|?_;exact⟨4,Z,⟨λ d=>absurd d GP,λ d=>absurd d (λ d=>by have N:=(XZ.1 d).2.2.2.1 k GE;rw[aq6,N]at h;cases h)⟩,g⟩
    .rw[aq6]at h;have E:b9.E6 m (l.getD k 0) k=true:=by simpa using h
     refine dP<|bK<|cW Z Z Z<|?_;exact cM ⟨k+1,Z,Z,g,f,GE,pC t E⟩
   .refine cI<|cH<|cU<|cG<|a7<|av<|ar<|κ (aq Z (f.all oc ky))<|cf abi Z (atL m x _ _ l _ (o.be g)) λ P L=>?_;have y:=Φ g L;refine κ (iV Z Z)<|ax<|?_;refine xp Z (λ O=>?_) (λ O=>?_)
    .refine ar<|bc Z<|bR<|b3 Z Z<|?_;exact⟨4,Z,⟨λ d=>absurd d GP,λ d=>absurd d (λ d=>by have:=(XZ.1 d).2.2.2.2;omega)⟩,y⟩
    .refine bf<|ar<|bc Z<|b3 Z Z<|?_;exact⟨0,Z,⟨λ _=>XZ.2 ⟨B,C,z,λ j R=>t j GE,GE⟩,λ _=>Z⟩,y⟩
end
section
variable{k m i f:Nat}{l:List Nat}
open fg
def atM(m:Nat)(b:m<4294967296)(A:Option Addr)(c:Nat)(l:List Nat)(n:Nat)(w:World)(a:dY.ce.aF 4 w A c l)(d:l.length=n):Calls prog 57 #[.agg #[.int .u32 (m:Int),.slice A n c]] w (λ e w'=>e=.returned (J (b9.iO m l))/\Ext w w'):=by
 subst d;exact atL m b A c l w a
def aQQ(m:Nat)(k:Int):((decide (0<=k) && decide (k<16)) && (yB m k.toNat == 1))=b9.E2 m k:=by
 unfold b9.E2 yB;rw[Bool.and_assoc];cases m.testBit k.toNat<;>rfl
def XY{a:Nat}:yB a k=1↔a.testBit k=true:=by unfold yB;cases a.testBit k<;>simp
def aQR{a b:Bool}(h:((!a) || (!b))=false):a=true/\b=true:=by cases a<;>cases b<;>simp_all
def atJ{k:Int}(h:b9.E2 m k=true):0<=k/\k<16:=by
 unfold b9.E2 at h;simp only[bai,baF]at h;exact⟨h.1,h.2.1⟩
def aQX(k:Nat)(l:List Nat):b9.part k l 0=l:=rfl
def atN(h:i<l.length):(b9.part k l i)[i]? =some (l.getD i 0):=by rw[b9.aMn k l i h,p6 h]
def aQW(h:i<l.length):(b9.part k l i).set i (b9.diff (l.getD i 0) (2 ^ k))=b9.part k l (i+1):=by rw[<-b9.ae1 k l i h,p6 h];rfl
def atI(c:l.length=16)(h:0<=b9.iO m l):b9.sI (b9.sz l (b9.iO m l).toNat)<b9.sI l:=by
 obtain⟨k,e,b,a⟩:=b9.Yd h;rw[e,ba4];exact b9.aei c b a
def aQZ{C:Nat×List Nat}(b:l.length=16)(c:b9.sI l<=f)(a:b9.u_ f m l=C)(h:0<=b9.iO m l):∃ f,b9.sI (b9.sz l (b9.iO m l).toNat)<=f/\b9.u_ f (b9.diff m (2 ^ (b9.iO m l).toNat)) (b9.sz l (b9.iO m l).toNat)=C:=by
 have d:=atI b h;obtain⟨f,rfl⟩:∃ k,f=k+1:=⟨f-1,GE⟩;rw[b9.u_,bap h]at a;exact⟨f,GE,a⟩
def aQY(h:¬0<=b9.iO m l):b9.u_ f m l=(m,l):=by
 cases f with
 | zero=>rfl
 | succ f=>rw[b9.u_,ban h]
def Gy(m:Nat)(l:List Nat)(p q:Int):Prop:=IM m l/\b9.E2 m p=true/\b9.E2 m q=true/\p≠q/\(l.getD q.toNat 0).testBit p.toNat=false
def D5(m:Nat)(l:List Nat)(p q:Int):Nat×List Nat:=b9.u_ 16 m (l.set q.toNat (l.getD q.toNat 0 ||| 2 ^ p.toNat))
def avC(m:Nat)(l:List Nat)(p q e:Int)(a:Nat)(b:List Nat):Prop:=(e=0/\Gy m l p q/\(a,b)=D5 m l p q)\/(e≠0/\¬Gy m l p q/\a=0/\b=[])
theorem af9(m:Nat)(f:m<4294967296)(A:Option Addr)(n c:Nat)(k:Int)(w:World):
  Calls prog 63 #[.agg #[.int .u32 (m:Int),.slice A n c],J k] w (λ e w'=>e=.returned (.bool (b9.E2 m k))/\Ext w w'):=by
 refine bT (n:=19) func63 Z Z Z ?_;refine cZ Z Z λ j h d i g=>?_;refine aG Z<|aC Z<|κ (iV Z Z)<|vm Z<|er Z Z<|aR Z (λ b=>blt (gt b Z) Z)<|κ (cQ Z Z Z Z)<|vm Z<|aR Z (λ b=>aj r4 Z)<|aR Z (λ b=>aq (gt b Z) (g.one ob Z))<|er Z Z<|aR Z (λ b=>H0 (m:=k.toNat) (gt b Z) (gt b Z) (by (try simp only[bai,baF,ba9,ber]at b);omega) (by (try simp only[bai,baF,ba9,ber]at b);omega))<|aR Z (λ b=>NM (a:=m) (gt b Z) Z f)<|aR Z (λ b=>beq (gt b Z) Z)<|κ (cQ Z Z Z Z)<|bc Z<|b3 Z Z<|?_;exact⟨by rw[<-aQQ];rfl,d⟩
theorem aQN(aQ:Nat)(g:Nat)(m:Nat)(hm:m<4294967296)(A:Option Addr)(n c:Nat)(l:List Nat)(k:Int)(au:0<=k/\k<16)(w:World)(a:aO w g [.int .u32 (m:Int),.slice A n c] 37 (0,0))(f:dY.ce.aM 34 4 w aQ (τ.ai A) A c l)(hn:l.length=n)(M:l.length=16)(z:∀ q∈τ.ai A,q=g->False):
  Calls prog 64 #[.pointer (bd g),J k] w (λ e w'=>e=.returned (.tuple #[])/\aO w' g [.int .u32 ((b9.diff m (2 ^ k.toNat):Nat):Int),.slice A n c] 37 (0,0)/\dY.ce.aM 34 4 w' aQ (τ.ai A) A c (b9.sz l k.toNat)/\Mod (g::τ.ai A) w w'):=by
 refine bT (n:=40) func64 Z Z Z ?_;refine av<|?_;refine c_ [(3,0),(9,3)] [0,1,2,3,4,5,6,7,8,9] ?_;refine bt Z Z<|aA Z (λ _=>cB Z)<|aA Z (λ _=>aj r4 Z)<|cr Z Z a ob Z<|bt Z Z<|aA Z (λ _=>X0 (m:=k.toNat) Z Z GE GE)<|aA Z (λ _=>R2 Z Z)<|aA Z (λ _=>cB Z)<|aA Z (λ _=>aj r4 Z)<|en Z Z Z λ ch s Q y=>ep Z Z (a.O s) Z vU Z Z λ ab F a=>y _ _ ?_;have R:=(Mod.U (g::τ.ai A) w).trans (Mod.O s);have L:=R.Y F wx;refine fn λ dr r=>?_;have P:=L.trans (Mod.O r);refine a7<|aC Z<|κ (cB Z)<|κ (aj vV Z)<|?_;have a:=a.O r;refine a1 Z a yN Z<|vm Z<|?_;have f:=((f.O s).H F (bM z)).O r;refine κ (bD k.toNat underlying35 vU Z Z (f.bv.Y (aL k.toNat)) GE GE)<|so (q':=0) (j:=0) (i:=k.toNat) f τ.O (cg (l:=l) (u:=0) GE) Z Z Z Z (λ _ cs h=>by have V:=(show _/\_ from h).2;obtain rfl:=AB h;exact⟨rfl,(show(0:Nat)<4294967296 by decide)⟩) Z Z vU λ sM E D=>?_;have S:=P.Y E (λ q I=> .inl (bav _ I));refine ax<|aC Z<|κ (cB Z)<|κ (aj vV Z)<|?_;have a:=a.H E (λ I=>z _ I rfl);refine a1 Z a yN Z<|κ (bY underlying35 Z)<|vm Z<|ax<|bp<|?_;have p:((l).set k.toNat 0).length=16:=by rw[bak];exact M
 obtain⟨b,G⟩:∃ b,b=((l).set k.toNat 0):=⟨_,rfl⟩;rw[<-G]at p D;refine di (λ O N o=>∃ i:Nat,N=[(0,.pointer (bd g)),(1,J k),(24,J (n:Int)),(25,J (i:Int))]/\O=n-i/\Mod (g::τ.ai A) w o/\aO o g [.int .u32 (((b9.diff m (2 ^ k.toNat):Nat):Int)),.slice A n c] 37 (0,0)/\dY.ce.aM 34 4 o aQ (τ.ai A) A c (b9.part k.toNat b i)/\(i<=n)/\((b9.part k.toNat b i).length=16)/\(∀ q∈τ.ai A,q=g->False)) _ _ ⟨0,Z,Z,S,a,(by rw[aQX];exact D),GE,by rw[b9.ae0];exact p,z⟩ (c' Z Z Z) ?_;rintro Hw ad Fl ⟨i,rfl,rfl,K,a,d,ao,aa,C⟩;refine ar<|cF Z Z<|ax<|av<|?_;refine c7 Z (λ X=>?_) (λ X=>?_)
 .refine bf<|av<|bp<|aC Z<|aG Z<|?_;refine c_ [(3,0),(6,0),(11,3)] [0,1,2,3,4,5,6,7,8,9,10,11] ?_;refine bt Z Z<|aA Z (λ _=>cB Z)<|aA Z (λ _=>aj vV Z)<|cr Z Z a yN Z<|bt Z Z<|aA Z (λ _=>bD i underlying35 vU Z Z (d.bv.Y (aL i)) Z GE)<|dE Z (λ _ x=>aq Z (τ.aF.H AB ((d.O x).bv.O (aL i)) (atN GE) Z ob))<|bt Z Z<|aA Z (λ _=>X0 (m:=k.toNat) Z Z GE GE)<|aA Z (λ _=>R2 Z Z)<|aA Z (λ _=>bD i underlying35 vU Z Z (d.bv.Y (aL i)) Z GE)<|en Z Z Z λ wM v Q y=>so (q':=b9.diff (b.getD i 0) (2 ^ k.toNat)) (j:=0) (i:=i) (d.O v) τ.O (atN GE) Z Z Z Z (λ _ cs h=>by have V:=(show _/\_ from h).2;obtain rfl:=AB h;exact⟨rfl,b9.I4 _ _⟩) Z Z vU λ Y H B=>y _ _ ?_;have T:=K.trans (Mod.O v);have W:=T.Y H (λ q I=> .inl (bav _ I));refine fn λ xX t=>?_;have U:=W.trans (Mod.O t);refine bK<|cW Z Z Z<|?_;have a:=((a.O v).H H (λ I=>C _ I rfl)).O t;have B:=B.O t;exact cM ⟨i+1,Z,Z,U,a,(by rw[<-aQW GE];exact B),GE,by rw[b9.ae0];exact p,C⟩
 .refine cI<|cH<|cU<|cG<|ne<|cJ .nil<|?_;obtain rfl:i=16:=GE
  exact⟨Z,a,by unfold b9.sz;rw[<-G];exact d,K⟩
theorem aQK(m:Nat)(M:m<4294967296)(A:Option Addr)(c:Nat)(l:List Nat)(p g:Int)(w:World)(B:dY.ce.aF 4 w A c l):
  Calls prog 39 #[.agg #[.int .u32 (m:Int),.slice A l.length c],J p,J g] w (λ e w'=>∃(e':Int) (m':Nat) (b':Option Addr) (cn:Nat) (uM:List Nat) (b:Bool),e=.returned (.tuple #[.agg #[.int .u32 (m':Int),.slice b' uM.length cn],.bool b,J e'])/\avC m l p g e' m' uM/\dY.ce.aM 34 4 w' w.heap.size (τ.ai b') b' cn uM/\Ext w w'):=by
 refine bT (n:=71) func39 Z Z Z ?_;refine cZ Z Z λ ch G aV cY k=>?_;have gp:=k.lt;refine cy Ux Z λ dr K bh fl d=>?_;have bo:=Φ aV bh;have j8:=d.lt;refine va Z<|aG Z<|ar<|?_;have k:=k.O bh;refine κ (aq Z (k.all oc ky))<|ca akH Z Z ((atG m M _ _ l _ (B.be bo)).mono ?_);rintro e rH ⟨Dt,rfl,af,z⟩;refine cR ?_;have:=z.size;have ib:=Φ bo z;refine aG Z<|av<|bp<|aC Z<|cV Z Z<|aG Z<|?_;refine fr Z (λ qM=>?_) (λ qM=>?_)
 .refine dP<|bK<|a7<|av<|aC Z<|cV Z Z<|ax<|?_;refine fr Z (λ ux=>?_) (λ ux=>?_)
  .refine ar<|κ (v:=.agg #[.int .u32 0,.slice none 0 0]) (ee Z)<|vm Z<|?_;have d:=d.O z;refine ck Z Z d Z ky Z Z λ vh oO d=>?_;have jb:=Ext.H ib oO bn;refine va Z<|bc Z<|bR<|cJ (.cell Z (d.all oc ky) (.tmp Z (.tmp Z .nil)))<|?_;exact⟨Dt,0,none,0,[],false,Z,.inr ⟨(by simpa using qM),(λ y=>(show ¬Dt=0 by simpa using qM) (af.2 y.1)),Z,Z⟩,τ.aM.nil _,jb⟩
  .exfalso;omega
 .have ag:=af.1 (by simpa using qM);have AG:=ag.1;refine ar<|?_;have k:=k.O z;refine κ (aq Z (k.all oc ky))<|vm Z<|cf abj Z (af9 m M A l.length c p _) λ ow C=>?_;have:=C.size;have fP:=Φ ib C;refine κ (dj Z)<|vm Z<|?_;have k:=k.O C;refine aR Z (λ H=>aq Z (k.all oc ky))<|er Z Z<|iD Z abj (λ H=>b6 (gt H Z) (b6 (gt H Z) Z)) (λ H=>af9 m M A l.length c g _) λ vk E=>?_;have:=E.size;have D:=Φ fP E;refine aR Z (λ H=>dj (gt H Z))<|κ (dS Z Z Z Z)<|aG Z<|?_;refine dB Z (λ P=>?_) (λ P=>?_)
  .refine rg<|va Z<|nl<|bK<|a7<|av<|aC Z<|cV Z Z<|ax<|fB Z<|ar<|κ (v:=.agg #[.int .u32 0,.slice none 0 0]) (ee Z)<|vm Z<|?_;have d:=d.O (Φ z (Φ C E));refine ck Z Z d Z ky Z Z λ xX qc d=>?_;have lu:=Ext.H D qc bn;refine va Z<|bc Z<|bR<|cJ (.cell Z (d.all oc ky) (.tmp Z (.tmp Z .nil)))<|?_;exact⟨7,0,none,0,[],false,Z,.inr ⟨GP,(λ y=>by rw[y.2.1,y.2.2.1]at P;cases P),Z,Z⟩,τ.aM.nil _,lu⟩
  .obtain⟨QJ,VR⟩:=aQR P;have aE:=atJ QJ;have aw:=atJ VR;refine aC Z<|vm Z<|κ (beq Z Z)<|aG Z<|?_;refine j1 Z (λ Ji=>?_) (λ Ji=>?_)
   .refine rg<|va Z<|nl<|bK<|a7<|av<|aC Z<|cV Z Z<|ax<|fB Z<|ar<|κ (v:=.agg #[.int .u32 0,.slice none 0 0]) (ee Z)<|vm Z<|?_;have d:=d.O (Φ z (Φ C E));refine ck Z Z d Z ky Z Z λ wN xM d=>?_;have jD:=Ext.H D xM bn;refine va Z<|bc Z<|bR<|cJ (.cell Z (d.all oc ky) (.tmp Z (.tmp Z .nil)))<|?_;exact⟨1,0,none,0,[],false,Z,.inr ⟨GP,(λ y=>y.2.2.2.1 GE),Z,Z⟩,τ.aM.nil _,jD⟩
   .have am:p≠g:=GE
    refine ar<|κ (aj vV Z)<|?_;have k:=k.O E;refine a1 Z k yN Z<|vm Z<|κ (bD g.toNat underlying35 vU Z Z ((B.be D).Y (aL g.toNat)) GE GE)<|κ (aq Z (τ.aF.H AB ((B.be D).O (aL g.toNat)) (cg (l:=l) (u:=0) GE) Z ob))<|vm Z<|κ (H0 (m:=p.toNat) Z Z GE GE)<|κ (NM (a:=(l.getD g.toNat 0)) Z Z (dY.C B _ (gZ GE)))<|κ (beq Z Z)<|aG Z<|?_;refine j1 Z (λ P7=>?_) (λ P7=>?_)
    .refine rg<|va Z<|nl<|bK<|a7<|av<|aC Z<|cV Z Z<|ax<|fB Z<|ar<|κ (v:=.agg #[.int .u32 0,.slice none 0 0]) (ee Z)<|vm Z<|?_;have d:=d.O (Φ z (Φ C E));refine ck Z Z d Z ky Z Z λ H4 pF d=>?_;have qw:=Ext.H D pF bn;refine va Z<|bc Z<|bR<|cJ (.cell Z (d.all oc ky) (.tmp Z (.tmp Z .nil)))<|?_;exact⟨8,0,none,0,[],false,Z,.inr ⟨GP,(λ y=>by have rq:=XY.1 P7;rw[y.2.2.2.2]at rq;cases rq),Z,Z⟩,τ.aM.nil _,qw⟩
    .have xB:(l.getD g.toNat 0).testBit p.toNat=false:=by simpa using mt XY.2 P7
     have au:g.toNat<l.length:=GE
     refine dP<|bK<|a7<|av<|aC Z<|cV Z Z<|ax<|?_;refine fr Z (λ Jj=>?_) (λ Jj=>?_)
     .exfalso;omega
     .refine bf<|ar<|κ (aj vV Z)<|a1 Z k yN Z<|ca akI Z Z ((aji _ _ l _ (B.be D)).mono ?_);rintro e xZ ⟨s,ab,rfl,t,ay,gJ⟩;refine cR ?_;have jX:=Φ D gJ;have R:=dZ t.lt;refine κ (aj vV Z)<|?_;have k:=k.O gJ;refine ep Z Z k Z akJ Z Z λ NO A1 k=>?_;have yh:=Ext.H jX A1 bn;refine ax<|av<|?_;refine c_ [(1,0),(4,0),(9,3)] [0,1,2,3,4,5,6,7,8,9] ?_;refine aA Z (λ _=>aj vV Z)<|cr Z Z k yN Z<|bt Z Z<|?_;have t:=t.H A1 (bx R);refine aA Z (λ _=>bD g.toNat underlying35 vU Z Z (t.bv.Y (aL g.toNat)) GE GE)<|dE Z (λ _ x=>aq Z (τ.aF.H AB ((t.O x).bv.O (aL g.toNat)) (cg (l:=l) (u:=0) GE) Z ob))<|bt Z Z<|aA Z (λ _=>X0 (m:=p.toNat) Z Z GE GE)<|aA Z (λ _=>aQT Z Z (dY.C B _ (gZ GE)) (b9.Kd GE))<|aA Z (λ _=>bD g.toNat underlying35 vU Z Z (t.bv.Y (aL g.toNat)) GE GE)<|en Z Z Z λ qq L Q hK=>so (q':=(l.getD g.toNat 0) ||| (2 ^ p.toNat)) (j:=0) (i:=g.toNat) (t.O L) τ.O (cg (l:=l) (u:=0) GE) Z Z Z Z (λ _ cs h=>by have mK:=(show _/\_ from h).2;obtain rfl:=AB h;exact⟨rfl,(b9.aqn (dY.C B _ (gZ GE)) (b9.Kd GE))⟩) Z Z vU λ NP nr F=>hK _ _ ?_;have hQ:=Φ yh L;have yi:=Ext.H hQ nr (λ q I=>bay GE ((t.O L).lt q I).1);refine fn λ Fm X=>?_;have nC:=Φ yi X;refine a7<|av<|ar<|?_;have k:=k.O L;have ad:∀ q∈τ.ai s,q=G->False:=λ q I V=>by (have:=R q I;omega)
      have k:=(k.H nr (λ I=>ad _ I rfl)).O X;refine κ (aq Z (k.all oc ky))<|?_;have F:=F.O X;refine cf abi Z (atM m M _ _ ((l).set g.toNat ((l.getD g.toNat 0) ||| (2 ^ p.toNat))) _ _ F.bv (by first|omega|(rw[bak])|(rw[b9.Wi _ _ O];omega))) λ X_ W=>?_;have FH:=Φ nC W;refine aG Z<|bp<|?_;have F:=F.O W;have k:=k.O W;have an:((l).set g.toNat ((l.getD g.toNat 0) ||| (2 ^ p.toNat))).length=16:=by rw[bak];exact AG
      have d:=((d.O (Φ z (Φ C (Φ E gJ)))).H A1 aJ).O L;have ah:∀ q∈τ.ai s,q=K->False:=λ q I V=>by (have:=R q I;omega)
      have d:=(d.H nr (λ I=>ah _ I rfl)).O (Φ X W);refine di (λ bJ bH U=>∃ r:Nat,∃ o:List dY,bH=[(2,J g),(3,.pointer (bd G)),(6,.pointer (bd K)),(7,.bool false),(8,J 0),(10,J (b9.iO r o))]/\bJ=b9.sI o/\Ext w U/\aO U K [.int .u32 0,.slice none 0 0] 37 (0,0)/\aO U G [.int .u32 (r:Int),.slice s ((l).length) ab] 37 (0,0)/\dY.ce.aM 34 4 U vk.heap.size (τ.ai s) s ab (o)/\(r<4294967296)/\(o.length=16)/\(∃ f,b9.sI o<=f/\b9.u_ f r o=b9.u_ 16 m (l.set g.toNat (l.getD g.toNat 0 ||| 2 ^ p.toNat)))/\(∀ q∈τ.ai s,q=K->False)/\(∀ q∈τ.ai s,q=G->False)) _ _ ⟨m,(l).set g.toNat ((l.getD g.toNat 0) ||| (2 ^ p.toNat)),Z,Z,FH,d,k,F,M,an,⟨16,by have:=b9.aqV ((l).set g.toNat ((l.getD g.toNat 0) ||| (2 ^ p.toNat)));omega,rfl⟩,(λ q I V=>by (have:=R q I;omega)),ad⟩ (qW Z) ?_;rintro E0 ao Fp ⟨r,o,rfl,rfl,pS,d,gj,N,Qy,O,fD,aa,ae⟩;refine av<|aC Z<|κ (iV Z Z)<|ax<|?_;refine xp Z (λ ai=>?_) (λ ai=>?_)
      .obtain⟨kw,ap,az,aB⟩:=b9.Yd (m:=r) (l:=o) GE;have ak:0<=b9.iO r o/\b9.iO r o<16:=GE
       refine bf<|av<|bp<|rg<|vm Z<|ca aCG Z Z ((aQN _ G r Qy _ _ _ o (b9.iO r o) ak _ gj N GE GE ae).mono ?_);rintro e NY ⟨rfl,S,T,oi⟩;refine cR ?_;have GJ:∀ q∈(G::τ.ai s),q=K->False:=λ q I V=>(baB.1 I).elim (λ h=>GE) (λ h=>by (exact aa q h V));have tT:=Ext.H pS oi (λ q I=>(baB.1 I).elim (λ h=>GE) (λ h=>by have:=(N.lt q h).1;omega));refine nl<|bK<|a7<|rg<|κ (aq Z (S.all oc ky))<|cf abi Z (atM (b9.diff r (2 ^ (b9.iO r o).toNat)) (b9.I4 _ _) _ _ (b9.sz o (b9.iO r o).toNat) _ _ T.bv (by first|omega|(rw[bak])|(rw[b9.Wi _ _ O];omega))) λ aD Y=>?_;have FI:=Φ tT Y;refine va Z<|nl<|?_;have d:=(d.H oi (λ I=>GJ _ I rfl)).O Y;have S:=S.O Y;have T:=T.O Y;exact oR _ _ ⟨b9.diff r (2 ^ (b9.iO r o).toNat),b9.sz o (b9.iO r o).toNat,Z,Z,FI,d,S,T,b9.I4 _ _,b9.Wi _ _ O,(by obtain⟨f,MD,G4⟩:=fD;exact aQZ O MD G4 GE),aa,ae⟩ (atI O GE) (c' Z Z Z)
      .have al:¬0<=b9.iO r o:=GE
       refine cI<|cH<|cU<|cG<|a7<|av<|?_;refine c_ [(0,0),(1,0),(3,0),(5,3)] [0,1,2,3,4,5,6,7] ?_;refine dE Z (λ _ x=>aq Z ((gj.O x).all oc ky))<|dE Z (λ _ x=>aq Z ((gj.O x).all oc ky))<|bt Z Z<|nQ Z Z abj Z (λ _ x=>af9 r Qy s ((l).length) ab g _) Z<|aA Z (λ _=>dj Z)<|en Z Z Z λ Sd ja Q hK=>ck Z Z (d.O ja) Z ky Z Z λ N0 pG d=>hK _ _ ?_;have BF:=Φ pS ja;have wX:=Ext.H BF pG bn;refine aA Z (λ _=>fh Z)<|aA Z (λ _=>fh Z)<|fn λ KL nx=>?_;have oC:=Φ wX nx;refine a7<|rt<|?_;have d:=d.O nx;refine cJ (.cell Z (d.all oc ky) (.tmp Z (.tmp Z .nil)))<|?_;have N:=((N.O ja).H pG (bM aa)).O nx;exact⟨0,r,_,_,o,_,by rw[show o.length=l.length from by omega];rfl,.inl ⟨rfl,⟨ag,QJ,VR,am,xB⟩,(by obtain⟨f,_,G4⟩:=fD;unfold D5;rw[<-G4,aQY al])⟩,N.dq GE,oC⟩
end
section
def awJ:dU prog nw 29 76 24:=dU.O (z:=.slice none 0 0) (k:=1) underlying29 ad2 rfl rfl GP (λ j u h=>afl j u h)
def awK:dU prog bU.ce 33 78 40:=dU.O (z:=bU.zero) (k:=3) underlying33 bU.G rfl rfl GP bU.M
open fg
structure mz where
 a:ag.cS
 A:Option Addr
 c:Nat
 T:List gV
 B:Option Addr
 d:Nat
 U:List bU
 C:Option Addr
 e:Nat
structure dg where
 W:ag
 L:List (List aS)
 S:List cq
 eR:Nat
 V:List Nat
 j6:Int
def dg.cells(h:mz)(x:dg):List Value:=[J x.W.am.O,J x.W.am.high,.slice h.a.P x.W.am.G.length h.a.p,.slice h.a.B x.W.aT.length h.a.b,.slice h.a.S x.W.bl.length h.a.s,.slice h.a.M x.W.bE.length h.a.m,.slice h.a.T x.W.ah.length h.a.t,J x.W.next,J x.W.db,.slice h.A h.T.length h.c,.slice h.B h.U.length h.d,.int .u32 (x.eR:Int),.slice h.C x.V.length h.e,J x.j6]
structure dg.fd(w:World)(h:mz)(x:dg):Prop where
 W:ag.fd w h.a x.W
 T:nw.aF 24 w h.A h.c h.T
 L:lU w h.T x.L
 U:bU.ce.aF 40 w h.B h.d h.U
 S:n9 w h.U x.S
 V:dY.ce.aF 4 w h.C h.e x.V
 m:x.eR<4294967296
structure iG(w:World)(aQ:Nat)(h:mz)(x:dg):Prop where
 W:bF w aQ h.a x.W
 T:nw.aM 76 24 w aQ (τ.ai h.A) h.A h.c h.T
 L:kd w aQ h.T x.L
 U:bU.ce.aM 78 40 w aQ (τ.ai h.B) h.B h.d h.U
 S:jG w aQ h.U x.S
 V:dY.ce.aM 34 4 w aQ (τ.ai h.C) h.C h.e x.V
 m:x.eR<4294967296
def iG.G(h:mz):List Nat:=bF.G h.a++τ.ai h.A++lK h.T++τ.ai h.B++hM h.U++τ.ai h.C
section
variable{w w':World}{aQ vK:Nat}{h:mz}{x:dg}
def dg.fd.be(k:dg.fd w h x)(b:Ext w w'):dg.fd w' h x:=⟨k.W.be b,k.T.be b,k.L.be b,k.U.be b,k.S.be b,k.V.be b,k.m⟩
def iG.bv(k:iG w aQ h x):dg.fd w h x:=⟨k.W.bv,k.T.bv,k.L.atg,k.U.bv,k.S.Y,k.V.bv,k.m⟩
def iG.O(k:iG w aQ h x)(b:Ext w w'):iG w' aQ h x:=⟨k.W.O b,k.T.O b,k.L.O b,k.U.O b,k.S.O b,k.V.O b,k.m⟩
def iG.dq(k:iG w aQ h x)(b:vK<=aQ):iG w vK h x:=⟨k.W.dq b,k.T.dq b,k.L.dq b,k.U.dq b,k.S.dq b,k.V.dq b,k.m⟩
def iG.H{B:List Nat}(k:iG w aQ h x)(m:Mod B w w')(a:∀ q∈iG.G h,q∉B):iG w' aQ h x :=
 ⟨k.W.H m λ q I=>a q (by unfold iG.G;simp[I]),k.T.H m λ q I=>a q (by unfold iG.G;simp[I]),k.L.H m λ q I=>a q (by unfold iG.G;simp[I]),k.U.H m λ q I=>a q (by unfold iG.G;simp[I]),k.S.H m λ q I=>a q (by unfold iG.G;simp[I]),k.V.H m λ q I=>a q (by unfold iG.G;simp[I]),k.m⟩
def iG.lt(k:iG w aQ h x):∀ q∈iG.G h,aQ<=q/\q<w.heap.size:=λ q I=>by
 unfold iG.G at I;simp only[bas]at I;rcases I with((((I|I)|I)|I)|I)|I
 .exact k.W.lt q I
 .exact k.T.lt q I
 .exact k.L.lt q I
 .exact k.U.lt q I
 .exact k.S.lt q I
 .exact k.V.lt q I
end
def t_(x:dg):Prop:=qF x.W x.L/\vH x.S/\IM x.eR x.V/\(1<=x.j6/\x.j6<=100)/\x.S.length=x.W.aT.length/\x.eR / 2 ^ x.S.length=0/\∀(i:Nat) (s:cq),x.S[i]? =some s->s.da= !x.eR.testBit i
def anA(n:Int)(w:World):
  Calls prog 33 #[J n] w (λ e w'=>e=.returned (.bool (decide (1<=n) && decide (n<=100)))/\Ext w w'):=by
 refine bT (n:=9) func33 Z Z Z ?_;refine ar<|aG Z<|aC Z<|κ (iV Z Z)<|vm Z<|er Z Z<|aR Z (λ a=>ble (gt a Z) Z)<|κ (cQ Z Z Z Z)<|bc Z<|b3 Z Z<|?_;exact⟨Z,(Ext.U w)⟩
theorem aHQ(i:mz)(d:dg)(w:World)(o:dg.fd w i d):
  Calls prog 9 #[.agg ((dg.cells i d).toArray)] w (λ e w'=>∃ dt:mz,e=.returned (.agg (dg.cells dt d).toArray)/\iG w' w.heap.size dt d/\Ext w w'):=by
 have Hc:=o.T.M;have VE:=o.T.2.2.1;have cx:=o.U.M;have cw:=o.U.2.2.1;refine bT (n:=105) func9 Z Z Z ?_;refine cZ Z Z λ ch a6 aV cY b=>?_;have gp:=b.lt;refine cy L5 Z λ dr b_ bh fl m=>?_;have bo:=Φ aV bh;have j8:=m.lt;refine ax<|ar<|κ (aj xw Z)<|κ (aj Ee Z)<|aG Z<|av<|?_;refine c_ [(7,0),(8,2),(12,0),(13,2),(17,0),(18,2),(22,3),(25,3),(28,3)] [0,1,2,3,4,5,6,7,9,10,11,12,14,15,16,17,8,13,18,19,20,21,22,23,24,25,26,27,28] ?_;refine bt Z Z<|bt Z Z<|bt Z Z<|bt Z Z<|aA Z (λ _=>cB Z)<|aA Z (λ _=>aj lA Z)<|aA Z (λ _=>aj qK Z)<|?_;have b:=b.O bh;refine cr Z Z b et Z<|bt Z Z<|aA Z (λ _=>cB Z)<|aA Z (λ _=>aj lY Z)<|cr Z Z b lZ Z<|bt Z Z<|aA Z (λ _=>cB Z)<|aA Z (λ _=>aj oJ Z)<|cr Z Z b et Z<|fO Z Z Z λ fx dy Q y=>ca Au Z Z ((vN _ _ d.W.am.G _ (o.W.P.be (Φ bo dy))).mono ?_);rintro e wL ⟨Di,Pb,rfl,r,cp,f_⟩;refine⟨_,Z,y _ _ ⟨Φ dy f_,?_⟩⟩;have:=dy.size;have cj:=Φ bo dy;have:=f_.size;have jW:=Φ cj f_;have Bg:=b4 r.lt;have M4:=dZ r.lt;refine fO Z Z Z λ wM h' Q y=>ca abC Z Z ((Ue _ _ d.W.aT _ (o.W.B.be (Φ jW h'))).mono ?_);rintro e rI ⟨Dj,Pc,rfl,p,cq,eB⟩;refine⟨_,Z,y _ _ ⟨Φ h' eB,?_⟩⟩;have:=h'.size;have l8:=Φ jW h';have:=eB.size;have ic:=Φ l8 eB;have pL:=b4 p.lt;have wk:=dZ p.lt;refine fO Z Z Z λ H2 ks Q y=>ca Au Z Z ((vN _ _ d.W.bl _ (o.W.S.be (Φ ic ks))).mono ?_);rintro e xY ⟨Dk,Pd,rfl,s,ct,gI⟩;refine⟨_,Z,y _ _ ⟨Φ ks gI,?_⟩⟩;have:=ks.size;have vu:=Φ ic ks;have:=gI.size;have n5:=Φ vu gI;have oV:=b4 s.lt;have y6:=dZ s.lt;refine aA Z (λ _=>cB Z)<|aA Z (λ _=>aj lA Z)<|aA Z (λ _=>aj qK Z)<|?_;have b:=b.O (Φ dy (Φ f_ (Φ h' (Φ eB (Φ ks gI)))));refine en Z Z Z λ H4 FC Q y=>ep Z Z (b.O FC) Z td Z Z λ KG mI b=>y _ _ ?_;have:=FC.size;have qw:=Φ n5 FC;have:=mI.size;have o3:=Ext.H qw mI bn;refine aA Z (λ _=>cB Z)<|aA Z (λ _=>aj lY Z)<|en Z Z Z λ NN gu Q y=>ep Z Z (b.O gu) Z UH Z Z λ H6 j5 b=>y _ _ ?_;have:=gu.size;have yg:=Φ o3 gu;have:=j5.size;have sR:=Ext.H yg j5 bn;refine aA Z (λ _=>cB Z)<|aA Z (λ _=>aj oJ Z)<|en Z Z Z λ X7 ia Q y=>ep Z Z (b.O ia) Z td Z Z λ R7 km b=>y _ _ ?_;have:=ia.size;have FF:=Φ sR ia;have:=km.size;have Bz:=Ext.H FF km bn;refine fn λ C9 hb=>?_;have:=hb.size;have mU:=Φ Bz hb;refine a7<|av<|?_;refine c_ [(5,0),(6,2),(10,0),(11,2),(14,3),(17,3)] [0,1,2,3,4,5,7,8,9,10,6,11,12,13,14,15,16,17] ?_;refine bt Z Z<|bt Z Z<|bt Z Z<|aA Z (λ _=>cB Z)<|aA Z (λ _=>aj rZ Z)<|?_;have b:=b.O hb;refine cr Z Z b et Z<|bt Z Z<|aA Z (λ _=>cB Z)<|aA Z (λ _=>aj fC Z)<|cr Z Z b gR Z<|fO Z Z Z λ NS n1 Q y=>ca Au Z Z ((vN _ _ d.W.bE _ (o.W.M.be (Φ mU n1))).mono ?_);rintro e R8 ⟨Dl,Pe,rfl,t,cu,kL⟩;refine⟨_,Z,y _ _ ⟨Φ n1 kL,?_⟩⟩;have:=n1.size;have FG:=Φ mU n1;have:=kL.size;have yk:=Φ FG kL;have Bi:=b4 t.lt;have Hv:=dZ t.lt;refine fO Z Z Z λ Fq oY Q y=>ca Pv Z Z ((LQ _ _ d.W.ah _ (o.W.T.be (Φ yk oY))).mono ?_);rintro e C_ ⟨Dm,Pf,rfl,x,cv,kM⟩;refine⟨_,Z,y _ _ ⟨Φ oY kM,?_⟩⟩;have:=oY.size;have yl:=Φ yk oY;have:=kM.size;have pT:=Φ yl kM;have KB:=b4 x.lt;have AU:=dZ x.lt;refine aA Z (λ _=>cB Z)<|aA Z (λ _=>aj rZ Z)<|?_;have b:=b.O (Φ n1 (Φ kL (Φ oY kM)));refine en Z Z Z λ Sa mo Q y=>ep Z Z (b.O mo) Z td Z Z λ NY oj b=>y _ _ ?_;have:=mo.size;have BC:=Φ pT mo;have:=oj.size;have tT:=Ext.H BC oj bn;refine aA Z (λ _=>cB Z)<|aA Z (λ _=>aj fC Z)<|en Z Z Z λ X' By Q y=>ep Z Z (b.O By) Z Eb Z Z λ Se WJ b=>y _ _ ?_;have:=By.size;have FJ:=Φ tT By;have:=WJ.size;have BG:=Ext.H FJ WJ bn;refine fn λ cP n2=>?_;have:=n2.size;have K8:=Φ BG n2;refine a7<|ar<|κ (aj xw Z)<|κ (aj uo Z)<|?_;have b:=b.O n2;refine a1 Z b yM Z<|κ (bY underlying29 Z)<|Ws (R:=nw) (by_:=24) (B:=w.heap.size) (c:=i.T.length) (zv:=(.slice none 0 0)) τ.nc underlying29 ad2 Z GP (λ j u h=>afl j u h) Z Z Z GE GE GE λ KE Z_ Sk cC bC=>?_;have:=Sk.size;have KZ:=Φ K8 Sk;have JS:∀ q∈τ.ai (bd Z_),Z_<=q:=λ q I=>bbz (bah.1 I).symm;refine aG Z<|av<|ar<|κ (aj xw Z)<|κ (aj uo Z)<|?_;have b:=b.O Sk;refine a1 Z b yM Z<|κ (bY underlying29 Z)<|vm Z<|ax<|bp<|?_;have eF:=sK (((((mI).trans (oN gu j5)).trans (oN ia km)).trans (oN (Φ hb (Φ n1 (Φ kL (Φ oY (Φ kM mo))))) oj)).trans (oN By WJ)) (Φ n2 Sk);have m:=(m.O (Φ dy (Φ f_ (Φ h' (Φ eB (Φ ks (Φ gI FC))))))).H eF aJ;have r:=(r.O (Φ h' (Φ eB (Φ ks (Φ gI FC))))).H eF (bx M4);have p:=(p.O (Φ ks (Φ gI FC))).H eF (bx wk);have s:=(s.O FC).H eF (bx y6);have jP:=sK ((oj).trans (oN By WJ)) (Φ n2 Sk);have t:=(t.O (Φ oY (Φ kM mo))).H jP (bx Hv);have x:=(x.O mo).H jP (bx AU);refine di (λ bJ bH l=>∃ k:Nat,∃ E:List gV,∃ z:Option Addr,∃ jH:Nat,bH=[(1,.pointer (bd a6)),(2,.pointer (bd b_)),(4,.slice z E.length jH),(61,.slice i.A i.T.length i.c),(62,J (i.T.length:Int)),(63,J (k:Int))]/\bJ=i.T.length-k/\Ext w l/\aO l a6 [J d.W.am.O,J d.W.am.high,.slice Di ((d.W.am.G).length) Pb,.slice Dj ((d.W.aT).length) Pc,.slice Dk ((d.W.bl).length) Pd,.slice Dl ((d.W.bE).length) Pe,.slice Dm ((d.W.ah).length) Pf,J d.W.next,J d.W.db,.slice i.A i.T.length i.c,.slice i.B i.U.length i.d,.int .u32 (d.eR:Int),.slice i.C d.V.length i.e,J d.j6] 39 (0,0)/\aO l b_ [J 0,J 0,.slice none 0 0,.slice none 0 0,.slice none 0 0,.slice none 0 0,.slice none 0 0,J 0,J 0,.slice none 0 0,.slice none 0 0,.int .u32 0,.slice none 0 0,J 0] 39 (0,0)/\bN.aM 3 8 l fx.heap.size (τ.ai Di) Di Pb (d.W.am.G)/\aw.ce.aM 41 16 l wM.heap.size (τ.ai Dj) Dj Pc (d.W.aT)/\bN.aM 3 8 l H2.heap.size (τ.ai Dk) Dk Pd (d.W.bl)/\bN.aM 3 8 l NS.heap.size (τ.ai Dl) Dl Pe (d.W.bE)/\bb.ce.aM 68 56 l Fq.heap.size (τ.ai Dm) Dm Pf (d.W.ah)/\nw.aM 76 24 l w.heap.size (τ.ai z) z jH E/\kd l KE.heap.size E (d.L.take k)/\(k<=i.T.length)/\(E.length=k)/\(KE.heap.size<=l.heap.size)/\(∀ q∈lK E,q∈τ.ai z->False)/\(∀ q∈τ.ai z,q=a6->False)/\(∀ q∈τ.ai z,q=b_->False)/\(∀ q∈τ.ai z,q∈τ.ai Di->False)/\(∀ q∈τ.ai z,q∈τ.ai Dj->False)/\(∀ q∈τ.ai z,q∈τ.ai Dk->False)/\(∀ q∈τ.ai z,q∈τ.ai Dl->False)/\(∀ q∈τ.ai z,q∈τ.ai Dm->False)) _ _ ⟨0,[],some ⟨Z_,0,none⟩,i.T.length,Z,Z,KZ,b,m,r,p,s,t,x,bC,(kd.nil _ _),GE,rfl,bao _,λ q g f=>by simp[hM,lK]at g,(λ q I a=>by (have:=JS q I;omega)),(λ q I a=>by (have:=JS q I;omega)),(λ q I a=>by (have:=JS q I;(have:=Bg q a;omega))),(λ q I a=>by (have:=JS q I;(have:=pL q a;omega))),(λ q I a=>by (have:=JS q I;(have:=oV q a;omega))),(λ q I a=>by (have:=JS q I;(have:=Bi q a;omega))),(λ q I a=>by (have:=JS q I;(have:=KB q a;omega)))⟩ (c' Z Z Z) ?_;rintro J2 cd bv ⟨k,E,z,jH,rfl,rfl,Ih,b,m,r,p,s,t,x,A,C,au,P4,cQ,Ag,Pl,aa,az,aB,IY,GF,IZ⟩;have:=Ih.size;have bP:=b.lt;have bQ:=m.lt;have Fg:=b4 r.lt;have HT:=b4 p.lt;have C3:=b4 s.lt;have Fh:=b4 t.lt;have HU:=b4 x.lt;have xT:=b4 A.lt;have UY:∀ q∈τ.ai z,w.heap.size<=q:=λ q I=>(A.lt q I).1;have qZ:∀ q∈lK E,q<bv.heap.size:=λ q I=>(C.lt q I).2;have AS:∀ q∈lK E,KE.heap.size<=q:=λ q I=>(C.lt q I).1;refine ar<|cF Z Z<|ax<|av<|?_;refine c7 Z (λ a3=>?_) (λ a3=>?_)
 .obtain⟨fQ,dC,jK,gD,vZ,hx⟩:=o.L.d9 (k:=k) GE;refine bf<|av<|bp<|ar<|κ (bD k underlying29 Ao Z Z ((o.T.be Ih).Y (aL k)) Z GE)<|κ (v:=.slice fQ jK.length dC) (aq Z (τ.aF.H Mx ((o.T.be Ih).O (aL k)) gD Z nb))<|aG Z<|rg<|vm Z<|vm Z<|ca Py Z Z ((Pj _ _ jK _ (hx.be Ih)).mono ?_);rintro e cc ⟨Yx,ae,rfl,OG,cm,V⟩;refine cR ?_;have:=V.size;have bs:=Φ Ih V;have a8:=b4 OG.lt;have aX:=dZ OG.lt;refine cT (e:=76) (cs:=[.slice Yx ((jK).length) ae]) Z (λ _=>GT) Z λ cN cf Y cD ai=>?_;have vt:=Φ bs Y;have bR:=ai.lt;have A:=A.O (Φ V Y);refine ap awJ τ.O A (aO.G (R:=nw) (by_:=24) (q:=(⟨Yx,(jK).length,ae⟩:gV)) ai ⟨Z,trivial⟩ GP) Z Z (by simp only[baj,baq];omega) (by simp only[baj,baq];omega) GE Z λ cO bw bE sD OU Em bI=>?_;have:=sD.size;have K2:=Ext.H vt sD (λ q I=>bay GE (A.lt q I).1);refine va Z<|nl<|bK<|cW Z Z Z<|?_;have b:=(b.O (Φ V Y)).H sD (λ I=>Pl _ I rfl);have m:=(m.O (Φ V Y)).H sD (λ I=>aa _ I rfl);have r:=(r.O (Φ V Y)).H sD (fa az);have p:=(p.O (Φ V Y)).H sD (fa aB);have s:=(s.O (Φ V Y)).H sD (fa IY);have t:=(t.O (Φ V Y)).H sD (fa GF);have x:=(x.O (Φ V Y)).H sD (fa IZ);have C:=(C.O (Φ V Y)).H sD Ag;have OG:=(OG.O Y).H sD (λ q I h=>by exfalso;(have:=aX q I;(have:=xT q h;omega)));exact cM ⟨k+1,E++ [(⟨Yx,(jK).length,ae⟩:gV)],bw,bE,Z,Z,K2,b,m,r,p,s,t,x,OU,(by rw[C2 vZ];exact C.snoc (OG.dq GE)),GE,by rw[bam,P4];rfl,GE,λ q g f=>(RS g).elim (λ g=>by exfalso;(exact baC (Em q f) (λ aF=>by (exact Ag q g aF)) (λ aF=>by (have:=qZ q g;omega)))) (λ g=>by exfalso;(exact baC (Em q f) (λ aH=>by (have:=aX q g;(have:=xT q aH;omega))) (λ aH=>by (have:=a8 q g;omega)))),(eh Em Pl),(eh Em aa),(λ q I a=>by (exact baC (Em q I) (λ Hr=>by (exact az q Hr a)) (λ Hr=>by (have:=Fg q a;have:=Bg q a;omega)))),(λ q I a=>by (exact baC (Em q I) (λ aI=>by (exact aB q aI a)) (λ aI=>by (have:=HT q a;have:=pL q a;omega)))),(λ q I a=>by (exact baC (Em q I) (λ aK=>by (exact IY q aK a)) (λ aK=>by (have:=C3 q a;have:=oV q a;omega)))),(λ q I a=>by (exact baC (Em q I) (λ aM=>by (exact GF q aM a)) (λ aM=>by (have:=Fh q a;have:=Bi q a;omega)))),(λ q I a=>by (exact baC (Em q I) (λ aN=>by (exact IZ q aN a)) (λ aN=>by (have:=HU q a;have:=KB q a;omega))))⟩
 .have nP:k=d.L.length:=by rw[<-o.L.1];omega
  subst nP;rw[ba7]at C;refine cI<|cH<|cU<|cG<|a7<|ar<|κ (aj nN Z)<|a1 Z b p4 Z<|κ (bY underlying33 Z)<|Ws (R:=bU.ce) (by_:=40) (B:=w.heap.size) (c:=i.U.length) (zv:=bU.zero) τ.nc underlying33 bU.G Z GP bU.M Z Z Z GE GE GE λ X4 ad W cz bA=>?_;have:=W.size;have bu:=Φ Ih W;have ET:∀ q∈τ.ai (bd ad),ad<=q:=λ q I=>bbz (bah.1 I).symm;refine aG Z<|av<|ar<|κ (aj nN Z)<|?_;have b:=b.O W;refine a1 Z b p4 Z<|κ (bY underlying33 Z)<|vm Z<|ax<|bp<|?_;have m:=m.O W;have r:=r.O W;have p:=p.O W;have s:=s.O W;have t:=t.O W;have x:=x.O W;have A:=A.O W;have C:=C.O W;refine di (λ bJ bH l=>∃ k:Nat,∃ B9:List bU,∃ D:Option Addr,∃ Cd:Nat,bH=[(1,.pointer (bd a6)),(2,.pointer (bd b_)),(4,.slice z E.length jH),(7,.slice D B9.length Cd),(78,.slice i.B i.U.length i.d),(79,J (i.U.length:Int)),(80,J (k:Int))]/\bJ=i.U.length-k/\Ext w l/\aO l a6 [J d.W.am.O,J d.W.am.high,.slice Di ((d.W.am.G).length) Pb,.slice Dj ((d.W.aT).length) Pc,.slice Dk ((d.W.bl).length) Pd,.slice Dl ((d.W.bE).length) Pe,.slice Dm ((d.W.ah).length) Pf,J d.W.next,J d.W.db,.slice i.A i.T.length i.c,.slice i.B i.U.length i.d,.int .u32 (d.eR:Int),.slice i.C d.V.length i.e,J d.j6] 39 (0,0)/\aO l b_ [J 0,J 0,.slice none 0 0,.slice none 0 0,.slice none 0 0,.slice none 0 0,.slice none 0 0,J 0,J 0,.slice none 0 0,.slice none 0 0,.int .u32 0,.slice none 0 0,J 0] 39 (0,0)/\bN.aM 3 8 l fx.heap.size (τ.ai Di) Di Pb (d.W.am.G)/\aw.ce.aM 41 16 l wM.heap.size (τ.ai Dj) Dj Pc (d.W.aT)/\bN.aM 3 8 l H2.heap.size (τ.ai Dk) Dk Pd (d.W.bl)/\bN.aM 3 8 l NS.heap.size (τ.ai Dl) Dl Pe (d.W.bE)/\bb.ce.aM 68 56 l Fq.heap.size (τ.ai Dm) Dm Pf (d.W.ah)/\nw.aM 76 24 l w.heap.size (τ.ai z) z jH E/\kd l KE.heap.size E d.L/\bU.ce.aM 78 40 l w.heap.size (τ.ai D) D Cd B9/\gb l X4.heap.size B9 (d.S.take k)/\(k<=i.U.length)/\(B9.length=k)/\(X4.heap.size<=l.heap.size)/\(∀ q∈hM B9,q∈τ.ai D->False)/\(∀ q∈τ.ai D,q=a6->False)/\(∀ q∈τ.ai D,q=b_->False)/\(∀ q∈τ.ai D,q∈lK E->False)/\(∀ q∈τ.ai D,q∈τ.ai Di->False)/\(∀ q∈τ.ai D,q∈τ.ai Dj->False)/\(∀ q∈τ.ai D,q∈τ.ai Dk->False)/\(∀ q∈τ.ai D,q∈τ.ai Dl->False)/\(∀ q∈τ.ai D,q∈τ.ai Dm->False)/\(∀ q∈τ.ai D,q∈τ.ai z->False)) _ _ ⟨0,[],some ⟨ad,0,none⟩,i.U.length,Z,Z,bu,b,m,r,p,s,t,x,A,C,bA,(gb.nil _ _),GE,rfl,bao _,λ q g f=>by simp[hM,lK]at g,(λ q I a=>by (have:=ET q I;omega)),(λ q I a=>by (have:=ET q I;omega)),(λ q I a=>by (have:=ET q I;(have:=qZ q a;omega))),(λ q I a=>by (have:=ET q I;(have:=Fg q a;have:=Bg q a;omega))),(λ q I a=>by (have:=ET q I;(have:=HT q a;have:=pL q a;omega))),(λ q I a=>by (have:=ET q I;(have:=C3 q a;have:=oV q a;omega))),(λ q I a=>by (have:=ET q I;(have:=Fh q a;have:=Bi q a;omega))),(λ q I a=>by (have:=ET q I;(have:=HU q a;have:=KB q a;omega))),(λ q I a=>by (have:=ET q I;(have:=xT q a;omega)))⟩ (c' Z Z Z) ?_;rintro cK ce ba ⟨k,B9,D,Cd,rfl,rfl,Yt,b,m,r,p,s,t,x,A,C,sY,DM,au,a2,cE,ay,Pm,ab,aD,aE,al,Uk,am,an,ao⟩;have b9:=b.lt;have cb:=m.lt;have vd:=b4 r.lt;have xU:=b4 p.lt;have Fi:=b4 s.lt;have XP:=b4 t.lt;have ag:=b4 x.lt;have ah:=b4 A.lt;have XQ:=b4 sY.lt;have cl:∀ q∈τ.ai D,w.heap.size<=q:=λ q I=>(sY.lt q I).1;have XN:∀ q∈hM B9,q<ba.heap.size:=λ q I=>(DM.lt q I).2;have Wc:∀ q∈hM B9,X4.heap.size<=q:=λ q I=>(DM.lt q I).1;refine ar<|cF Z Z<|ax<|av<|?_;refine c7 Z (λ a4=>?_) (λ a4=>?_)
  .obtain⟨fQ,dC,X,gD,a5,hx⟩:=o.S.d9 (k:=k) GE;refine bf<|av<|bp<|ar<|κ (bD k underlying33 ih Z Z ((o.U.be Yt).Y (aL k)) Z GE)<|κ (aq Z (τ.aF.G mG ((o.U.be Yt).O (aL k)) gD vT ih))<|cy GN Z λ bZ cg S cA Dq=>?_;have bc:=Φ Yt S;have bS:=Dq.lt;refine ck Z Z Dq Z ih Z Z λ b0 K Dq=>?_;have:=K.size;have a0:=Ext.H bc K bn;refine ax<|ar<|κ (aj p3 Z)<|a1 Z Dq nb Z<|ca Py Z Z ((Pj _ _ X.O _ (hx.be a0)).mono ?_);rintro e b1 ⟨YA,af,rfl,OJ,cn,F⟩;refine cR ?_;have:=F.size;have be:=Φ a0 F;have a9:=b4 OJ.lt;have Wr:=dZ OJ.lt;refine κ (aj p3 Z)<|?_;have Dq:=Dq.O F;refine ep Z Z Dq Z Ao Z Z λ b2 G Dq=>?_;have:=G.size;have bg:=Ext.H be G bn;refine ax<|rg<|vm Z<|κ (aq Z (Dq.all vT ih))<|cT (e:=78) (cs:=[.slice YA ((X.O).length) af,J X.Y,.bool X.da]) Z (λ _=>GT) Z λ b3 ci H cL ak=>?_;have bi:=Φ bg H;have bO:=ak.lt;have sY:=((((sY.O S).H K (bV XQ)).O F).H G (bV XQ)).O H;refine ap awK τ.O sY (aO.G (R:=bU.ce) (by_:=40) (q:=(⟨YA,(X.O).length,af,X.Y,X.da⟩:bU)) ak ⟨Z,(show gg X.Y from bU.C o.U _ (baQ gD))⟩ GP) Z Z (by simp only[baj,baq];omega) (by simp only[baj,baq];omega) GE Z λ b5 YI br L bB U bL=>?_;have:=L.size;have bj:=Ext.H bi L (λ q I=>bay GE (sY.lt q I).1);refine va Z<|nl<|bK<|cW Z Z Z<|?_;have b:=(((((b.O S).H K aJ).O F).H G aJ).O H).H L (λ I=>Pm _ I rfl);have m:=(((((m.O S).H K aJ).O F).H G aJ).O H).H L (λ I=>ab _ I rfl);have r:=(((((r.O S).H K (bM λ q I a=>by have:=vd q I;have:=Bg q I;have:=Fg q I;omega)).O F).H G (bM λ q I a=>by have:=vd q I;have:=Bg q I;have:=Fg q I;omega)).O H).H L (fa aE);have p:=(((((p.O S).H K (bM λ q I a=>by have:=xU q I;have:=pL q I;have:=HT q I;omega)).O F).H G (bM λ q I a=>by have:=xU q I;have:=pL q I;have:=HT q I;omega)).O H).H L (fa al);have s:=(((((s.O S).H K (bM λ q I a=>by have:=Fi q I;have:=oV q I;have:=C3 q I;omega)).O F).H G (bM λ q I a=>by have:=Fi q I;have:=oV q I;have:=C3 q I;omega)).O H).H L (fa Uk);have t:=(((((t.O S).H K (bM λ q I a=>by have:=XP q I;have:=Bi q I;have:=Fh q I;omega)).O F).H G (bM λ q I a=>by have:=XP q I;have:=Bi q I;have:=Fh q I;omega)).O H).H L (fa am);have x:=(((((x.O S).H K (bM λ q I a=>by have:=ag q I;have:=KB q I;have:=HU q I;omega)).O F).H G (bM λ q I a=>by have:=ag q I;have:=KB q I;have:=HU q I;omega)).O H).H L (fa an);have A:=(((((A.O S).H K (bM λ q I a=>by have:=ah q I;have:=xT q I;omega)).O F).H G (bM λ q I a=>by have:=ah q I;have:=xT q I;omega)).O H).H L (fa ao);have C:=(((((C.O S).H K (bV qZ)).O F).H G (bV qZ)).O H).H L (fa aD);have DM:=(((((DM.O S).H K (bV XN)).O F).H G (bV XN)).O H).H L ay;have OJ:=((OJ.H G (bx Wr)).O H).H L (λ q I h=>by exfalso;(have:=Wr q I;(have:=XQ q h;omega)));exact cM ⟨k+1,B9++ [(⟨YA,(X.O).length,af,X.Y,X.da⟩:bU)],YI,br,Z,Z,bj,b,m,r,p,s,t,x,A,C,bB,(by rw[C2 a5];exact DM.snoc (OJ.dq GE) (λ q g f=>by exfalso;(have:=Wr q f;(have:=XN q g;omega)))),GE,by rw[bam,a2];rfl,GE,λ q g f=>(ass g).elim (λ g=>by exfalso;(exact baC (U q f) (λ Q4=>by (exact ay q g Q4)) (λ Q4=>by (have:=XN q g;omega)))) (λ g=>by exfalso;(exact baC (U q f) (λ Q5=>by (have:=Wr q g;(have:=XQ q Q5;omega))) (λ Q5=>by (have:=a9 q g;omega)))),(eh U Pm),(eh U ab),(oq U aD qZ),(λ q I a=>by (exact baC (U q I) (λ aP=>by (exact aE q aP a)) (λ aP=>by (have:=vd q a;have:=Bg q a;have:=Fg q a;omega)))),(λ q I a=>by (exact baC (U q I) (λ aR=>by (exact al q aR a)) (λ aR=>by (have:=xU q a;have:=pL q a;have:=HT q a;omega)))),(λ q I a=>by (exact baC (U q I) (λ aS=>by (exact Uk q aS a)) (λ aS=>by (have:=Fi q a;have:=oV q a;have:=C3 q a;omega)))),(λ q I a=>by (exact baC (U q I) (λ aT=>by (exact am q aT a)) (λ aT=>by (have:=XP q a;have:=Bi q a;have:=Fh q a;omega)))),(λ q I a=>by (exact baC (U q I) (λ aU=>by (exact an q aU a)) (λ aU=>by (have:=ag q a;have:=KB q a;have:=HU q a;omega)))),(λ q I a=>by (exact baC (U q I) (λ aW=>by (exact ao q aW a)) (λ aW=>by (have:=ah q a;have:=xT q a;omega))))⟩
  .have nP:k=d.S.length:=by rw[<-o.S.len];omega
   subst nP;rw[ba7]at DM;refine cI<|cH<|cU<|cG<|a7<|aC Z<|vm Z<|κ (aj xw Z)<|κ (aj uo Z)<|ep Z Z b Z abg Z Z λ b6 M b=>?_;have:=M.size;have bk:=Ext.H Yt M bn;refine κ (aj nN Z)<|ep Z Z b Z Uy Z Z λ b7 N b=>?_;have:=N.size;have aZ:=Ext.H bk N bn;refine ax<|ar<|κ (aj s9 Z)<|κ (aj vV Z)<|a1 Z b yN Z<|ca akI Z Z ((aji _ _ d.V _ (o.V.be aZ)).mono ?_);rintro e b8 ⟨bz,bG,rfl,Tf,co,P⟩;refine cR ?_;have bl:=Φ aZ P;have aY:=dZ Tf.lt;refine κ (aj s9 Z)<|κ (aj vV Z)<|?_;have b:=b.O P;refine ep Z Z b Z akJ Z Z λ bW O b=>?_;have bm:=Ext.H bl O bn;refine ax<|ar<|κ (aq Z (b.all kQ gC))<|?_;have m:=(((m.H M aJ).H N aJ).O P).H O aJ;refine ck Z Z m Z gC Z Z λ bX T m=>?_;have bq:=Ext.H bm T bn;refine tC<|cJ (.cell Z (m.all kQ gC) .nil)<|?_;have A:=((((A.H M (bM Pl)).H N (bM Pl)).O P).H O (bM Pl)).H T (bM aa);have sY:=((((sY.H M (bM Pm)).H N (bM Pm)).O P).H O (bM Pm)).H T (bM ab);have Tf:=(Tf.H O (bx aY)).H T (bx aY);have C:=((((C.H M (bM λ q I a=>by have:=AS q I;omega)).H N (bM λ q I a=>by have:=AS q I;omega)).O P).H O (bM λ q I a=>by have:=AS q I;omega)).H T (bM λ q I a=>by have:=AS q I;omega);have DM:=((((DM.H M (bM λ q I a=>by have:=Wc q I;omega)).H N (bM λ q I a=>by have:=Wc q I;omega)).O P).H O (bM λ q I a=>by have:=Wc q I;omega)).H T (bM λ q I a=>by have:=Wc q I;omega);have r:=((((r.H M (bx M4)).H N (bx M4)).O P).H O (bx M4)).H T (bx M4);have p:=((((p.H M (bx wk)).H N (bx wk)).O P).H O (bx wk)).H T (bx wk);have s:=((((s.H M (bx y6)).H N (bx y6)).O P).H O (bx y6)).H T (bx y6);have t:=((((t.H M (bx Hv)).H N (bx Hv)).O P).H O (bx Hv)).H T (bx Hv);have x:=((((x.H M (bx AU)).H N (bx AU)).O P).H O (bx AU)).H T (bx AU);have hR:=bF.aeR (aQ:=w.heap.size) (r.dq GE) (p.dq GE) (s.dq GE) (t.dq GE) (x.dq GE) (λ q g f=>by exfalso;(have:=wk q g;(have:=vd q f;have:=Bg q f;have:=Fg q f;omega))) (λ q g f=>by exfalso;(have:=y6 q g;(have:=vd q f;have:=Bg q f;have:=Fg q f;omega))) (λ q g f=>by exfalso;(have:=y6 q g;(have:=xU q f;have:=pL q f;have:=HT q f;omega))) (λ q g f=>by exfalso;(have:=Hv q g;(have:=vd q f;have:=Bg q f;have:=Fg q f;omega))) (λ q g f=>by exfalso;(have:=Hv q g;(have:=xU q f;have:=pL q f;have:=HT q f;omega))) (λ q g f=>by exfalso;(have:=Hv q g;(have:=Fi q f;have:=oV q f;have:=C3 q f;omega))) (λ q g f=>by exfalso;(have:=AU q g;(have:=vd q f;have:=Bg q f;have:=Fg q f;omega))) (λ q g f=>by exfalso;(have:=AU q g;(have:=xU q f;have:=pL q f;have:=HT q f;omega))) (λ q g f=>by exfalso;(have:=AU q g;(have:=Fi q f;have:=oV q f;have:=C3 q f;omega))) (λ q g f=>by exfalso;(have:=AU q g;(have:=XP q f;have:=Bi q f;have:=Fh q f;omega))) o.W.nums;exact⟨⟨⟨Di,Dj,Dk,Dl,Dm,Pb,Pc,Pd,Pe,Pf⟩,z,jH,E,D,Cd,B9,bz,bG⟩,Z,⟨hR,A.dq GE,C.dq GE,sY.dq GE,DM.NF.dq GE,Tf.dq GE,o.m⟩,bq⟩
end
section
variable{m k:Nat}{g:Bool}
open fg
def aGu{a b:Nat}(h:(((a:Int) != (b:Int)) || (((m / 2 ^ a:Nat):Int) != 0))=false):a=b/\m / 2 ^ a=0:=by
 simp only[baN,bdn]at h;exact⟨GE,GE⟩
def aGv(h:(g != (yB m k == 0))=true):¬g= !m.testBit k:=by
 unfold yB at h;intro e;subst e;cases a:m.testBit k<;>rw[a]at h<;>cases h
def aGx(h:(g != (yB m k == 0))=false):g= !m.testBit k:=by
 unfold yB at h;cases g<;>cases a:m.testBit k<;>rw[a]at h<;>first|rfl|cases h
def aGw{S:List cq}{b:cq}(c:∀(i:Nat) (s:cq),i<k->S[i]? =some s->s.da= !m.testBit i)(d:S[k]? =some b)(e:b.da= !m.testBit k):∀(i:Nat) (s:cq),i<k+1->S[i]? =some s->s.da= !m.testBit i:=λ i s f a=>by
 rcases ba2 i k with h|h
 .exact c i s h a
 .obtain rfl:i=k:=GE
  rw[d]at a;obtain rfl:=bae a;exact e
theorem aGt(bz:mz)(Hx:dg)(w:World)(fw:dg.fd w bz Hx):
  Calls prog 10 #[.agg ((dg.cells bz Hx).toArray)] w (λ e w'=>∃ e':Int,e=.returned (J e')/\(e'=0↔t_ Hx)/\Ext w w'):=by
 refine bT (n:=66) func10 Z Z Z ?_;refine cZ Z Z λ ch a6 aV cY γ=>?_;refine aG Z<|av<|av<|?_;refine c_ [(1,0),(2,2),(4,0),(5,2),(7,0),(8,2)] [0,1,3,4,6,7,10,2,5,8,9] ?_;refine aA Z (λ _=>aj xw Z)<|dE Z (λ _ x=>aq Z ((γ.O x).Y [J Hx.W.am.O,J Hx.W.am.high,.slice bz.a.P Hx.W.am.G.length bz.a.p,.slice bz.a.B Hx.W.aT.length bz.a.b,.slice bz.a.S Hx.W.bl.length bz.a.s,.slice bz.a.M Hx.W.bE.length bz.a.m,.slice bz.a.T Hx.W.ah.length bz.a.t,J Hx.W.next,J Hx.W.db,.slice bz.A bz.T.length bz.c] Aq rj Z))<|aA Z (λ _=>aj nN Z)<|cr Z Z γ p4 Z<|aA Z (λ _=>aj s9 Z)<|dE Z (λ _ x=>aq Z ((γ.O x).Y [.int .u32 (Hx.eR:Int),.slice bz.C Hx.V.length bz.e] oc ky Z))<|bt Z Z<|fO Z Z Z λ dr c0 Q hK=>ca aCH Z Z ((aAu bz.a Hx.W _ _ bz.T Hx.L _ (fw.W.be (Φ aV c0)) (fw.T.be (Φ aV c0)) (fw.be (Φ aV c0)).L).mono ?_);rintro e sM ⟨SY,rfl,amC,kK⟩;refine⟨_,Z,hK _ _ ⟨Φ c0 kK,?_⟩⟩;have bo:=Φ aV c0;have jk:=Φ bo kK;refine fO Z Z Z λ fx dy Q hK=>ca Uw Z Z ((Xw _ _ bz.U Hx.S _ (fw.U.be (Φ jk dy)) (fw.be (Φ jk dy)).S).mono ?_);rintro e nY ⟨SZ,rfl,amE,fZ⟩;refine⟨_,Z,hK _ _ ⟨Φ dy fZ,?_⟩⟩;have cj:=Φ jk dy;have fF:=Φ cj fZ;refine fO Z Z Z λ mn dH Q hK=>ca akH Z Z ((atG Hx.eR fw.m _ _ Hx.V _ (fw.V.be (Φ fF dH))).mono ?_);rintro e ow ⟨S0,rfl,amG,cK⟩;refine⟨_,Z,hK _ _ ⟨Φ dH cK,?_⟩⟩;have eM:=Φ fF dH;have fP:=Φ eM cK;refine p5 (v:=.agg #[J SY,J SZ,J S0]) Z Z (λ _=>kg Z GT) Z<|fn λ rI eB=>?_;have ic:=Φ fP eB;refine a7<|bp<|EU 4<|kC<|ar<|cF Z Z<|ax<|av<|fB Z<|bf<|av<|bp<|ar<|κ (v:=J SY) (JO Z Z GT)<|aG Z<|aC Z<|?_;refine cV Z Z<|ax<|?_;refine fr Z (λ nd=>?_) (λ nd=>?_)
 .refine aC Z<|bc Z<|dO<|bR<|k1<|dO<|bR<|b3 Z Z<|?_;exact⟨SY,Z,⟨λ bu=>absurd bu (by simpa using nd),λ bu=>absurd bu (λ bu=>(show ¬SY=0 by simpa using nd) (amC.2 bu.1))⟩,ic⟩
 .have si:=amC.1 (by simpa using nd);refine dP<|bK<|a7<|rg<|κ (oa (r:=1) Z Z GP GP)<|vm Z<|nl<|om<|kC<|ar<|cF Z Z<|ax<|av<|fB Z<|bf<|av<|bp<|ar<|κ (v:=J SZ) (JO Z Z GT)<|va Z<|?_;refine ax<|aC Z<|cV Z Z<|ax<|?_;refine fr Z (λ Cz=>?_) (λ Cz=>?_)
  .refine aC Z<|bc Z<|dO<|bR<|k1<|dO<|bR<|b3 Z Z<|?_;exact⟨SZ,Z,⟨λ bu=>absurd bu (by simpa using Cz),λ bu=>absurd bu (λ bu=>(show ¬SZ=0 by simpa using Cz) (amE.2 bu.2.1))⟩,ic⟩
  .have sj:=amE.1 (by simpa using Cz);have amj:=sj.1;have P2:=sj.2.1;have JB:=fw.S.len;refine dP<|bK<|a7<|rg<|κ (oa (r:=2) Z Z GP GP)<|vm Z<|nl<|om<|kC<|ar<|cF Z Z<|ax<|av<|fB Z<|bf<|av<|bp<|ar<|κ (v:=J S0) (JO Z Z GT)<|va Z<|?_;refine ax<|aC Z<|cV Z Z<|ax<|?_;refine fr Z (λ p7=>?_) (λ p7=>?_)
   .refine aC Z<|bc Z<|dO<|bR<|k1<|dO<|bR<|b3 Z Z<|?_;exact⟨S0,Z,⟨λ bu=>absurd bu (by simpa using p7),λ bu=>absurd bu (λ bu=>(show ¬S0=0 by simpa using p7) (amG.2 bu.2.2.1))⟩,ic⟩
   .have fJ:=amG.1 (by simpa using p7);refine dP<|bK<|a7<|rg<|κ (oa (r:=3) Z Z GP GP)<|vm Z<|nl<|om<|kC<|ar<|cF Z Z<|ax<|av<|ef Z<|cI<|cH<|cU<|cG<|a7<|av<|ar<|?_;refine κ (aj I8 Z)<|?_;have γ:=γ.O (Φ c0 (Φ kK (Φ dy (Φ fZ (Φ dH (Φ cK eB))))));refine a1 Z γ aH Z<|cf akL Z (anA Hx.j6 _) λ H3 mP=>?_;have mS:=Φ ic mP;refine κ (dj Z)<|ax<|?_;refine dB Z (λ pq=>?_) (λ pq=>?_)
    .simp only[cb]at pq;refine ar<|bc Z<|bR<|b3 Z Z<|?_;exact⟨1,Z,⟨λ bu=>absurd bu GP,λ bu=>absurd bu (λ bu=>by have:=bu.2.2.2.1;omega)⟩,mS⟩
    .simp only[cb]at pq;have JD:1<=Hx.j6/\Hx.j6<=100:=GE
     refine bf<|av<|ar<|κ (aj nN Z)<|?_;have γ:=γ.O mP;refine a1 Z γ p4 Z<|κ (bY underlying33 Z)<|κ (aj xw Z)<|κ (aj Ee Z)<|κ (aj lY Z)<|a1 Z γ lZ Z<|κ (bY underlying25 Z)<|cV Z Z<|vm Z<|aR Z (λ hc=>aj s9 Z)<|aR Z (λ hc=>aj r4 (gt hc Z))<|aR Z (λ hc=>aq (gt hc Z) (γ.one ob Z))<|aR Z (λ hc=>aj nN Z)<|aR Z (λ hc=>aq (gt hc Z) (γ.one p4 Z))<|aR Z (λ hc=>bY underlying33 (gt hc Z))<|aR Z (λ hc=>H0 (m:=bz.U.length) (gt hc Z) (gt hc Z) Z GE)<|aR Z (λ hc=>bne (gt hc Z) Z)<|κ (dS Z Z Z Z)<|ax<|?_;refine dB Z (λ yU=>?_) (λ yU=>?_)
     .refine ar<|bc Z<|bR<|b3 Z Z<|?_;exact⟨4,Z,⟨λ bu=>absurd bu GP,λ bu=>absurd bu (λ bu=>by rw[JB,bu.2.2.2.2.1,<-bu.2.2.2.2.1,bu.2.2.2.2.2.1]at yU;simp at yU)⟩,mS⟩
     .obtain⟨aXt,VX⟩:=aGu yU;refine bf<|av<|ar<|κ (aj nN Z)<|a1 Z γ p4 Z<|κ (bY underlying33 Z)<|vm Z<|ax<|bp<|?_;refine di (λ bJ bH aI=>∃ k:Nat,bH=[(1,.pointer (bd a6)),(48,.slice bz.B bz.U.length bz.d),(49,J (bz.U.length:Int)),(50,J (k:Int))]/\bJ=bz.U.length-k/\Ext w aI/\aO aI a6 (dg.cells bz Hx) 39 (0,0)/\(k<=bz.U.length)/\(∀(i:Nat) (s:cq),i<k->Hx.S[i]? =some s->s.da= !Hx.eR.testBit i)) _ _ ⟨0,Z,Z,mS,γ,GE,λ i s ao=>GE⟩ (c' Z Z Z) ?_;rintro qd avQ Bp ⟨k,rfl,rfl,n7,γ,au,aW⟩;have aNj:=γ.lt;refine ar<|cF Z Z<|ax<|av<|?_;refine c7 Z (λ acM=>?_) (λ acM=>?_)
      .obtain⟨fQ,dC,bj,gD,jr,hx⟩:=fw.S.d9 (k:=k) GE;refine bf<|av<|bp<|aC Z<|κ (bD k underlying33 ih Z Z ((fw.U.be n7).Y (aL k)) Z GE)<|κ (aq Z (τ.aF.G mG ((fw.U.be n7).O (aL k)) gD vT ih))<|cy GN Z λ KH aVt ff aZm YW=>?_;have oB:=Φ n7 ff;refine va Z<|ck Z Z YW Z ih Z Z λ NO A1 YW=>?_;have yh:=Ext.H oB A1 bn;refine ax<|av<|?_;refine c_ [(1,0),(4,0)] [0,1,2,3,4,5,6,7,8,9] ?_;refine aA Z (λ _=>aj Cq Z)<|cr Z Z YW At Z<|aA Z (λ _=>aj s9 Z)<|aA Z (λ _=>aj r4 Z)<|?_;have γ:=(γ.O ff).H A1 aJ;refine cr Z Z γ ob Z<|bt Z Z<|aA Z (λ _=>H0 (m:=k) Z Z Z GE)<|aA Z (λ _=>NM (a:=Hx.eR) Z Z fw.m)<|aA Z (λ _=>beq Z Z)<|aA Z (λ _=>azb underlying4 Z Z)<|fn λ qq ez=>?_;have hQ:=Φ yh ez;refine a7<|?_;refine dB Z (λ acO=>?_) (λ acO=>?_)
       .refine ar<|bc Z<|dO<|bR<|k1<|dO<|bR<|b3 Z Z<|?_;exact⟨4,Z,⟨λ bu=>absurd bu GP,λ bu=>absurd bu (λ bu=>aGv acO (bu.2.2.2.2.2.2 k bj jr))⟩,hQ⟩
       .have MH:=aGx acO;refine dP<|bK<|cW Z Z Z<|?_;have γ:=γ.O ez;exact cM ⟨k+1,Z,Z,hQ,γ,GE,aGw aW jr MH⟩
      .refine cI<|cH<|cU<|cG<|a7<|ar<|bc Z<|b3 Z Z<|?_;exact⟨0,Z,⟨λ _=>⟨si,sj,fJ,JD,GE,by rw[<-JB];exact VX,λ i s hs=>aW i s (by have:=(bab.1 hs).1;omega) hs⟩,λ _=>Z⟩,n7⟩
end
section
variable{S:List cq}{k m:Nat}
open fg
def tD(S:List cq)(D:Nat):Nat->List cq
 | 0=>S
 | k+1=>if D.testBit k then CJ (tD S D k) (k:Int)else tD S D k
def Wm(S:List cq)(p:Int):(CJ S p).length=S.length:=by unfold CJ;rw[bak]
def Wk(S:List cq)(D:Nat):∀ k,(tD S D k).length=S.length
 | 0=>rfl
 | k+1=>by rw[tD];split;rw[Wm,Wk S D k];exact Wk S D k
def aeh{i:Nat}(h:k≠i):(CJ S (k:Int))[i]? =S[i]? :=by unfold CJ;rw[ba4,baH h]
def Wj{S:List cq}{D:Nat}:∀ {k i:Nat},k<=i->(tD S D k)[i]? =S[i]?
 | 0,_,_=>rfl
 | k+1,i,h=>by rw[tD];split;rw[aeh GE];exact Wj GE;exact Wj GE
def aKa(h:vH S):vH (CJ S (k:Int)):=by
 refine⟨by rw[Wm];exact h.1,by rw[Wm];exact h.2.1,λ i s a=>?_⟩;by_cases e:k=i
 .subst e;unfold CJ at a;rw[ba4]at a;rw[baw (by have:=(bab.1 a).1;simpa using this)]at a;obtain rfl:=bae a;exact⟨Kx,by simp[cq.H]⟩
 .rw[aeh e]at a;exact h.2.2 i s a
def Wl{S:List cq}{D:Nat}(h:vH S):∀ k,vH (tD S D k)
 | 0=>h
 | k+1=>by rw[tD];split;exact aKa (Wl h k);exact Wl h k
def aJ9{x:dg}(c:x.eR<4294967296)(h:t_ x)(b:k<x.S.length)(a:(b9.diff x.eR m).testBit k=true):ap7 (tD x.S (b9.diff x.eR m) k) (k:Int):=by
 have d:=h.2.1.2.1;rw[b9.Ps _ _ _ c GE,bai]at a;refine⟨Wl h.2.1 k,GE,x.S[k],?_,?_⟩
 .rw[ba4,Wj (bao _)];exact bac b
 .rw[h.2.2.2.2.2.2 k _ (bac b),a.1];rfl
def arF:∀(f m:Nat) (l:List Nat),m<4294967296->(b9.u_ f m l).1<4294967296
 | 0,m,l,h=>h
 | f+1,m,l,h=>by rw[b9.u_];split;exact arF f _ _ (b9.I4 _ _);exact h
def aQL{l:List Nat}{p q:Int}{r:Nat×List Nat}(a:m<4294967296)(h:Gy m l p q)(e:r=D5 m l p q):r.1<4294967296:=by
 rw[e];exact arF _ _ _ a
def G2(x:dg)(p q:Int):dg:={x with eR:=(D5 x.eR x.V p q).1,V:=(D5 x.eR x.V p q).2,S:=tD x.S (b9.diff x.eR (D5 x.eR x.V p q).1) x.S.length}
def awe(x:dg)(p q e:Int)(a:dg):Prop:=(e=0/\Gy x.eR x.V p q/\a=G2 x p q)\/(e≠0/\¬Gy x.eR x.V p q/\a=x)
def LG(x:dg):Prop:=x.L.length<200/\ji (qj x.W x.L) (s6 x.j6.toNat x.S).2=0
noncomputable def Nz(x:dg):dg:={x with S:=(s6 x.j6.toNat x.S).1,L:=x.L++ [(s6 x.j6.toNat x.S).2]}
def ax3(x:dg)(e:Int)(s:ByteArray)(a:dg):Prop:=(e=0/\x.L.length<200/\ji (qj x.W x.L) (s6 x.j6.toNat x.S).2=0/\s=lq (s6 x.j6.toNat x.S).2/\a=Nz x)\/(e≠0/\¬LG x/\s=.empty/\a=x)
theorem aH9(b aQ:Nat)(c:mz)(a:dg)(w:World)(G0:aQ<=w.heap.size)(d:aO w b (dg.cells c a) 39 (0,0))(f:iG w aQ c a)(T:∀ q∈iG.G c,q=b->False)(C:t_ a):
  Calls prog 12 #[.pointer (bd b)] w (λ e w'=>∃(e':Int) (s:ByteArray) (Y:mz) (O:dg),e=.returned (.tuple #[.string s,J e'])/\ax3 a e' s O/\aO w' b (dg.cells Y O) 39 (0,0)/\iG w' aQ Y O/\Mod [b] w w'):=by
 have Kk:=d.lt;have V:=b4 f.lt;refine bT (n:=48) func12 Z Z Z ?_;refine ar<|va Z<|aG Z<|av<|?_;refine c_ [(3,0),(7,0),(8,2)] [0,1,2,3,4,5,6,7,8,9,10,11,12,13,14,15] ?_;refine bt Z Z<|aA Z (λ _=>cB Z)<|aA Z (λ _=>aj nN Z)<|cr Z Z d p4 Z<|bt Z Z<|aA Z (λ _=>cB Z)<|aA Z (λ _=>aj I8 Z)<|cr Z Z d aH Z<|fO Z Z Z λ ch t Q F=>ca aCI Z Z ((aOK _ _ c.U a.S a.j6 _ (f.O t).bv.U (f.O t).bv.S).mono ?_);rintro e dr ⟨aI,S,c3,af,ab,aF,aK,H,rfl,ah,A,v,o,aP,aN,D⟩;refine⟨_,Z,F _ _ ⟨Φ t D,?_⟩⟩;have:=t.size;have dL:=(Mod.U [b] w).trans (Mod.O t);have:=D.size;have bo:=dL.trans (Mod.O D);have az:=b4 A.lt;have al:=dZ A.lt;have XS:=b4 o.lt;have am:=dZ o.lt;have ap:=b4 v.lt;have ai:=dZ v.lt;refine bt Z Z<|aA Z (λ _=>ex Z Z)<|aA Z (λ _=>ex Z Z)<|aA Z (λ _=>ex Z Z)<|aA Z (λ _=>fh Z)<|aA Z (λ _=>fh Z)<|aA Z (λ _=>fh Z)<|fn λ xW r=>?_;have:=r.size;have lM:=bo.trans (Mod.O r);refine a7<|av<|aC Z<|cV Z Z<|ax<|?_;refine fr Z (λ hk=>?_) (λ hk=>?_)
 .exact absurd (ah.resolve_right λ p=>p.2.1 ⟨C.2.1,C.2.2.2.1⟩).1 (by simpa using hk)
 .obtain⟨_,_,uD⟩:=ah.resolve_right λ p=>p.2.1 ⟨C.2.1,C.2.2.2.1⟩;have M:H=(s6 a.j6.toNat a.S).2:=bbh Prod.snd uD;have aB:ab=(s6 a.j6.toNat a.S).1:=bbh Prod.fst uD;refine bf<|aC Z<|κ (cB Z)<|κ (aj xw Z)<|?_;have d:=d.O (Φ t (Φ D r));refine κ (aq Z (d.Y [J a.W.am.O,J a.W.am.high,.slice c.a.P a.W.am.G.length c.a.p,.slice c.a.B a.W.aT.length c.a.b,.slice c.a.S a.W.bl.length c.a.s,.slice c.a.M a.W.bE.length c.a.m,.slice c.a.T a.W.ah.length c.a.t,J a.W.next,J a.W.db,.slice c.A c.T.length c.c] Aq rj Z))<|vm Z<|?_;have o:=o.O r;have f:=f.O (Φ t (Φ D r));refine ca aCJ Z Z ((aeO c.a a.W _ _ c.T a.L _ _ H _ f.bv.W f.bv.T f.bv.L o.bv).mono ?_);rintro e vh ⟨aD,i,j,aa,ad,ae,aE,rfl,ag,B,z,y,aL,aM,l⟩;refine cR ?_;have:=l.size;have jb:=lM.trans (Mod.O l);have aw:=b4 B.lt;have W:=dZ B.lt;have ay:=b4 z.lt;have X:=dZ z.lt;have au:=b4 y.lt;have ak:=dZ y.lt;refine vm Z<|bL Z Z<|bL Z Z<|cy abf Z λ wM z_ g aR R=>?_;have l8:=jb.trans (Mod.O g);refine ck Z Z R Z rj Z Z λ pM h R=>?_;have iE:=l8.Y h (λ q I=> .inr (by have:=bah.1 I;omega));refine aG Z<|av<|aC Z<|cV Z Z<|ax<|?_;refine fr Z (λ G=>?_) (λ G=>?_)
  .refine aC Z<|va Z<|bc Z<|bR<|hE Z Z Z<|?_;have d:=(d.O (Φ l g)).H h aJ;have f:=(f.O (Φ l g)).H h (bV V);exact⟨aD,.empty,c,a,Z,.inr ⟨by simpa using G,λ p=>(ag.resolve_left λ El=>absurd El.1 (by simpa using G)).2.1 ⟨C.1,p.1,by rw[M];exact p.2⟩,rfl,rfl⟩,d,f,iE⟩
  .obtain⟨_,_,MK,U,an,ao⟩:=ag.resolve_right λ p=>p.1 (by simpa using G);have JC:=(NA (NH U).1).1;refine bf<|av<|?_;refine RB [b] [(3,0),(6,2),(9,2)] [0,1,2,3,4,5,6,7,8,9] GT GT ?_;refine kR Z Z (λ _=>fW Z) Z<|kR Z Z (λ _=>fW Z) Z<|kR Z Z (λ _=>fW Z) Z<|yQ Z Z (λ _ x=>aq Z ((R.H x aJ).all Aq rj)) Z<|kR Z Z (λ _=>cB Z) Z<|kR Z Z (λ _=>aj nN Z) Z<|?_;have d:=(d.O (Φ l g)).H h aJ;refine GV Z Z Z λ KF k Q F=>ep Z Z (d.O k) Z Uy Z Z λ xY m d=>F _ _ ⟨(Mod.O k).trans m,?_⟩;have qv:=iE.trans (Mod.O k);have n5:=qv.Y m wx;refine kR Z Z (λ _=>cB Z) Z<|kR Z Z (λ _=>aj xw Z) Z<|GV Z Z Z λ rJ E Q F=>st (new:=[J j.am.O,J j.am.high,.slice i.P j.am.G.length i.p,.slice i.B j.aT.length i.b,.slice i.S j.bl.length i.s,.slice i.M j.bE.length i.m,.slice i.T j.ah.length i.t,J j.next,J j.db,.slice aa ae.length ad,.slice S af.length c3,.int .u32 (a.eR:Int),.slice c.C a.V.length c.e,J a.j6]) Z Z (d.O E) Z rj Z Z Z λ H5 L d=>F _ _ ⟨(Mod.O E).trans L,?_⟩;have gU:=n5.trans (Mod.O E);have rN:=gU.Y L wx;refine PF λ xZ K=>?_;have jX:=rN.trans (Mod.O K);refine a7<|aC Z<|?_;have o:=((((((o.O (Φ l g)).H h (bV XS)).O k).H m (bx am)).O E).H L (bx am)).O K;refine cf aCK Z (aMh _ _ H _ o.bv) λ NO P=>?_;have yh:=jX.trans (Mod.O P);refine bL Z Z<|bL Z Z<|va Z<|bc Z<|hE Z Z Z<|?_;have eF:=(Φ K P);have d:=d.O eF;have u:=sK (oN E L) (Φ K P);have f:=((((f.O (Φ l g)).H h (bV V)).O k).H m (bM T)).H u (bM T);have B:=((((B.O g).H h (bV aw)).O k).H m (bx W)).H u (bx W);have z:=((((z.O g).H h (bV ay)).O k).H m (bx X)).H u (bx X);have y:=((((y.O g).H h (bV au)).O k).H m (bM λ q I N=>by have:=ak q I;omega)).H u (bM λ q I N=>by have:=ak q I;omega);have A:=((((A.O (Φ r (Φ l g))).H h (bV az)).O k).H m (bx al)).H u (bx al);have v:=((((v.O (Φ r (Φ l g))).H h (bV ap)).O k).H m (bM λ q I N=>by have:=ai q I;omega)).H u (bM λ q I N=>by have:=ai q I;omega);exact⟨0,lq H,⟨i,aa,ad,ae,S,c3,af,c.C,c.e⟩,⟨j,aE,ab,a.eR,a.V,a.j6⟩,by rw[JC];rfl,.inl ⟨rfl,MK,by rw[<-M];exact U,by rw[M],by unfold Nz;rw[an,ao,M,aB]⟩,d,⟨B.dq GE,z.dq GE,y.dq GE,A.dq GE,v.dq GE,f.V,f.m⟩,yh⟩
theorem aGs(b aQ:Nat)(d:mz)(c:dg)(p G:Int)(w:World)(G0:aQ<=w.heap.size)(u:aO w b (dg.cells d c) 39 (0,0))(f:iG w aQ d c)(K:∀ q∈iG.G d,q=b->False)(au:t_ c):
  Calls prog 13 #[.pointer (bd b),J p,J G] w (λ e w'=>∃(e':Int) (ab:mz) (V:dg),e=.returned (J e')/\awe c p G e' V/\aO w' b (dg.cells ab V) 39 (0,0)/\iG w' aQ ab V/\Mod [b] w w'):=by
 have Kk:=u.lt;have R:=b4 f.lt;refine bT (n:=62) func13 Z Z Z ?_;refine ar<|aG Z<|aC Z<|κ (cB Z)<|κ (aj s9 Z)<|κ (aq Z (u.Y [.int .u32 (c.eR:Int),.slice d.C c.V.length d.e] oc ky Z))<|vm Z<|vm Z<|ca aCL Z Z ((aQK c.eR f.m _ _ c.V p G _ f.bv.V).mono ?_);rintro e R6 ⟨Ir,v,A,M,E,aN,rfl,af,h,C⟩;refine cR ?_;have:=C.size;have K5:=(Mod.U [b] w).trans (Mod.O C);have ai:=b4 h.lt;have U:=dZ h.lt;refine vm Z<|bL Z Z<|bL Z Z<|bL Z Z<|cy Ux Z λ zt S B aM i=>?_;have kN:=K5.trans (Mod.O B);refine ck Z Z i Z ky Z Z λ C6 D i=>?_;have o2:=kN.Y D (λ q I=> .inr (by have:=bah.1 I;omega));refine va Z<|aG Z<|av<|aC Z<|cV Z Z<|ax<|?_;refine fr Z (λ N=>?_) (λ N=>?_)
 .refine aC Z<|bc Z<|bR<|b3 Z Z<|?_;have u:=(u.O (Φ C B)).H D aJ;have f:=(f.O (Φ C B)).H D (bV R);exact⟨Ir,d,c,Z,.inr ⟨by simpa using N,λ y=>(af.resolve_left λ El=>absurd El.1 (by simpa using N)).2.1 y,rfl⟩,u,f,o2⟩
 .obtain⟨_,My,T⟩:=af.resolve_right λ y=>y.1 (by simpa using N);have aw:v=(D5 c.eR c.V p G).1:=bbh Prod.fst T;have ap:E=(D5 c.eR c.V p G).2:=bbh Prod.snd T;have P2:=au.2.1.2.1;have JB:=f.S.len;have ay:=aQL f.m My T;refine bf<|av<|aC Z<|κ (cB Z)<|κ (aj nN Z)<|?_;have u:=(u.O (Φ C B)).H D aJ;refine a1 Z u p4 Z<|κ (bY underlying33 Z)<|vm Z<|ax<|bp<|?_;have f:=(f.O (Φ C B)).H D (bV R);have ah:∀ q∈τ.ai d.B,q<w.heap.size:=λ q I=>R q (by unfold iG.G;simp[I]);have ak:∀ q∈τ.ai d.B,q=b->False:=λ q I=>K q (by unfold iG.G;simp[I]);have h:=(h.O B).H D (bV ai);refine di (λ bJ bH x=>∃ k:Nat,∃ o:Option Addr,∃ z:Nat,∃ l:List bU,bH=[(0,.pointer (bd b)),(6,J 0),(7,.pointer (bd S)),(29,J (d.U.length:Int)),(30,J (k:Int))]/\bJ=c.S.length-k/\Mod [b] w x/\iG x aQ d c/\dY.ce.aM 34 4 x w.heap.size (τ.ai A) A M (E)/\aO x S [.int .u32 (v:Int),.slice A E.length M] 37 (0,0)/\aO x b [J c.W.am.O,J c.W.am.high,.slice d.a.P c.W.am.G.length d.a.p,.slice d.a.B c.W.aT.length d.a.b,.slice d.a.S c.W.bl.length d.a.s,.slice d.a.M c.W.bE.length d.a.m,.slice d.a.T c.W.ah.length d.a.t,J c.W.next,J c.W.db,.slice d.A d.T.length d.c,.slice o l.length z,.int .u32 (c.eR:Int),.slice d.C c.V.length d.e,J c.j6] 39 (0,0)/\bU.ce.aM 78 40 x aQ (τ.ai o) o z l/\jG x aQ l (tD c.S (b9.diff c.eR v) k)/\(k<=c.S.length)/\(l.length=c.S.length)/\(∀ q∈hM l,q=b->False)/\(∀ q∈τ.ai o,q=S->False)/\(∀ q∈τ.ai o,q=b->False)/\(∀ q∈τ.ai o,q∈τ.ai A->False)) _ _ ⟨0,d.B,d.d,d.U,Z,Z,o2,f,h,i,u,f.U,f.S,GE,JB,λ q I=>K q (by unfold iG.G;simp[I]),(λ q I t=>by (have:=ah q I;omega)),ak,(λ q I t=>by (have:=U q t;(have:=ah q I;omega)))⟩ (c' Z Z Z) ?_;rintro EX aK mn ⟨k,o,z,l,rfl,rfl,eM,f,h,i,g,s,r,aL,uI,ad,Aj,aa,al⟩;have ve:=b4 h.lt;have aE:=i.lt;have Xg:=g.lt;refine ar<|cF Z Z<|ax<|av<|?_;refine c7 Z (λ wa=>?_) (λ wa=>?_)
  .refine bf<|av<|bp<|aC Z<|aG Z<|av<|?_;refine c_ [(4,0),(6,0)] [0,1,2,3,4,5,6,7,8,9,10,11] ?_;refine bt Z Z<|aA Z (λ _=>cB Z)<|aA Z (λ _=>aj s9 Z)<|aA Z (λ _=>aj r4 Z)<|cr Z Z g ob Z<|aA Z (λ _=>aj r4 Z)<|cr Z Z i ob Z<|aA Z (λ _=>R2 Z Z)<|bt Z Z<|aA Z (λ _=>H0 (m:=k) Z Z Z GE)<|aA Z (λ _=>NM (a:=(b9.diff c.eR v)) Z Z (b9.I4 _ _))<|aA Z (λ _=>beq Z Z)<|fn λ pM j=>?_;have:=j.size;have iE:=eM.trans (Mod.O j);refine a7<|?_;refine j1 Z (λ X=>?_) (λ X=>?_)
   .have O:=XY.1 X;have ao:=aJ9 f.m au GE O;refine rg<|vm Z<|vm Z<|κ (cB Z)<|κ (aj nN Z)<|?_;have g:=g.O j;refine a1 Z g p4 Z<|vm Z<|?_;have s:=s.O j;have r:=r.O j;refine ca aCN Z Z ((aO9 _ _ l _ (k:Int) _ s.bv r.Y).mono ?_);rintro e xY ⟨aF,az,aD,aB,aH,rfl,an,L,F,aI,W⟩;refine cR ?_;have n5:=iE.trans (Mod.O W);have P:=dZ L.lt;have ag:=dZ F.lt;have am:=an.resolve_right λ y=>y.2.1 ao;have ae:=am.2.2;refine vm Z<|bL Z Z<|bL Z Z<|κ (cB Z)<|κ (aj nN Z)<|?_;have g:=g.O W;refine ep Z Z g Z Uy Z Z λ X5 Q g=>?_;have FE:=n5.Y Q wx;refine nl<|bK<|cW Z Z Z<|?_;have Y:=oN (Φ j W) Q;have f:=f.H Y (bM K);have h:=h.H Y (bx U);have i:=i.H Y aJ;have L:=L.H Q (bx P);have F:=F.H Q (bM λ q I t=>by have:=ag q I;omega);exact cM ⟨k+1,az,aD,aB,Z,Z,FE,f,h,i,g,(L.dq GE),(by rw[tD,bap O,<-ae];exact F.NF.dq GE),GE,by have Jf:=F.Y.len;rw[ae,Wm,Wk]at Jf;exact Jf,λ q I t=>by (have:=ag q I;omega),(λ q I t=>by (have:=P q I;omega)),(λ q I t=>by (have:=P q I;omega)),(λ q I t=>by (have:=P q I;(have:=ve q t;have:=ai q t;omega)))⟩
   .have O:¬(b9.diff c.eR v).testBit k=true:=λ y=>X (XY.2 y);refine dP<|bK<|cW Z Z Z<|?_;have f:=f.O j;have h:=h.O j;have i:=i.O j;have g:=g.O j;have s:=s.O j;have r:=r.O j;exact cM ⟨k+1,o,z,l,Z,Z,iE,f,h,i,g,s,(by rw[tD,ban O];exact r),GE,uI,ad,Aj,aa,al⟩
  .have nP:k=c.S.length:=GE
   refine cI<|cH<|cU<|cG<|a7<|aC Z<|κ (aq Z (i.all oc ky))<|κ (cB Z)<|κ (aj s9 Z)<|st (new:=[J c.W.am.O,J c.W.am.high,.slice d.a.P c.W.am.G.length d.a.p,.slice d.a.B c.W.aT.length d.a.b,.slice d.a.S c.W.bl.length d.a.s,.slice d.a.M c.W.bE.length d.a.m,.slice d.a.T c.W.ah.length d.a.t,J c.W.next,J c.W.db,.slice d.A d.T.length d.c,.slice o l.length z,.int .u32 (v:Int),.slice A E.length M,J c.j6]) Z Z g Z ky Z Z Z λ H5 H g=>?_;have rN:=eM.Y H wx;refine ax<|ar<|bc Z<|b3 Z Z<|?_;have f:=f.H H (bM K);have s:=s.H H (bM aa);have r:=r.H H (bM ad);have h:=h.H H (bx U);exact⟨0,⟨d.a,d.A,d.c,d.T,o,z,l,A,M⟩,⟨c.W,c.L,tD c.S (b9.diff c.eR v) k,v,E,c.j6⟩,Z,.inl ⟨Z,My,by unfold G2;rw[<-aw,<-ap,nP]⟩,g,⟨f.W,f.T,f.L,s,r,h.dq GE,ay⟩,rN⟩
end
structure kb where
 O:Int
 o:aS
 by_:Int
 sat:Int
 deriving DecidableEq,Inhabited
namespace kb
def cells(a:kb):List Value:=[.int .i64 (a.O),.int .i64 (a.o.by_),.int .i64 (a.o.O),.int .i64 (a.o.H),.int .i64 (a.o.an.x),.int .i64 (a.o.an.y),.int .i64 (a.o.Y),.int .i64 (a.by_),.int .i64 (a.sat)]
def ok(a:kb):Prop:=(Lit.int .i64 a.O).wf=true/\(Lit.int .i64 a.o.by_).wf=true/\(Lit.int .i64 a.o.O).wf=true/\(Lit.int .i64 a.o.H).wf=true/\(Lit.int .i64 a.o.an.x).wf=true/\(Lit.int .i64 a.o.an.y).wf=true/\(Lit.int .i64 a.o.Y).wf=true/\(Lit.int .i64 a.by_).wf=true/\(Lit.int .i64 a.sat).wf=true
def raw(j:Nat)(u:Value):Prop:=match j with
 | 0|1|2|3|4|5|6|7|8=>∃ n:Int,u=.int .i64 n
 | _=>True
def ui(a:kb):∀(j:Nat) u,a.cells[j]? =some u->raw j u:=by
 intro j u b
 match j,b with
 | 0,b|1,b|2,b|3,b|4,b|5,b|6,b|7,b|8,b=>exact⟨_,(bae b).symm⟩
 | j+9,b=>exact trivial
def cells_one(a:kb):∀ u∈a.cells,u.oneCell'=true:=by
 intro u b;unfold cells at b;simp only[baB,bbM,bcH]at b;rcases b with rfl|rfl|rfl|rfl|rfl|rfl|rfl|rfl|rfl<;>rfl
def ce:τ kb:=τ.flat 9 cells ok raw (λ _=>rfl) cells_one ui
def zero:Value:=.agg #[.int .i64 0,.int .i64 0,.int .i64 0,.int .i64 0,.int .i64 0,.int .i64 0,.int .i64 0,.int .i64 0,.int .i64 0]
theorem d9{by_:Nat}{w:World}{A:Option Addr}{c:Nat}{l:List kb}(h:ce.aF by_ w A c l)(f:0<l.length):
  ∃ b o,A=some ⟨b,o,none⟩/\∀(i:Nat) (a:kb),l[i]? =some a->w.cell? ⟨b,o+i*9,none⟩=some (.int .i64 (a.O))/\w.cell? ⟨b,o+i*9+1,none⟩=some (.int .i64 (a.o.by_))/\w.cell? ⟨b,o+i*9+2,none⟩=some (.int .i64 (a.o.O))/\w.cell? ⟨b,o+i*9+3,none⟩=some (.int .i64 (a.o.H))/\w.cell? ⟨b,o+i*9+4,none⟩=some (.int .i64 (a.o.an.x))/\w.cell? ⟨b,o+i*9+5,none⟩=some (.int .i64 (a.o.an.y))/\w.cell? ⟨b,o+i*9+6,none⟩=some (.int .i64 (a.o.Y))/\w.cell? ⟨b,o+i*9+7,none⟩=some (.int .i64 (a.by_))/\w.cell? ⟨b,o+i*9+8,none⟩=some (.int .i64 (a.sat)):=by
 obtain⟨b,o,e,j⟩:=h.d9 f;refine⟨b,o,e,λ i a g=>?_⟩;obtain⟨es,⟨rfl,_⟩,d⟩:=j i a g;exact⟨d 0 _ Z,d 1 _ Z,d 2 _ Z,d 3 _ Z,d 4 _ Z,d 5 _ Z,d 6 _ Z,d 7 _ Z,d 8 _ Z⟩
def sh:hg:=(.cons (.int .i64) (.cons (.cons (.int .i64) (.cons (.int .i64) (.cons (.int .i64) (.cons (.cons (.int .i64) (.cons (.int .i64) .nil)) (.cons (.int .i64) .nil))))) (.cons (.int .i64) (.cons (.int .i64) .nil))))
def opens(w:World)(cs:List Value)(h:sh.jF w cs):∃ a,ce.bv w cs a:=by
 obtain⟨_,_,rfl,_,_,⟨j,rfl,b⟩,⟨_,_,rfl,_,_,⟨_,_,rfl,_,_,⟨m,rfl,k⟩,⟨_,_,rfl,_,_,⟨l,rfl,i⟩,⟨_,_,rfl,_,_,⟨n,rfl,o⟩,⟨_,_,rfl,_,_,⟨_,_,rfl,_,_,⟨p,rfl,c⟩,⟨_,_,rfl,_,_,⟨q,rfl,d⟩,rfl⟩⟩,⟨_,_,rfl,_,_,⟨r,rfl,e⟩,rfl⟩⟩⟩⟩⟩,⟨_,_,rfl,_,_,⟨s,rfl,f⟩,⟨_,_,rfl,_,_,⟨t,rfl,g⟩,rfl⟩⟩⟩⟩:=h;exact⟨⟨j,⟨m,l,n,⟨p,q⟩,r⟩,s,t⟩,Z,b,k,i,o,c,d,e,f,g⟩
end kb
end Go.Proofs.YtooonebcoaleiaaGreat
