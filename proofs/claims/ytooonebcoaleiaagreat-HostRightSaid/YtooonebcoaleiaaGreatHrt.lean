import Derived.Test.YtooonebcoaleiaaGreatRwz
set_option linter.all false
set_option maxRecDepth 100000
set_option maxHeartbeats 4000000
open Go.RowKit
namespace Go.Proofs.YtooonebcoaleiaaGreat
open Tryz
abbrev bfz:=@Int.toNat_of_nonneg
section
open fg
theorem aOT{w:World}{A:Option Addr}{n c:Nat}(h:(.slice (.cons (.slice aS.sh 48) (.cons (.int .i64) (.cons .bool .nil))) 40:hg).jF w [.slice A n c]):∃(U:List bU) (S:List cq),n=U.length/\bU.ce.aF 40 w A c U/\n9 w U S:=by
 have z:∀(w:World) (cs:List Value),(.cons (.slice aS.sh 48) (.cons (.int .i64) (.cons .bool .nil)):hg).jF w cs->∃(v:bU) (l:List aS),cs=v.cells/\gg v.Y/\v.n=l.length/\aS.ce.aF 48 w v.a v.c l:=by
  rintro w cs ⟨xs,ys,rfl,_,_,f,⟨aa,X,rfl,_,_,⟨n,rfl,W⟩,⟨ab,Y,rfl,_,_,⟨b,rfl⟩,rfl⟩⟩⟩;obtain⟨A,c,l,rfl,F⟩:=τ.M (R:=aS.ce) (by_:=48) aS.opens rfl GP f;exact⟨⟨A,l.length,c,n,b⟩,l,Z,W,Z,F⟩
 obtain⟨b',cn,U,e,q⟩:=τ.M (R:=bU.ce) (by_:=40) (λ w cs h=>by obtain⟨v,l,f,k,_⟩:=z w cs h;exact⟨v,f,k⟩) rfl GP h;simp only[bci,bdJ,bfn]at e;obtain⟨rfl,rfl,rfl⟩:=e;have L:∀(i:Nat),i<U.length->∃ s:cq,∃ v,U[i]? =some v/\v.Y=s.Y/\v.da=s.da/\v.n=s.O.length/\aS.ce.aF 48 w v.a v.c s.O:=by
  intro i d;obtain⟨v,x⟩:∃ v,U[i]? =some v:=⟨_,bac d⟩;obtain⟨b,o,rfl,V⟩:=q.d9 GE;obtain⟨es,H,K⟩:=V i v x;rcases h with h|⟨a,af,ad,e,ae,_,_,M⟩
  .simp at h
  .simp only[bci,bdJ,bfn,bcD]at e;obtain⟨rfl,rfl,rfl⟩:=e;obtain⟨T,f1,P,Q⟩:=M i GE;obtain⟨g,l,rfl,_,m,p⟩:=z w T Q;have O:=K 0 (.slice v.a v.n v.c) (by rw[mG H];rfl);have N:=P 0 (.slice g.a g.n g.c) rfl;have y:=O.symm.trans (show w.cell? ⟨b,o+(i*3+0),none⟩=some (.slice g.a g.n g.c)from by rw[<-N];simp[Addr.add,show((aS.sh.slice 48).cons ((hg.int IntKind.i64).cons (hg.bool.cons hg.nil))).size=3 from rfl];split<;>simp_all);simp only[bcD,bdJ]at y;obtain⟨C,D,E⟩:=y;exact⟨⟨l,v.Y,v.da⟩,v,x,Z,Z,by rw[D];exact m,by rw[C,E];exact p⟩
 obtain⟨S,t,r⟩:=ael U.length _ L;refine⟨U,S,Z,q,⟨by simp[t],λ i v d=>?_⟩,?_⟩
 .rw[bau]at d;cases j:U[i]? with
  | none=>rw[j]at d;cases d
  | some u =>
   rw[j]at d;obtain rfl:=bae d;have B:i<S.length:=by rw[t];exact(bab.1 j).1
   obtain⟨v,f,_,_,p,G⟩:=r i B;rw[j]at f;obtain rfl:=bae f;exact⟨S[i].O,by rw[bau,bac B];rfl,p,G⟩
 .apply bbB;intro i;rw[bau,bau];rcases ba2 i S.length with d|d
  .obtain⟨v,f,k,m,_⟩:=r i d;rw[f,bac d];simp only[bbR,k,m]
  .rw[baX d,baX GE];rfl
theorem aHO{w:World}{q:Array Value}(h:(.cons (.cons ag.sh (.cons (.slice (.slice aS.sh 48) 24) .nil)) (.cons (.slice (.cons (.slice aS.sh 48) (.cons (.int .i64) (.cons .bool .nil))) 40) (.cons (.cons (.int .u32) (.cons (.slice (.int .u32) 4) .nil)) (.cons (.int .i64) .nil))):hg).jF w q.toList):∃(p:mz) (i:dg),q=(dg.cells p i).toArray/\dg.fd w p i:=by
 obtain⟨_,_,e,_,_,⟨cs,ds,rfl,_,_,g,⟨es,Q,rfl,_,_,j,rfl⟩⟩,⟨_,_,rfl,_,_,k,⟨_,_,rfl,_,_,⟨_,_,rfl,_,_,⟨m,rfl,G⟩,⟨_,_,rfl,_,_,x,rfl⟩⟩,⟨_,_,rfl,_,_,⟨H,rfl,_⟩,rfl⟩⟩⟩⟩:=h;obtain⟨a,W,rfl,y⟩:=ag.opens w cs g;obtain⟨A,c,Y,rfl,_⟩:=τ.M (R:=aS.ce.slice 43 48) (by_:=24) (λ w cs h=>by
  obtain⟨A,c,l,e,o⟩:=τ.M (R:=aS.ce) (by_:=48) aS.opens rfl GP h;exact⟨l,A,c,e,o⟩) Z GP j
 obtain⟨T,L,f,z,E⟩:=aMa j;obtain⟨B,d,P,rfl,_⟩:=τ.M (R:=bU.ce) (by_:=40) (λ w cs h=>by
  obtain⟨xs,X,rfl,_,_,g,⟨N,K,rfl,_,_,⟨n,rfl,f⟩,⟨O,M,rfl,_,_,⟨b,rfl⟩,rfl⟩⟩⟩:=h;obtain⟨A,c,l,rfl,o⟩:=τ.M (R:=aS.ce) (by_:=48) aS.opens rfl GP g;exact⟨⟨A,l.length,c,n,b⟩,Z,f⟩) Z GP k
 obtain⟨U,S,u,s,F⟩:=aOT k;have r:∀ {n:Int},(Lit.int .u32 n).wf=true->0<=n/\n<4294967296:=λ{n} h=>by
  simp[Lit.wf,IntKind.min,IntKind.max,IntKind.signed,IntKind.bits]at h;omega
 obtain⟨C,v,V,rfl,D⟩:=τ.M (R:=dY.ce) (by_:=4) (λ w cs h=>by
  obtain⟨n,rfl,f⟩:=h;have:=r f;exact⟨n.toNat,show[_]=[_]/\_ from⟨by rw[bfz this.1],by show n.toNat<4294967296;omega⟩⟩) Z GP x
 have t:=r G;refine⟨⟨a,A,c,T,B,d,U,C,v⟩,⟨W,L,S,m.toNat,V,H⟩,?_,⟨y,z,E,s,F,D,by show m.toNat<_;omega⟩⟩;apply bbQ;rw[e,f,u];show _=dg.cells _ _;unfold dg.cells;rw[show((m.toNat:Nat):Int)=m from bfz t.1];rfl
def aTg(w:World)(q:Nat)(e:TypeId):Prop:=∃ cur a,w.heap[q]? =some (.cells cur e a)
structure axr(w:World)(aQ:Nat)(A:Option Addr)(n:Nat):Prop where
 row:∀ q∈τ.ai A,aQ<=q/\∃ cur:List Value,aO w q cur 43 (0,0)/\∀ i,i<n->∃ m:Int,cur[j7 A+i*6+0]? =some (.int .i64 m)
 Y:0<n->A=some ⟨fv A,j7 A,none⟩
section
variable{w w':World}{aQ k n c i:Nat}{A:Option Addr}{S:List Nat}{T:List gV}
def axs(w:World)(aQ:Nat)(T:List gV):Prop:=∀(i:Nat) (v:gV),T[i]? =some v->axr w aQ v.a v.n/\v.n<=9223372036854775807
def aUx(aQ:Nat)(T:List gV)(k:Nat)(A:Option Addr)(n c:Nat)(w:World):Prop:=axs w aQ T/\T[k]? =some (⟨A,n,c⟩:gV)
end
def aUh(a w:World):Prop:=Ext a w
structure aUc(h:mz):Prop where
 a2y:∀ q∈bF.G h.a,q∈τ.ai h.A->False
 agc:∀ q∈bF.G h.a,q∈τ.ai h.B->False
 a2z:∀ q∈bF.G h.a,q∈τ.ai h.C->False
 a2B:∀ q∈bF.G h.a,q∈lK (h.U.map bU.jy++h.T)->False
 aS3:∀ q∈τ.ai h.A,q∈lK (h.U.map bU.jy++h.T)->False
 aTe:∀ q∈τ.ai h.B,q∈lK (h.U.map bU.jy++h.T)->False
 aTl:∀ q∈τ.ai h.C,q∈lK (h.U.map bU.jy++h.T)->False
 AC:∀ q∈τ.ai h.A,q∈τ.ai h.C->False
 aTd:∀ q∈τ.ai h.B,q∈τ.ai h.C->False
end
section
variable{x:dg}{c:kb}{m:Nat}
open fg
def aBu(x:dg)(c:kb):(vP x c).j6=x.j6:=by unfold vP;split;rfl;split<;>rfl
def aBx(h:c.O≠3)(a:c.O=1\/c.O=2\/c.O=3):(vP x c).eR=x.eR/\(vP x c).V=x.V:=by
 unfold vP;split
 .exact⟨Z,Z⟩
 .rw[bap GE];exact⟨Z,Z⟩
def aBw(h:Ea x c):(c.O == 2)= !decide (An x c=hY []):=by
 by_cases a:c.O=2
 .have d:=(NA (NH (ake a h).2).1).1;have b:¬An x c=hY []:=λ e=>by
   rw[aa0 a,Sh d]at e;have:=bbh ByteArray.size e;rw[kO.RL]at this;exact absurd this (by show ¬_+4=0;omega)
  rw[baA b,a];rfl
 .have b:An x c=hY []:=by unfold An;rw[ban a];rfl
  rw[baG b];simpa using a
def aOy(a b:mz)(x y:dg)(w:World)(d:dg.fd w a x)(c:dg.fd w b y)(e:x=y):Calls prog 6 #[.agg (dg.cells a x).toArray,.agg (dg.cells b y).toArray] w (λ e w'=>e=.returned (.bool true)/\Ext w w'):=by
 subst e;exact aOx a b x w d c
def aOC(A a:Option Addr)(c d m n:Nat)(V U:List Nat)(w:World)(f:dY.ce.aF 4 w A c V)(b:dY.ce.aF 4 w a d U)(e:m=n/\V=U):Calls prog 8 #[.agg #[.int .u32 (m:Int),.slice A V.length c],.agg #[.int .u32 (n:Int),.slice a U.length d]] w (λ e w'=>e=.returned (.bool true)/\Ext w w'):=by
 obtain⟨rfl,rfl⟩:=e;exact aso A c a d m V w f b
def b9.aBh(h:m<4294967296):b9.diff m m=0:=by
 unfold b9.diff;rw[show(BitVec.ofNat 32 m &&& ~~~BitVec.ofNat 32 m)=0#32 by simp];rfl
def anm{k:Int}{n:Nat}{V U:List Nat}{b:Bool}{o:Int}(h:k≠3->n=m/\V=U)(c:b9.diff m m=0):(((k == 3) || ((((b9.diff m n:Nat):Int)== 0) && true)) && (b == b) && (o == o))=true:=by
 by_cases a:k=3
 .simp[a]
 .rw[(h a).1,c];simp
theorem aHN(l:mz)(h:dg)(f:kb)(w:World)(t:dg.fd w l h)(O:f.o.ok):
  Calls prog 3 #[.agg ((dg.cells l h).toArray),.agg #[J f.O,J f.o.by_,J f.o.O,J f.o.H,J f.o.an.x,J f.o.an.y,J f.o.Y,J f.by_,J f.sat]] w (λ e w'=>e=.returned (.bool true)/\Ext w w'):=by
 refine bT (n:=73) func3 Z Z Z ?_;refine cZ Z Z λ ch a6 Q cY b=>?_;have gp:=b.lt;refine gz Z Z λ dr b_ G fl i=>?_;have H:=Φ Q G;have j8:=i.lt;refine aG Z<|ar<|?_;have b:=b.O G;refine κ (aq Z (b.all kQ gC))<|κ (aq Z (i.all aDL aDM))<|ca abl Z Z ((adi l h f _ (t.be H) O).mono ?_);rintro e rH ⟨Dt,aa,u,p,rfl,B,g,r⟩;refine cR ?_;have:=r.size;have U:=Φ H r;have F:=b4 g.lt;refine vm Z<|bL Z Z<|bL Z Z<|bL Z Z<|cy L5 Z λ C7 ad m ab d=>?_;have X:=Φ U m;refine st Z Z d Z gC Z Z Z λ C8 o d=>?_;have Y:=Ext.H X o bn;refine va Z<|aG Z<|av<|ar<|cf ak1 Z (anP _) λ zq j=>?_;have M:=Φ Y j;refine κ (dj Z)<|vm Z<|iC Z Z Z<|vm Z<|iC Z Z Z<|cV Z Z<|κ (uZ Z Z)<|ax<|?_;refine fr Z (λ z=>?_) (λ z=>?_)
 .obtain⟨_,_,su,P⟩:=B.resolve_left λ k=>absurd k.1 (by simpa using z);refine ar<|cf ak1 Z (anP _) λ Bo y=>?_;have L:=Φ M y;refine vm Z<|iC Z Z Z<|?_;have d:=d.O (Φ j y);refine κ (aq Z (d.all kQ gC))<|iC Z Z Z<|?_;have b:=((b.O (Φ r m)).H o aJ).O (Φ j y);refine κ (aq Z (b.all kQ gC))<|iC Z Z Z<|?_;have g:=((g.O m).H o (bV F)).O (Φ j y);refine cf aDN Z (aOy u l p h _ g.bv (t.be L) su) λ wN V=>?_;have W:=Φ L V;refine κ (pH Z Z)<|vm Z<|iC Z Z Z<|vm Z<|iC Z Z Z<|κ (azd underlying9 Z Z)<|κ (pH Z Z)<|bc Z<|bR<|b3 Z Z<|?_;exact⟨Xp (by rw[P];rfl),W⟩
 .obtain⟨_,K,T,S⟩:=B.resolve_right λ k=>k.1 (by simpa using z);obtain⟨E,sk⟩:=aBt (dY.aqo t.V) K;have A:=λ k=>aBx (x:=h) (c:=f) k sk;have C:=aBu h f;have D:=aBw K;rw[<-T]at E A C;rw[<-S]at D;refine bf<|ar<|κ (aj s9 Z)<|κ (aj r4 Z)<|?_;have b:=((b.O (Φ r m)).H o aJ).O j;refine a1 Z b ob Z<|κ (aj s9 Z)<|κ (aj r4 Z)<|?_;have d:=d.O j;refine a1 Z d ob Z<|κ (R2 Z Z)<|aG Z<|ar<|κ (aq Z (d.all kQ gC))<|?_;have g:=((g.O m).H o (bV F)).O j;refine cf aDO Z (aN0 u p _ g.bv (λ q I=>(g.W.lt q I).2) E) λ Bp s=>?_;have N:=Φ M s;refine κ (beq Z Z)<|vm Z<|iC Z Z Z<|κ (aj abk Z)<|iC Z Z Z<|?_;have i:=((i.O (Φ r m)).H o aJ).O (Φ j s);refine a1 Z i aH Z<|iC Z Z Z<|κ (beq Z Z)<|iC Z Z Z<|vm Z<|er Z Z<|aR Z (λ a=>beq (gt a Z) Z)<|Bk Z (λ a=>(gt a Z))<|dV Z Z Z Z (λ a=>aj s9 Z) Z<|?_;have d:=d.O s;refine dV Z Z Z Z (λ a=>aq (gt a Z) (d.Y [.int .u32 (p.eR:Int),.slice u.C p.V.length u.e] oc ky Z)) Z<|dV Z Z Z Z (λ a=>aj s9 Z) Z<|?_;have b:=b.O s;refine dV Z Z Z Z (λ a=>aq (gt a Z) (b.Y [.int .u32 (h.eR:Int),.slice l.C h.V.length l.e] oc ky Z)) Z<|?_;have g:=g.O s;refine af7 Z Z Z Z ak0 (λ a=>b6 (gt a Z) (b6 (gt a Z) Z)) (λ a=>aOC _ _ _ _ _ _ p.V h.V _ g.V.bv (t.V.be N) (A (by have k:=a;simp only[cb]at k;omega))) Z λ rJ v=>?_;have R:=Φ N v;refine aR Z (λ a=>E7 a (gt a Z) Z Z)<|iC Z Z Z<|κ (dS Z Z Z Z)<|κ (pH Z Z)<|vm Z<|aR Z (λ a=>aj abk Z)<|?_;have i:=i.O v;refine aR Z (λ a=>aq (gt a Z) (i.one aH Z))<|aR Z (λ a=>beq (gt a Z) Z)<|er Z Z<|aR Z (λ a=>azc underlying9 (gt a Z) Z)<|aR Z (λ a=>T9 underlying4 (gt a Z) (gt a Z))<|κ (cQ Z Z Z Z)<|vm Z<|aR Z (λ a=>aj I8 Z)<|?_;have d:=d.O v;refine aR Z (λ a=>aq (gt a Z) (d.one aH Z))<|aR Z (λ a=>aj I8 Z)<|?_;have b:=b.O v;refine aR Z (λ a=>aq (gt a Z) (b.one aH Z))<|aR Z (λ a=>beq (gt a Z) (gt a Z))<|κ (cQ Z Z Z Z)<|bc Z<|b3 Z Z<|?_;exact⟨Xp (by rw[D,C];exact anm A (b9.aBh t.m)),R⟩
theorem a3Z(c:Array Value)(c1:Array Value)(w:World)(f:(.cons (.cons (.cons (.cons (.int .i64) (.cons (.int .i64) (.cons (.slice (.int .i64) 8) .nil))) (.cons (.slice (.cons (.int .i64) (.cons (.int .i64) .nil)) 16) (.cons (.slice (.int .i64) 8) (.cons (.slice (.int .i64) 8) (.cons (.slice (.cons (.int .i64) (.cons (.int .i64) (.cons (.int .i64) (.cons (.cons (.int .i64) (.cons (.int .i64) .nil)) (.cons (.int .i64) (.cons (.int .i64) .nil)))))) 56) (.cons (.int .i64) (.cons (.int .i64) .nil))))))) (.cons (.slice (.slice (.cons (.int .i64) (.cons (.int .i64) (.cons (.int .i64) (.cons (.cons (.int .i64) (.cons (.int .i64) .nil)) (.cons (.int .i64) .nil))))) 48) 24) .nil)) (.cons (.slice (.cons (.slice (.cons (.int .i64) (.cons (.int .i64) (.cons (.int .i64) (.cons (.cons (.int .i64) (.cons (.int .i64) .nil)) (.cons (.int .i64) .nil))))) 48) (.cons (.int .i64) (.cons .bool .nil))) 40) (.cons (.cons (.int .u32) (.cons (.slice (.int .u32) 4) .nil)) (.cons (.int .i64) .nil))):hg).jF w c.toList)(g:(.cons (.int .i64) (.cons (.cons (.int .i64) (.cons (.int .i64) (.cons (.int .i64) (.cons (.cons (.int .i64) (.cons (.int .i64) .nil)) (.cons (.int .i64) .nil))))) (.cons (.int .i64) (.cons (.int .i64) .nil))):hg).jF w c1.toList):
  Calls prog 3 #[.agg c,.agg c1] w λ e w'=>e=.returned (.bool true)/\Below w.heap.size w w':=by
 obtain⟨i,d,rfl,j⟩:=aHO f;obtain⟨b,h,a⟩:∃ b:kb,c1.toList=b.cells/\b.ok:=kb.opens w _ (show kb.sh.jF w c1.toList from g);have k:c1=b.cells.toArray:=by rw[<-h]
 subst k;exact aHN i d b w j ⟨a.2.1,a.2.2.1,a.2.2.2.1,a.2.2.2.2.1,a.2.2.2.2.2.1,a.2.2.2.2.2.2.1⟩
end
end Go.Proofs.YtooonebcoaleiaaGreat
