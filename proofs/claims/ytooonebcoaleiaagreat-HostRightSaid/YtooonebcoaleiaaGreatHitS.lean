import Derived.Test.YtooonebcoaleiaaGreatPts
set_option linter.all false
set_option maxRecDepth 100000
set_option maxHeartbeats 4000000
open Go.RowKit
namespace Go.Proofs.YtooonebcoaleiaaGreat
open Tryz
abbrev ba7:=@List.take_length
abbrev bbZ:=@List.foldl_append
abbrev bco:=@List.length_reverse
abbrev bcp:=@List.find?_eq_some_iff_getElem
abbrev bcG:=@Go.Lib.run_eql_slice_nil
abbrev bfq:=@List.getElem_reverse
section
namespace zX
section
variable{α:Type}[Inhabited α]{l:List α}{k i:Nat}
def l6(l:List α):Nat->List α
 | 0=>l
 | k+1=>dh.swp (l6 l k) k (l.length-1-k)
def Kq:(l6 l k).length=l.length:=by
 induction k with
 | zero=>rfl
 | succ k a=>rw[l6,dh.oT,a]
def aOo:∀ k,2*k<=l.length+1->(l6 l k).Perm l:=by
 intro k;induction k with
 | zero=>intro _;exact beV _
 | succ k a =>
  intro b;rw[l6];exact(dh.HP (by rw[Kq];omega) (by rw[Kq];omega)).trans (a GE)
theorem aOn:∀ k,2*k<=l.length->∀ i,i<l.length->(l6 l k).getD i default=if i<k\/l.length-1-i<k then l.getD (l.length-1-i) default else l.getD i default:=by
 intro k;induction k with
 | zero=>intro _ i _;rw[ban GE];rfl
 | succ k a =>
  intro f i e;have g:=Kq (l:=l) (k:=k);rw[l6,dh.swp_get GE GE];by_cases b:i=l.length-1-k
  .rw[bap b,a GE k GE,ban GE,bap GE];congr 1;omega
  .rw[ban b];by_cases c:i=k
   .rw[bap c,a GE _ GE,ban GE,bap GE];congr 1;omega
   .rw[ban c,a GE i e];by_cases d:i<k\/l.length-1-i<k
    .rw[bap d,bap GE]
    .rw[ban d,ban GE]
def aOm(h:(l.length:Int)-1<=2*(k:Int))(c:2*k<=l.length):l6 l k=l.reverse:=by
 refine List.ext_getElem (by rw[Kq,bco]) λ i a d=>?_;rw[Kq]at a;have b:=aOn k c i a;rw[bfq];have e:(l6 l k).getD i default=(l6 l k)[i]'(by rw[Kq];exact a):=by rw[baa,bac];rfl
 rw[<-e,b];split
 .rw[baa,bac GE];rfl
 .rw[baa,bac a];have:l.length-1-i=i:=GE
  simp only[bbq,this]
end
end zX
end
theorem ar7(A:Option Addr)(c aQ:Nat)(l:List aw)(w:World)(o:aw.ce.aM 41 16 w aQ (τ.ai A) A c (l))(E:∀ y∈l,y.ok):
  Calls prog 163 #[.slice A l.length c] w (λ e w'=>e=.returned (.tuple #[])/\aw.ce.aM 41 16 w' aQ (τ.ai A) A c (l.reverse)/\Mod (τ.ai A) w w'):=by
 have T:=o.bv.M;refine bT (n:=28) func163 Z Z Z ?_;refine aC Z<|κ (bY underlying25 Z)<|κ (hi Z Z dK)<|va Z<|aG Z<|bp<|?_;refine di (λ D C j=>∃ k:Nat,∃ a:Int,C=[(0,.slice A l.length c),(2,J (k:Int)),(3,J a)]/\D=(l.length-k)/\Mod (τ.ai A) w j/\aw.ce.aM 41 16 j aQ (τ.ai A) A c (zX.l6 l k)/\(a=(l.length:Int)-1-(k:Int))/\(2*k<=l.length)) _ _ ⟨0,((l.length:Int)-1),Z,Z,(Mod.U (τ.ai A) w),o,GE,GE⟩ (.cons Z (.cons (xE Z) (c' Z Z Z))) ?_;rintro O N V ⟨k,a,rfl,rfl,p,b,P,U⟩;have S:(zX.l6 l k).length=l.length:=zX.Kq;have m:∀ y∈zX.l6 l k,y.ok:=λ y B=>E y ((zX.aOo k GE).subset B);refine av<|aC Z<|vm Z<|cF Z Z<|ax<|?_;refine c7 Z (λ K=>?_) (λ K=>?_)
 .refine bf<|av<|bp<|?_;refine c_ [(7,0),(11,0),(13,3),(15,3)] [0,1,2,3,4,5,6,7,8,9,10,11,12,13,14,15] ?_;refine bt Z Z<|bt Z Z<|bt Z Z<|bt Z Z<|bt Z Z<|bt Z Z<|aA Z (λ _=>bD a.toNat underlying25 bq Z Z (b.bv.Y (aL a.toNat (by first|omega|(rw[bak];omega)))) GE (by first|omega|(rw[bak];omega)))<|dE Z (λ _ x=>aq Z (τ.aF.G ng ((b.O x).bv.O (aL a.toNat (by first|omega|(rw[bak];omega)))) (cg (l:=zX.l6 l k) (u:=default) (by first|omega|(rw[bak];omega))) bS bq))<|bt Z Z<|bt Z Z<|aA Z (λ _=>bD k underlying25 bq Z Z (b.bv.Y (aL k (by first|omega|(rw[bak];omega)))) Z (by first|omega|(rw[bak];omega)))<|dE Z (λ _ x=>aq Z (τ.aF.G ng ((b.O x).bv.O (aL k (by first|omega|(rw[bak];omega)))) (cg (l:=zX.l6 l k) (u:=default) (by first|omega|(rw[bak];omega))) bS bq))<|aA Z (λ _=>bD k underlying25 bq Z Z (b.bv.Y (aL k (by first|omega|(rw[bak];omega)))) Z (by first|omega|(rw[bak];omega)))<|en Z Z Z λ zt t Q f=>RP (q':=(zX.l6 l k).getD a.toNat default) (i:=k) (b.O t) τ.O (by first|omega|(rw[bak];omega)) Z Z Z Z (λ _=>⟨Z,(m _ (gZ GE))⟩) bq λ X z g=>f _ _ ?_;have H:=p.trans (Mod.O t);have G:=H.Y z (λ q I=> .inl I);refine aA Z (λ _=>bD a.toNat underlying25 bq Z Z (g.bv.Y (aL a.toNat (by first|omega|(rw[bak];omega)))) GE (by first|omega|(rw[bak];omega)))<|en Z Z Z λ W r Q f=>RP (q':=(zX.l6 l k).getD k default) (i:=a.toNat) (g.O r) τ.O (by first|omega|(rw[bak];omega)) Z Z Z Z (λ _=>⟨Z,(m _ (gZ GE))⟩) bq λ R v d=>f _ _ ?_;have F:=G.trans (Mod.O r);have M:=F.Y v (λ q I=> .inl I);refine fn λ Y s=>?_;have L:=M.trans (Mod.O s);refine bK<|a7<|rg<|vm Z<|fb Z Z<|vm Z<|κ (hi Z Z dK)<|va Z<|va Z<|nl<|?_;have d:=d.O s;exact oR _ _ ⟨k+1,(a-1),Z,Z,L,(by have h:=d;rw[show a.toNat=l.length-1-k by omega]at h;exact h),GE,GE⟩ GE (.cons Z (.cons (xE Z) (c' Z Z Z)))
 .refine cI<|cH<|cU<|cG<|ne<|cJ .nil<|?_;exact⟨Z,by have h:=b;rw[zX.aOm GE GE]at h;exact h,p⟩
section
def axB:yp prog aw.cells 41 :=by
 intro a b w;obtain⟨a0,dQ⟩:=a;obtain⟨z8,hh⟩:=b;simp only[aw.cells,aw.mk.injEq];constructor
 .go_simp
  repeat' split
  all_goals simp_all
 .go_simp
  repeat' split
  all_goals simp_all
def axA:(prog).eqGuardType (prog).depth 41 =false:=GT
def axz:dU prog aw.ce 25 41 16:=dU.O (z:=aw.zero) (k:=2) underlying25 aw.G rfl rfl GP aw.M
section
variable{f:aE}{a b c cv:aw}{aD:aw->Int}{out L:List aw}{j:Nat}
def ayF(p q r:Bool):p=false\/(p=true/\q=false)\/(p=true/\q=true/\r=false)\/(p=true/\q=true/\r=true):=by cases p<;>cases q<;>cases r<;>simp
def aMH(h:∀ i,i<4->(f.ground ((dG c).getD i default) && decide (0<=aD ((dG c).getD i default)) && decide (aD ((dG c).getD i default)+f.iz c=aD c))=false):nX f aD c=c:=by
 have e:(dG c).find? (λ n=>f.ground n && decide (0<=aD n) && decide (aD n+f.iz c=aD c))=none:=by
  rw[bbu];intro x b;obtain⟨i,a,rfl⟩:=bbf.1 b;have:=h i a;rw[p6 a]at this;rw[this];decide
 unfold nX;rw[e];rfl
theorem aMG(d:j<4)(h:∀ i,i<j->(f.ground ((dG c).getD i default) && decide (0<=aD ((dG c).getD i default)) && decide (aD ((dG c).getD i default)+f.iz c=aD c))=false)(b:(f.ground ((dG c).getD j default) && decide (0<=aD ((dG c).getD j default)) && decide (aD ((dG c).getD j default)+f.iz c=aD c))=true):nX f aD c=(dG c).getD j default:=by
 have e:(dG c).find? (λ n=>f.ground n && decide (0<=aD n) && decide (aD n+f.iz c=aD c))=some ((dG c).getD j default):=by
  have g:(dG c).length=4:=rfl;rw[bcp];refine⟨b,j,GE,(p6 GE).symm,λ i a=>?_⟩;have:=h i a;rw[p6 GE]at this;simp only[this];rfl
 unfold nX;rw[e];rfl
def at7(f:aE)(b:aw->Int)(a:aw)(n:Nat)(c:aw):[c]++(Ac f b a n c).tail=Ac f b a n c:=by
 cases n with
 | zero=>rfl
 | succ n=>unfold Ac;split<;>rfl
def aRu(h:out++(hq f aD a c).tail=L)(b:hq f aD a c=c::hq f aD a cv):(out++ [cv])++(hq f aD a cv).tail=L:=by
 rw[b,List.tail_cons]at h;rw[baO,show[cv]++(hq f aD a cv).tail=hq f aD a cv from at7 _ _ _ _ _];exact h
theorem aRv(h:q6 f a aD):∀ {c:aw},0<=aD c->((hq f aD a c).length:Int)<=aD c+1:=by
 have key:∀ n:Nat,∀ c,0<=aD c->(aD c).toNat=n->((hq f aD a c).length:Int)<=aD c+1:=by
  intro n;induction n using Nat.strongRecOn with
  | ind n e =>
   intro c b j;by_cases d:c=a
   .subst d;rw[Fs h,h.zero];simp
   .obtain⟨k,l,g,m⟩:=h.O b d;have i:=f.Y (c:=c);have:=e (aD (nX f aD c)).toNat GE _ g rfl;rw[Ft h b d,baj];omega
 exact λ{c} b=>key _ c b Z
end
theorem aMv(f:aE)(a b:aw)(P:Option Addr)(d:Nat)(w:World)(q:bN.aF 8 w P d f.G)(k:jd f a b≠0):
  Calls prog 132 #[.agg #[J f.O,J f.high,.slice P f.G.length d],.agg #[J a.x,J a.y],.agg #[J b.x,J b.y]] w (λ e w'=>e=.returned (.tuple #[.slice none 0 0,J 0,J (jd f a b)])/\Ext w w'):=by
 have l:(jd f a b != 0)=true:=by simpa using k
 refine bT (n:=107) func132 Z Z Z ?_;refine cZ Z Z λ x t m v h=>?_;refine gz Z Z λ y u i A c=>?_;have p:=Φ m i;refine gz Z Z λ B z g D o=>?_;have j:=Φ p g;refine va Z<|va Z<|aG Z<|ar<|?_;have h:=h.O (Φ i g);refine κ (aq Z (h.all gA gB))<|?_;have c:=c.O g;refine κ (aq Z (c.all bS bq))<|κ (aq Z (o.all bS bq))<|cf alc Z (aMN f a b P d _ (q.be j) k) λ C r=>?_;have s:=Φ j r;refine vm Z<|bL Z Z<|bL Z Z<|va Z<|aG Z<|av<|aC Z<|cV Z Z<|ax<|fB (iJ Z l)<|aC Z<|va Z<|va Z<|bc Z<|?_;refine bR<|cJ (.tmp Z (.tmp Z (.tmp Z .nil)))<|?_;exact⟨Z,s⟩
theorem aMw(f:aE)(a b:aw)(P:Option Addr)(K:Nat)(w:World)(S:bN.aF 8 w P K f.G)(o:f.br=0)(ga:f.ground a=true)(yS:f.ground b=true)(py:0<=dJ f a b b):
  Calls prog 132 #[.agg #[J f.O,J f.high,.slice P f.G.length K],.agg #[J a.x,J a.y],.agg #[J b.x,J b.y]] w (λ e w'=>∃ A c,e=.returned (.tuple #[.slice A (hq f (dJ f a b) a b).reverse.length c,J (dJ f a b b),J 0])/\aw.ce.aM 41 16 w' w.heap.size (τ.ai A) A c (hq f (dJ f a b) a b).reverse/\Ext w w'):=by
 obtain⟨g1,g2,g3,g4,g5,g6⟩:=aE.hB o;have AG:=aE.M o;have p8:=aE.K yS;obtain⟨_,_,hh,eZ,ig,yA⟩:=aE.idx o p8;refine bT (n:=107) func132 Z Z Z ?_;refine cZ Z Z λ ch a6 aV cY γ=>?_;have gp:=γ.lt;refine gz Z Z λ dr b_ bh fl t=>?_;have bo:=Φ aV bh;have j8:=t.lt;refine gz Z Z λ fx e_ cm oM s=>?_;have cj:=Φ bo cm;have wF:=s.lt;refine va Z<|va Z<|aG Z<|ar<|?_;have γ:=γ.O (Φ bh cm);refine κ (aq Z (γ.all gA gB))<|?_;have t:=t.O cm;refine κ (aq Z (t.all bS bq))<|κ (aq Z (s.all bS bq))<|ca alc Z Z ((aMP f a b P K _ (S.be cj) o ga yS py).mono ?_);rintro e mn ⟨p,F,A,M,c,far,l,rfl,u,h,bm,m,bz,dH⟩;refine cR ?_;have eM:=Φ cj dH;have Xe:=h.lt;have W:=b4 m.lt;obtain⟨bc,be,bg⟩:=lC o u.len p8;have CE:=λ c=>u.ay2 c;have Mj:=q6.Kb u py;refine vm Z<|bL Z Z<|bL Z Z<|va Z<|aG Z<|av<|aC Z<|cV Z Z<|ax<|ef Z<|bf<|ar<|?_;have s:=s.O dH;refine κ (aq Z (s.all bS bq))<|cT (e:=41) (cs:=[J b.x,J b.y]) Z (λ _=>GT) Z λ ow O8 oX bA tY=>?_;have fP:=Φ eM oX;have bB:=tY.lt;refine aG Z<|av<|ar<|?_;have s:=s.O oX;refine κ (aq Z (s.all bS bq))<|cy pk Z λ xX Ab ks bs mX=>?_;have lu:=Φ fP ks;refine ck Z Z mX Z bq Z Z λ sN lG mX=>?_;have ku:=Ext.H lu lG bn;refine ax<|bp<|?_;have tY:=(tY.O ks).H lG aJ;have OM:=aO.K (R:=aw.ce) (by_:=16) (B:=w.heap.size) (k:=[b]) tY [b.cells] rfl ⟨⟨rfl,b7.2 GE,b7.2 GE⟩,trivial⟩ Kx Kx GP GE;have qL:∀ q∈τ.ai (bd O8),q=O8:=λ q I=>bah.1 I;have t:=(t.O (Φ dH (Φ oX ks))).H lG aJ;have s:=(s.O ks).H lG aJ;have h:=(h.O (Φ oX ks)).H lG aJ;have m:=(m.O (Φ oX ks)).H lG (bV W);refine di (λ bJ bH H=>∃ c1:aw,∃ O:Nat,∃ V:List aw,∃ Q:Option Addr,∃ jH:Nat,bH=[(4,.pointer (bd b_)),(5,.pointer (bd e_)),(6,.slice none 0 0),(7,J 0),(8,J 0),(9,.pointer (bd p)),(11,.slice Q V.length jH),(12,.pointer (bd O))]/\bJ=(dJ f a b c1).toNat/\Ext w H/\aO H b_ [J a.x,J a.y] 41 (0,0)/\aO H e_ [J b.x,J b.y] 41 (0,0)/\aO H p [J f.O,J f.high,.slice P f.G.length K,J b.x,J b.y,.slice F far.length M,.slice A ((l:List cN).length) c] 253 (0,0)/\bN.aM 3 8 H fx.heap.size (τ.ai F) F M far/\aO H O [J c1.x,J c1.y] 41 (0,0)/\aw.ce.aM 41 16 H w.heap.size (τ.ai Q) Q jH V/\(a6<O)/\(b_<O)/\(e_<O)/\(p<O)/\(∀ q∈τ.ai F,q<O)/\(0<=dJ f a b c1)/\(V++(hq f (dJ f a b) a c1).tail=hq f (dJ f a b) a b)/\(w.heap.size<=O)/\(∀ q∈τ.ai Q,q=b_->False)/\(∀ q∈τ.ai Q,q=e_->False)/\(∀ q∈τ.ai Q,q=p->False)/\(∀ q∈τ.ai Q,q=O->False)/\(∀ q∈τ.ai Q,q∈τ.ai F->False)) _ _ ⟨b,Ab,[b],some ⟨O8,0,none⟩,1,Z,Z,ku,t,s,h,m,mX,OM,GE,GE,GE,GE,(λ q I=>by have:=W q I;omega),py,(by unfold hq;exact at7 _ _ _ _ _),GE,(λ q I G=>by (have:=qL q I;omega)),(λ q I G=>by (have:=qL q I;omega)),(λ q I G=>by (have:=qL q I;omega)),(λ q I G=>by (have:=qL q I;omega)),(λ q I G=>by (have:=qL q I;(have:=W q G;omega)))⟩ (qW Z) ?_;rintro CS a9 KI ⟨c1,O,V,Q,jH,rfl,rfl,pR,t,s,h,m,r,C,aU,aW,aT,bk,Qi,nR,nU,od,Ak,Cm,Cn,LW,yI⟩;have bv:=b4 m.lt;have Fj:=b4 C.lt;have au:∀ q∈τ.ai F,q=O->False:=λ q I G=>by have:=Qi q I;omega
 have qO:=aE.K (Mj.Y c1 nR);have ag:=Mj.Y c1 nR;obtain⟨_,_,bG,bI,bO,bP⟩:=aE.idx o qO;have aS:=f.Y (c:=c1);have sq:=arl o ag;have aR:=CE c1;have ae:V.length<=4801:=by have aa:=bbh List.length nU;rw[bam]at aa;have ab:=aRv Mj py;have ay:=CE b;omega
 refine av<|ar<|κ (aq Z (r.all bS bq))<|κ (aq Z (t.all bS bq))<|κ (Cb axB axA (p:=c1) (q:=a) Z Z)<|ax<|?_;refine dB Z (λ P_=>?_) (λ P_=>?_)
 .have EC:c1≠a:=by simpa using P_
  obtain⟨mi,nu,mj,uX⟩:=Mj.O nR EC;have Hl:=Ft Mj nR EC;refine bf<|av<|bp<|aC Z<|κ (aq Z (r.all bS bq))<|cf abv Z (ae2 w f P F A K M c p far l b c1 _ pR o S h) λ NP KY=>?_;have yi:=Φ pR KY;refine vm Z<|bL Z Z<|bL Z Z<|va Z<|aG Z<|av<|ar<|?_;have r:=r.O KY;refine κ (aq Z (r.all bS bq))<|cf ak9 Z (arD c1 _ (by first|omega|(dsimp only;omega))) λ NR ye=>?_;have vw:=Φ yi ye;refine vm Z<|ax<|bp<|?_;have eF:=(Φ KY ye);have t:=t.O eF;have s:=s.O eF;have h:=h.O eF;have m:=m.O eF;have r:=r.O ye;have C:=C.O eF;refine di (λ bJ bH H=>∃ j:Nat,bH=[(4,.pointer (bd b_)),(5,.pointer (bd e_)),(6,.slice none 0 0),(7,J 0),(8,J 0),(9,.pointer (bd p)),(11,.slice Q V.length jH),(12,.pointer (bd O)),(13,J (sJ f c1)),(32,.agg #[J c1.x,J c1.y]),(33,.agg #[J a.x,J a.y]),(34,.bool (!decide (c1=a))),(35,.tuple #[J (sJ f c1),.bool (f.ground c1)]),(36,.pointer (bd p)),(37,.agg #[J c1.x,J c1.y]),(38,.tuple #[J (sJ f c1),.bool (f.ground c1)]),(39,J (sJ f c1)),(40,.bool (f.ground c1)),(41,.agg #[J c1.x,J c1.y]),(42,.agg #[J c1.x,J (c1.y-1),J (c1.x-1),J c1.y,J (c1.x+1),J c1.y,J c1.x,J (c1.y+1)]),(43,J (j:Int))]/\bJ=4-j/\Ext w H/\aO H b_ [J a.x,J a.y] 41 (0,0)/\aO H e_ [J b.x,J b.y] 41 (0,0)/\aO H p [J f.O,J f.high,.slice P f.G.length K,J b.x,J b.y,.slice F far.length M,.slice A ((l:List cN).length) c] 253 (0,0)/\bN.aM 3 8 H fx.heap.size (τ.ai F) F M far/\aO H O [J c1.x,J c1.y] 41 (0,0)/\aw.ce.aM 41 16 H w.heap.size (τ.ai Q) Q jH V/\(j<=4)/\(∀ i,i<j->(f.ground ((dG c1).getD i default) && decide (0<=dJ f a b ((dG c1).getD i default)) && decide (dJ f a b ((dG c1).getD i default)+f.iz c1=dJ f a b c1))=false)) _ _ ⟨0,Z,Z,vw,t,s,h,m,r,C,GE,λ i ao=>GE⟩ (c' Z Z Z) ?_;rintro kE bF Fm ⟨j,rfl,rfl,nC,t,s,h,m,r,C,aB,iy⟩;have Xj:=t.lt;have br:=s.lt;have bE:=h.lt;have Bj:=b4 m.lt;have a2:=r.lt;have XV:=b4 C.lt;refine ar<|cF Z Z<|ax<|av<|?_;refine c7 Z (λ yV=>?_) (λ yV=>?_)
  .refine bf<|av<|bp<|ar<|?_;obtain⟨g,jt⟩:∃ g,(dG c1).getD j default=g:=⟨_,rfl⟩;have JE:=asJ (c:=c1) (j:=j) GE;rw[jt]at JE;refine κ (JO Z Z (arE c1 j GE jt _))<|cy pk Z λ bx bb z bl E=>?_;have K7:=Φ nC z;have aP:=E.lt;refine ck Z Z E Z bq Z Z λ KK y E=>?_;have:=y.size;have qA:=Ext.H K7 y bn;refine ax<|aC Z<|κ (aq Z (E.all bS bq))<|?_;have h:=(h.O z).H y aJ;refine cf abv Z (ae2 w f P F A K M c p far l b g _ qA o S h) λ NZ D=>?_;have:=D.size;have T:=Φ qA D;refine vm Z<|bL Z Z<|bL Z Z<|va Z<|aG Z<|av<|?_;rcases ayF (f.ground g) (decide (0<=dJ f a b g)) (((dJ f a b g)+(sJ f c1))== (dJ f a b c1))with L|⟨L,U⟩|⟨L,U,JP⟩|⟨L,U,JP⟩
   .have QB:(f.ground g && decide (0<=dJ f a b g) && decide (dJ f a b g+f.iz c1=dJ f a b c1))=false:=by rw[L];rfl
    refine c_ [(5,0),(7,0),(8,0),(10,0),(17,0),(19,0),(20,0),(22,0),(28,0),(30,0),(31,0),(33,0)] [0,1,2,3,4,5,6,7,8,9,10,11,12,13,14,15,16,17,18,19,20,21,22,23,24,25,26,27,28,29,30,31,32,33,34,35] ?_;refine aA rfl (λ _=>fW (iJ rfl L))<|bt rfl rfl<|d' rfl rfl<|d' rfl rfl<|d' rfl rfl<|lB rfl rfl<|d' rfl rfl<|lB rfl rfl<|c8 (v:=undef) (args:=[]) rfl rfl rfl rfl rfl rfl pn (λ d=>nomatch d) (λ d=>nomatch d) rfl<|d' rfl rfl<|lB rfl rfl<|d' rfl rfl<|aA rfl (λ _=>uZ rfl rfl)<|bt rfl rfl<|d' rfl rfl<|d' rfl rfl<|d' rfl rfl<|lB rfl rfl<|d' rfl rfl<|lB rfl rfl<|c8 (v:=undef) (args:=[]) rfl rfl rfl rfl rfl rfl pn (λ d=>nomatch d) (λ d=>nomatch d) rfl<|d' rfl rfl<|lB rfl rfl<|d' rfl rfl<|?_;refine d' rfl rfl<|d' rfl rfl<|d' rfl rfl<|d' rfl rfl<|lB rfl rfl<|d' rfl rfl<|lB rfl rfl<|c8 (v:=undef) (args:=[]) rfl rfl rfl rfl rfl rfl pn (λ d=>nomatch d) (λ d=>nomatch d) rfl<|d' rfl rfl<|lB rfl rfl<|d' rfl rfl<|aA rfl (λ _=>uZ rfl rfl)<|fn λ Sc yf=>?_;have BE:=Φ T yf;refine a7<|ef Z<|dP<|bK<|cW Z Z Z<|?_;have jP:=(Φ D yf);have t:=((t.O z).H y aJ).O jP;have s:=((s.O z).H y aJ).O jP;have h:=h.O jP;have m:=((m.O z).H y (bM λ q I G=>by have:=Bj q I;have:=W q I;omega)).O jP;have r:=((r.O z).H y aJ).O jP;have C:=((C.O z).H y (bV XV)).O jP;exact cM ⟨j+1,Z,Z,BE,t,s,h,m,r,C,GE,pC iy (by rw[jt];exact QB)⟩
   .have N:=aE.K L;obtain⟨WU,WV,WW⟩:=lC o u.len N;have QB:(f.ground g && decide (0<=dJ f a b g) && decide (dJ f a b g+f.iz c1=dJ f a b c1))=false:=by rw[L,U];rfl
    refine c_ [(5,0),(7,0),(8,0),(10,0),(17,0),(19,0),(20,0),(22,0),(28,0),(30,0),(31,0),(33,0)] [0,1,2,3,4,5,6,7,8,9,10,11,12,13,14,15,16,17,18,19,20,21,22,23,24,25,26,27,28,29,30,31,32,33,34,35] ?_;refine aA Z (λ _=>fW (iJ Z L))<|bt Z Z<|ft Z Z Z<|bC Z Z (λ d _=>cB Z)<|bC Z Z (λ d _=>aj rm Z)<|?_;have h:=h.O D;refine cu Z Z (λ d _ x=>aq Z ((h.O x).one et Z))<|ft Z Z Z<|?_;have E:=E.O D;refine cu Z Z (λ d _ x=>aq Z ((E.O x).all bS bq))<|c8 Z Z Z Z Z Z pn (λ d=>Z) (λ d _ x=>uY w f P F A K M c p far l b g _ (Φ T x) o S (h.O x) (by first|omega|(dsimp only;omega))) Z<|?_;have m:=((m.O z).H y (bM λ q I G=>by have:=Bj q I;have:=W q I;omega)).O D;have Ew:=(lC o u.len N).1;refine bC rfl rfl (λ d _=>bD ((g.y*f.O+g.x).toNat) underlying22 cO rfl rfl (m.bv.Y (aL ((g.y*f.O+g.x).toNat) GE)) (by (try simp only[cb]at d);omega) GE)<|cu rfl rfl (λ d _ x=>aq rfl (τ.aF.H ew ((m.O x).bv.O (aL ((g.y*f.O+g.x).toNat) GE)) (u.get o N) rfl aH))<|bC rfl rfl (λ d _=>iV rfl rfl)<|aA rfl (λ _=>pH rfl (iJ rfl U))<|bt rfl rfl<|d' rfl rfl<|d' rfl rfl<|d' rfl rfl<|lB rfl rfl<|d' rfl rfl<|lB rfl rfl<|c8 (v:=undef) (args:=[]) rfl rfl rfl rfl rfl rfl pn (λ d=>nomatch d) (λ d=>nomatch d) rfl<|d' rfl rfl<|lB rfl rfl<|d' rfl rfl<|d' rfl rfl<|d' rfl rfl<|d' rfl rfl<|d' rfl rfl<|lB rfl rfl<|d' rfl rfl<|lB rfl rfl<|c8 (v:=undef) (args:=[]) rfl rfl rfl rfl rfl rfl pn (λ d=>nomatch d) (λ d=>nomatch d) rfl<|d' rfl rfl<|?_;refine lB Z Z<|d' Z Z<|aA Z (λ _=>uZ Z Z)<|fn λ Se nA=>?_;have BG:=Φ T nA;refine a7<|ef Z<|dP<|bK<|cW Z Z Z<|?_;have pD:=(Φ D nA);have t:=((t.O z).H y aJ).O pD;have s:=((s.O z).H y aJ).O pD;have h:=h.O nA;have m:=m.O nA;have r:=((r.O z).H y aJ).O pD;have C:=((C.O z).H y (bV XV)).O pD;exact cM ⟨j+1,Z,Z,BG,t,s,h,m,r,C,GE,pC iy (by rw[jt];exact QB)⟩
   .have N:=aE.K L;obtain⟨WU,WV,WW⟩:=lC o u.len N;obtain⟨ak,al,am⟩:=lC o u.len qO;have ah:=CE g;have nj:=bbx U;have QB:(f.ground g && decide (0<=dJ f a b g) && decide (dJ f a b g+f.iz c1=dJ f a b c1))=false:=by rw[sq,bbG]at JP;rw[L,U,baA JP];rfl
    refine c_ [(5,0),(7,0),(8,0),(10,0),(17,0),(19,0),(20,0),(22,0),(28,0),(30,0),(31,0),(33,0)] [0,1,2,3,4,5,6,7,8,9,10,11,12,13,14,15,16,17,18,19,20,21,22,23,24,25,26,27,28,29,30,31,32,33,34,35] ?_;refine aA Z (λ _=>fW (iJ Z L))<|bt Z Z<|ft Z Z Z<|bC Z Z (λ d _=>cB Z)<|bC Z Z (λ d _=>aj rm Z)<|?_;have h:=h.O D;refine cu Z Z (λ d _ x=>aq Z ((h.O x).one et Z))<|ft Z Z Z<|?_;have E:=E.O D;refine cu Z Z (λ d _ x=>aq Z ((E.O x).all bS bq))<|c8 Z Z Z Z Z Z pn (λ d=>Z) (λ d _ x=>uY w f P F A K M c p far l b g _ (Φ T x) o S (h.O x) (by first|omega|(dsimp only;omega))) Z<|?_;have m:=((m.O z).H y (bM λ q I G=>by have:=Bj q I;have:=W q I;omega)).O D;have Ew:=(lC o u.len N).1;refine bC Z Z (λ d _=>bD ((g.y*f.O+g.x).toNat) underlying22 cO Z Z (m.bv.Y (aL ((g.y*f.O+g.x).toNat) GE)) (by (try simp only[cb]at d);omega) GE)<|cu Z Z (λ d _ x=>aq Z (τ.aF.H ew ((m.O x).bv.O (aL ((g.y*f.O+g.x).toNat) GE)) (u.get o N) Z aH))<|bC Z Z (λ d _=>iV Z Z)<|aA Z (λ _=>pH Z (iJ Z U))<|bt Z Z<|ft Z Z Z<|bC Z Z (λ d _=>cB Z)<|bC Z Z (λ d _=>aj rm Z)<|cu Z Z (λ d _ x=>aq Z ((h.O x).one et Z))<|ft Z Z Z<|cu Z Z (λ d _ x=>aq Z ((E.O x).all bS bq))<|c8 Z Z Z Z Z Z pn (λ d=>Z) (λ d _ x=>uY w f P F A K M c p far l b g _ (Φ T x) o S (h.O x) (by first|omega|(dsimp only;omega))) Z<|bC Z Z (λ d _=>bD ((g.y*f.O+g.x).toNat) underlying22 cO Z Z (m.bv.Y (aL ((g.y*f.O+g.x).toNat) GE)) (by (try simp only[cb]at d);omega) GE)<|cu Z Z (λ d _ x=>aq Z (τ.aF.H ew ((m.O x).bv.O (aL ((g.y*f.O+g.x).toNat) GE)) (u.get o N) Z aH))<|ft Z Z Z<|bC Z Z (λ d _=>bad Z Z (mb (by (try simp only[cb]at d);omega)))<|ft Z Z Z<|bC Z Z (λ d _=>cB Z)<|bC Z Z (λ d _=>aj rm Z)<|cu Z Z (λ d _ x=>aq Z ((h.O x).one et Z))<|ft Z Z Z<|?_;have r:=((r.O z).H y aJ).O D;have Ew:=(lC o u.len qO).1;refine cu Z Z (λ d _ x=>aq Z ((r.O x).all bS bq))<|c8 Z Z Z Z Z Z pn (λ d=>Z) (λ d _ x=>uY w f P F A K M c p far l b c1 _ (Φ T x) o S (h.O x) (by first|omega|(dsimp only;omega))) Z<|bC Z Z (λ d _=>bD ((c1.y*f.O+c1.x).toNat) underlying22 cO Z Z (m.bv.Y (aL ((c1.y*f.O+c1.x).toNat) GE)) (by (try simp only[cb]at d);omega) GE)<|cu Z Z (λ d _ x=>aq Z (τ.aF.H ew ((m.O x).bv.O (aL ((c1.y*f.O+c1.x).toNat) GE)) (u.get o qO) Z aH))<|bC Z Z (λ d _=>beq Z Z)<|aA Z (λ _=>pH Z (iJ Z JP))<|fn λ Ya sQ=>?_;have FK:=Φ T sQ;refine a7<|ef Z<|dP<|bK<|cW Z Z Z<|?_;have JZ:=(Φ D sQ);have t:=((t.O z).H y aJ).O JZ;have s:=((s.O z).H y aJ).O JZ;have h:=h.O sQ;have m:=m.O sQ;have r:=r.O sQ;have C:=((C.O z).H y (bV XV)).O JZ;exact cM ⟨j+1,Z,Z,FK,t,s,h,m,r,C,GE,pC iy (by rw[jt];exact QB)⟩
   .have N:=aE.K L;obtain⟨WU,WV,WW⟩:=lC o u.len N;obtain⟨ak,al,am⟩:=lC o u.len qO;have ah:=CE g;have nj:=bbx U;have ai:nX f (dJ f a b) c1=g:=by rw[sq,ba9]at JP;rw[<-jt];exact aMG GE iy (by rw[jt,L,U,baG JP];rfl)
    rw[ai]at mi nu mj uX Hl;obtain⟨_,_,aX,aY,aZ,a0⟩:=aE.idx o N;have MT:=aRu nU Hl;refine c_ [(5,0),(7,0),(8,0),(10,0),(17,0),(19,0),(20,0),(22,0),(28,0),(30,0),(31,0),(33,0)] [0,1,2,3,4,5,6,7,8,9,10,11,12,13,14,15,16,17,18,19,20,21,22,23,24,25,26,27,28,29,30,31,32,33,34,35] ?_;refine aA Z (λ _=>fW (iJ Z L))<|bt Z Z<|ft Z Z Z<|bC Z Z (λ d _=>cB Z)<|bC Z Z (λ d _=>aj rm Z)<|?_;have h:=h.O D;refine cu Z Z (λ d _ x=>aq Z ((h.O x).one et Z))<|ft Z Z Z<|?_;have E:=E.O D;refine cu Z Z (λ d _ x=>aq Z ((E.O x).all bS bq))<|c8 Z Z Z Z Z Z pn (λ d=>Z) (λ d _ x=>uY w f P F A K M c p far l b g _ (Φ T x) o S (h.O x) (by first|omega|(dsimp only;omega))) Z<|?_;have m:=((m.O z).H y (bM λ q I G=>by have:=Bj q I;have:=W q I;omega)).O D;have Ew:=(lC o u.len N).1;refine bC Z Z (λ d _=>bD ((g.y*f.O+g.x).toNat) underlying22 cO Z Z (m.bv.Y (aL ((g.y*f.O+g.x).toNat) GE)) (by (try simp only[cb]at d);omega) GE)<|cu Z Z (λ d _ x=>aq Z (τ.aF.H ew ((m.O x).bv.O (aL ((g.y*f.O+g.x).toNat) GE)) (u.get o N) Z aH))<|bC Z Z (λ d _=>iV Z Z)<|aA Z (λ _=>pH Z (iJ Z U))<|bt Z Z<|ft Z Z Z<|bC Z Z (λ d _=>cB Z)<|bC Z Z (λ d _=>aj rm Z)<|cu Z Z (λ d _ x=>aq Z ((h.O x).one et Z))<|ft Z Z Z<|cu Z Z (λ d _ x=>aq Z ((E.O x).all bS bq))<|c8 Z Z Z Z Z Z pn (λ d=>Z) (λ d _ x=>uY w f P F A K M c p far l b g _ (Φ T x) o S (h.O x) (by first|omega|(dsimp only;omega))) Z<|bC Z Z (λ d _=>bD ((g.y*f.O+g.x).toNat) underlying22 cO Z Z (m.bv.Y (aL ((g.y*f.O+g.x).toNat) GE)) (by (try simp only[cb]at d);omega) GE)<|cu Z Z (λ d _ x=>aq Z (τ.aF.H ew ((m.O x).bv.O (aL ((g.y*f.O+g.x).toNat) GE)) (u.get o N) Z aH))<|ft Z Z Z<|bC Z Z (λ d _=>bad Z Z (mb (by (try simp only[cb]at d);omega)))<|ft Z Z Z<|bC Z Z (λ d _=>cB Z)<|bC Z Z (λ d _=>aj rm Z)<|cu Z Z (λ d _ x=>aq Z ((h.O x).one et Z))<|ft Z Z Z<|?_;have r:=((r.O z).H y aJ).O D;have Ew:=(lC o u.len qO).1;refine cu Z Z (λ d _ x=>aq Z ((r.O x).all bS bq))<|c8 Z Z Z Z Z Z pn (λ d=>Z) (λ d _ x=>uY w f P F A K M c p far l b c1 _ (Φ T x) o S (h.O x) (by first|omega|(dsimp only;omega))) Z<|bC Z Z (λ d _=>bD ((c1.y*f.O+c1.x).toNat) underlying22 cO Z Z (m.bv.Y (aL ((c1.y*f.O+c1.x).toNat) GE)) (by (try simp only[cb]at d);omega) GE)<|cu Z Z (λ d _ x=>aq Z (τ.aF.H ew ((m.O x).bv.O (aL ((c1.y*f.O+c1.x).toNat) GE)) (u.get o qO) Z aH))<|bC Z Z (λ d _=>beq Z Z)<|aA Z (λ _=>pH Z (iJ Z JP))<|fn λ KL X=>?_;have:=X.size;have oC:=Φ T X;refine a7<|fB Z<|ar<|?_;have E:=E.O X;refine κ (aq Z (E.all bS bq))<|?_;have r:=r.O X;refine ck Z Z r Z bq Z Z λ a3 Y r=>?_;have:=Y.size;have az:=Ext.H oC Y bn;refine ax<|cI<|KO Z<|cH<|cU<|cG<|a7<|rg<|vm Z<|κ (aq Z (r.all bS bq))<|cT (e:=41) (cs:=[J g.x,J g.y]) Z (λ _=>GT) Z λ X2 ba wQ bi ad=>?_;have De:=Φ az wQ;have a1:=ad.lt;have C:=((((C.O z).H y (bV XV)).O (Φ D X)).H Y (bM LW)).O wQ;refine ap axz τ.O C (aO.G (R:=aw.ce) (by_:=16) (q:=g) ad ⟨Z,⟨ea,ea⟩⟩ GP) Z Z (by have aF:=ae;simp only[baj,baq];omega) (by have aF:=ae;simp only[baj,baq];omega) GE Z λ a4 aI aM sC Tm U0 aN=>?_;have:=sC.size;have Sv:=Ext.H De sC (λ q I=>bay GE (C.lt q I).1);have af:=b4 Tm.lt;refine va Z<|nl<|bK<|a7<|ar<|?_;have r:=(r.O wQ).H sC (λ I=>LW _ I rfl);refine κ (aq Z (r.all bS bq))<|ax<|rg<|cy pk Z λ a5 aK KQ bj YT=>?_;have aD:=Φ Sv KQ;refine ck Z Z YT Z bq Z Z λ aQ J4 YT=>?_;have an:=Ext.H aD J4 bn;refine nl<|?_;have t:=(((((((t.O z).H y aJ).O (Φ D X)).H Y aJ).O wQ).H sC (λ I=>Ak _ I rfl)).O KQ).H J4 aJ;have s:=(((((((s.O z).H y aJ).O (Φ D X)).H Y aJ).O wQ).H sC (λ I=>Cm _ I rfl)).O KQ).H J4 aJ;have h:=(((((h.O X).H Y aJ).O wQ).H sC (λ I=>Cn _ I rfl)).O KQ).H J4 aJ;have m:=(((((m.O X).H Y (bM au)).O wQ).H sC (fa yI)).O KQ).H J4 (bM λ q I G=>by have:=Bj q I;have:=W q I;omega);have r:=(r.O KQ).H J4 aJ;have Tm:=(Tm.O KQ).H J4 (bV af);exact oR _ _ ⟨g,aK,V++ [g],aI,aM,Z,Z,an,t,s,h,m,YT,Tm,GE,GE,GE,GE,(λ q I=>by have:=Qi q I;omega),mj,MT,GE,(eh U0 Ak),(eh U0 Cm),(eh U0 Cn),(λ q I G=>by (have:=af q I;omega)),(λ q I G=>by (exact baC (U0 q I) (λ Hq=>by (exact yI q Hq G)) (λ Hq=>by (have:=Bj q G;have:=W q G;omega))))⟩ GE (qW Z)
  .exfalso;have ly:j=4:=GE
   rw[ly]at iy;exact aE.afF mi (aMH iy)
 .have EC:c1=a:=by simpa using P_
  refine cI<|cH<|cU<|cG<|a7<|aC Z<|ca ald Z Z ((ar7 _ _ w.heap.size V _ C (aw.C C.bv)).mono ?_);rintro e a8 ⟨rfl,Zy,Wv⟩;refine cR ?_;have Yr:=Ext.H pR Wv (λ q I=>(C.lt q I).1);refine ax<|av<|?_;refine c_ [(4,0),(6,0),(7,0),(9,0)] [0,1,2,3,4,5,6,7,8,9,10,11,12] ?_;refine bt Z Z<|bt Z Z<|aA Z (λ _=>cB Z)<|aA Z (λ _=>aj rm Z)<|?_;have h:=h.H Wv (λ I=>Cn _ I rfl);refine cr Z Z h et Z<|bt Z Z<|?_;have s:=s.H Wv (λ I=>Cm _ I rfl);refine dE Z (λ _ x=>aq Z ((s.O x).all bS bq))<|nQ Z Z pn Z (λ _ x=>uY w f P F A K M c p far l b b _ (Φ Yr x) o S (h.O x) (by first|omega|(dsimp only;omega))) Z<|?_;have m:=m.H Wv (fa yI);refine aA Z (λ _=>bD ((b.y*f.O+b.x).toNat) underlying22 cO Z Z (m.bv.Y (aL ((b.y*f.O+b.x).toNat) (by have bu:=(lC o u.len p8).1;omega))) GE (by have bu:=(lC o u.len p8).1;omega))<|dE Z (λ _ x=>aq Z (τ.aF.H ew ((m.O x).bv.O (aL ((b.y*f.O+b.x).toNat) (by have bu:=(lC o u.len p8).1;omega))) (u.get o p8) Z aH))<|aA Z (λ _=>fh Z)<|aA Z (λ _=>fh Z)<|aA Z (λ _=>fh Z)<|fn λ bw tQ=>?_;have K2:=Φ Yr tQ;refine a7<|rt<|cJ (.tmp Z (.tmp Z (.tmp Z .nil)))<|?_;have Zy:=Zy.O tQ;have MO:V=hq f (dJ f a b) a b:=by rw[EC,Fs Mj]at nU;simpa using nU
  exact⟨_,_,by rw[<-MO,bco];rfl,by rw[<-MO];exact Zy,K2⟩
end
section
section
variable{f:aE}{a b c x:aw}{dl far:List Int}{d:Int}
def ayv(f:aE):List aw:=(List.range f.high.toNat).flatMap λ(y:Nat)=>(List.range f.O.toNat).map λ(x:Nat)=>(⟨(x:Int),(y:Int)⟩:aw)
def aAr(f:aE)(a b:aw)(d far:List Int)(c:aw):Bool :=
 (decide (0<=f.aD d c) || decide (f.aD d c= -1)) &&
 (!decide (0<=f.aD d c) || (f.ground c && ((decide (c=a) && decide (f.aD d c=0)) || (dG c).any λ p=>decide (0<=f.aD d p) && decide (f.aD d c=f.aD d p+f.iz c)))) &&
 (!decide (0<=f.aD d c) || (f.dM c).all λ y=>decide (0<=f.aD d y) && decide (f.aD d y<=f.aD d c+f.iz y)) &&
 decide (f.aD far c=if 0<=f.aD d c/\(f.aD d b<0\/f.aD d c+aE.mE b c<=f.aD d b)then f.aD d c else -1) &&
 decide (f.aD d c<=3*(f.G.length:Int))
def aWc(f:aE)(a b:aw)(c far:List Int):Bool:=decide (far.length=f.G.length) && decide (f.aD c a=0) && (ayv f).all (aAr f a b c far)
end
theorem aMu(f:aE)(a b:aw)(P:Option Addr)(l:Nat)(w:World)(m:bN.aF 8 w P l f.G):
  Calls prog 132 #[.agg #[.int .i64 f.O,.int .i64 f.high,.slice P f.G.length l],.agg #[.int .i64 a.x,.int .i64 a.y],.agg #[.int .i64 b.x,.int .i64 b.y]] w (λ e w'=>∃ A c,e=.returned (.tuple #[.slice A (hW f a b).length c,.int .i64 (rp f a b),.int .i64 (jd f a b)])/\aw.ce.aM 41 16 w' w.heap.size (τ.ai A) A c (hW f a b)/\Ext w w'):=by
 by_cases d:jd f a b=0
 .rcases abM f a b with⟨i,g⟩|⟨i,g,k⟩|⟨i,g,k,j⟩|⟨i,g,k,j|j⟩
  .rw[g]at d;exact absurd d i
  .rw[k]at d;exact absurd d g
  .rw[j]at d;cases d
  .rw[j.2]at d;cases d
  .unfold hW rp;rw[bap d,bap d,d];exact aMw f a b P l w m i g k j.1
 .unfold hW rp;rw[ban d,ban d];exact(aMv f a b P l w m d).mono λ e w' h=>⟨none,0,h.1,τ.aM.nil _,h.2⟩
section
variable{f:aE}{a b:aw}{far:List Int}
end
end
theorem vN(A:Option Addr)(c:Nat)(l:List Int)(w:World)(h:bN.aF 8 w A c l):
  Calls prog 25 #[.slice A l.length c] w λ e w'=>∃ b' cn,e=.returned (.slice b' l.length cn)/\bN.aM 3 8 w' w.heap.size (τ.ai b') b' cn l/\(b'=none↔A=none)/\Below w.heap.size w w':=by
 obtain⟨i0,ao,sv,tx,tz⟩:=bc6 y5;have Xk:∀(w:World) (a:Option Addr) (n c ln cn:Nat),(binOp .eql 22 (.slice a n c) (.slice none ln cn)).run prog w=.ok (.bool a.isNone) w:=λ w a n c ln cn=>bcG w _ _ a n c ln cn underlying22;cases A with
 | none =>
  obtain rfl:c=0:=h.2.2.2.1 rfl;obtain rfl:l=[]:=baM (by have:=h.1;omega);go_enter func25,ntmps25;go_wp2_with fail
  go_ret;exact⟨none,0,Z,τ.aM.nil _,Kx,baL _ _⟩
 | some a =>
  have du:Below w.heap.size w (w.alloc (.cells #[] 3)):=(baL _ w).alloc (bao _) _;obtain⟨n,gx⟩:∃ n,Hid (l.length=n):=⟨_,bag rfl⟩;obtain⟨aa,ab,ay,ba,ess,b2,cL⟩:=h.be du;have BU:=bag b2;have ry:∀ u∈ess.flatten,u.oneCell'=true:=by
   intro u hu;obtain⟨y,aP,hu⟩:=bbv.1 hu;obtain⟨a,ha⟩:=b2.left y aP;exact bN.one ha u hu
  have tv:∀(j:Nat) u,ess.flatten[j]? =some u->bN.raw (j % bN.size) u:=λ j u hu=>Mb b2 GP hu;rw[gx.out]at aa ay cL;have eX:=bag cL;have k7:=bag (Own.empty (e:=3) (size:=bN.size) (G:=bN.raw) w (bao w.heap.size));clear h ba b2 cL;rw[gx.out];go_enter func25,ntmps25;go_wp2_with (at_builtin;refine N4 _ rfl _ _ 22 rfl w.heap.size 3 i0 (.int .i64 0) bN.size 8 underlying22 ao sv tx tz rfl GP bN.raw aR8 _ _ _ rfl k7.out (some a) n c ess.flatten rfl eX.out ry tv ?qc4 ?qc5 ?qc6 ?_)
  case qc4=>unfold maxLen;omega
  case qc5=>omega
  case qc6=>simp
  intro v' a8 gF lj pz hl;have dx:=du.grown lj Kx (by intro k au;simp[Value.ownBlock]at au;omega);obtain⟨cX,c1,rfl,hle,_,_,_,nj⟩:=gF.shape;have mF:cX≠none:=by
   intro h;subst h;exact pz (nj Z)
  have bI:Hid (bN.aM 3 8 a8 w.heap.size (τ.ai cX) cX c1 l):=bag (τ.aM.E5 ar4 BU.out (by rw[gx.out];exact ay) (by rw[gx.out];simpa using gF));have xa:=bag mF;clear lj pz hl gF mF nj ry tv;go_wp2_with fail
  go_ret;exact⟨cX,c1,Z,bI.out,⟨λ h=>absurd h xa.out,λ h=>by cases h⟩,dx⟩
theorem Ue(A:Option Addr)(c:Nat)(l:List aw)(w:World)(h:aw.ce.aF 16 w A c l):
  Calls prog 26 #[.slice A l.length c] w λ e w'=>∃ b' cn,e=.returned (.slice b' l.length cn)/\aw.ce.aM 41 16 w' w.heap.size (τ.ai b') b' cn l/\(b'=none↔A=none)/\Below w.heap.size w w':=by
 obtain⟨i0,ao,sv,tx,tz⟩:=bc6 aw.G;have Xk:∀(w:World) (a:Option Addr) (n c ln cn:Nat),(binOp .eql 25 (.slice a n c) (.slice none ln cn)).run prog w=.ok (.bool a.isNone) w:=λ w a n c ln cn=>bcG w _ _ a n c ln cn underlying25;cases A with
 | none =>
  obtain rfl:c=0:=h.2.2.2.1 rfl;obtain rfl:l=[]:=baM (by have:=h.1;omega);go_enter func26,ntmps26;go_wp2_with fail
  go_ret;exact⟨none,0,Z,τ.aM.nil _,Kx,baL _ _⟩
 | some a =>
  have du:Below w.heap.size w (w.alloc (.cells #[] 41)):=(baL _ w).alloc (bao _) _;obtain⟨n,gx⟩:∃ n,Hid (l.length=n):=⟨_,bag rfl⟩;obtain⟨aa,ab,ay,ba,ess,b2,cL⟩:=h.be du;have BU:=bag b2;have ry:∀ u∈ess.flatten,u.oneCell'=true:=by
   intro u hu;obtain⟨y,aP,hu⟩:=bbv.1 hu;obtain⟨a,ha⟩:=b2.left y aP;exact aw.ce.one ha u hu
  have tv:∀(j:Nat) u,ess.flatten[j]? =some u->aw.ce.raw (j % aw.ce.size) u:=λ j u hu=>Mb b2 GP hu;rw[gx.out]at aa ay cL;have eX:=bag cL;have k7:=bag (Own.empty (e:=41) (size:=aw.ce.size) (G:=aw.ce.raw) w (bao w.heap.size));clear h ba b2 cL;rw[gx.out];go_enter func26,ntmps26;go_wp2_with (at_builtin;refine N4 _ rfl _ _ 25 rfl w.heap.size 41 i0 aw.zero aw.ce.size 16 underlying25 ao sv tx tz rfl GP aw.ce.raw aw.M _ _ _ rfl k7.out (some a) n c ess.flatten rfl eX.out ry tv ?qc4 ?qc5 ?qc6 ?_)
  case qc4=>unfold maxLen;omega
  case qc5=>omega
  case qc6=>simp
  intro v' a8 gF lj pz hl;have dx:=du.grown lj Kx (by intro k au;simp[Value.ownBlock]at au;omega);obtain⟨cX,c1,rfl,hle,_,_,_,nj⟩:=gF.shape;have mF:cX≠none:=by
   intro h;subst h;exact pz (nj Z)
  have bI:Hid (aw.ce.aM 41 16 a8 w.heap.size (τ.ai cX) cX c1 l):=bag (τ.aM.E5 aw.plain BU.out (by rw[gx.out];exact ay) (by rw[gx.out];simpa using gF));have xa:=bag mF;clear lj pz hl gF mF nj ry tv;go_wp2_with fail
  go_ret;exact⟨cX,c1,Z,bI.out,⟨λ h=>absurd h xa.out,λ h=>by cases h⟩,dx⟩
theorem LQ(A:Option Addr)(c:Nat)(l:List bb)(w:World)(h:bb.ce.aF 56 w A c l):
  Calls prog 27 #[.slice A l.length c] w λ e w'=>∃ b' cn,e=.returned (.slice b' l.length cn)/\bb.ce.aM 68 56 w' w.heap.size (τ.ai b') b' cn l/\(b'=none↔A=none)/\Below w.heap.size w w':=by
 obtain⟨i0,ao,sv,tx,tz⟩:=bc6 bb.G;have Xk:∀(w:World) (a:Option Addr) (n c ln cn:Nat),(binOp .eql 26 (.slice a n c) (.slice none ln cn)).run prog w=.ok (.bool a.isNone) w:=λ w a n c ln cn=>bcG w _ _ a n c ln cn underlying26;cases A with
 | none =>
  obtain rfl:c=0:=h.2.2.2.1 rfl;obtain rfl:l=[]:=baM (by have:=h.1;omega);go_enter func27,ntmps27;go_wp2_with fail
  go_ret;exact⟨none,0,Z,τ.aM.nil _,Kx,baL _ _⟩
 | some a =>
  have du:Below w.heap.size w (w.alloc (.cells #[] 68)):=(baL _ w).alloc (bao _) _;obtain⟨n,gx⟩:∃ n,Hid (l.length=n):=⟨_,bag rfl⟩;obtain⟨aa,ab,ay,ba,ess,b2,cL⟩:=h.be du;have BU:=bag b2;have ry:∀ u∈ess.flatten,u.oneCell'=true:=by
   intro u hu;obtain⟨y,aP,hu⟩:=bbv.1 hu;obtain⟨a,ha⟩:=b2.left y aP;exact bb.ce.one ha u hu
  have tv:∀(j:Nat) u,ess.flatten[j]? =some u->bb.ce.raw (j % bb.ce.size) u:=λ j u hu=>Mb b2 GP hu;rw[gx.out]at aa ay cL;have eX:=bag cL;have k7:=bag (Own.empty (e:=68) (size:=bb.ce.size) (G:=bb.ce.raw) w (bao w.heap.size));clear h ba b2 cL;rw[gx.out];go_enter func27,ntmps27;go_wp2_with (at_builtin;refine N4 _ rfl _ _ 26 rfl w.heap.size 68 i0 bb.zero bb.ce.size 56 underlying26 ao sv tx tz rfl GP bb.ce.raw bb.M _ _ _ rfl k7.out (some a) n c ess.flatten rfl eX.out ry tv ?qc4 ?qc5 ?qc6 ?_)
  case qc4=>unfold maxLen;omega
  case qc5=>omega
  case qc6=>simp
  intro v' a8 gF lj pz hl;have dx:=du.grown lj Kx (by intro k au;simp[Value.ownBlock]at au;omega);obtain⟨cX,c1,rfl,hle,_,_,_,nj⟩:=gF.shape;have mF:cX≠none:=by
   intro h;subst h;exact pz (nj Z)
  have bI:Hid (bb.ce.aM 68 56 a8 w.heap.size (τ.ai cX) cX c1 l):=bag (τ.aM.E5 bb.plain BU.out (by rw[gx.out];exact ay) (by rw[gx.out];simpa using gF));have xa:=bag mF;clear lj pz hl gF mF nj ry tv;go_wp2_with fail
  go_ret;exact⟨cX,c1,Z,bI.out,⟨λ h=>absurd h xa.out,λ h=>by cases h⟩,dx⟩
section
variable{a:aw}{f:aE}
def aKl{b:aw}(h: -1000<=a.x/\a.x<=1000/\-1000<=a.y/\a.y<=1000)(c: -1000<=b.x/\b.x<=1000/\-1000<=b.y/\b.y<=1000):1<=(kk a b).length/\(kk a b).length<=2001/\(kk a b).length=(far a b).toNat+1:=by
 have d:=k0 (b.x-a.x);have e:=k0 (b.y-a.y);unfold kk;rw[Ki];unfold far;omega
def aE.clear(f:aE)(c:aw):Bool:= !(f.p1 c == 1 || f.p1 c == 2)
def Ad(f:aE)(a b:aw):Bool:=decide ((kk a b).length<3) || (((kk a b).drop 1).take ((kk a b).length-1-1)).all f.clear
def ayY{b:aw}(h:(kk a b).length<3):Ad f a b=true:=by unfold Ad;rw[baG h];rfl
def ay0{b:aw}(h:∀ i,i<(((kk a b).drop 1).take ((kk a b).length-1-1)).length->f.clear ((((kk a b).drop 1).take ((kk a b).length-1-1)).getD i default)=true):Ad f a b=true:=by
 unfold Ad;rw[baY];refine .inr (ba8.2 λ x d=>?_);obtain⟨i,c,rfl⟩:=bec d;have:=h i c
 rwa [baa,bac c]at this
def ayZ{b:aw}{k:Nat}(c:k<(((kk a b).drop 1).take ((kk a b).length-1-1)).length)(h:f.clear ((((kk a b).drop 1).take ((kk a b).length-1-1)).getD k default)=false):Ad f a b=false:=by
 unfold Ad;have d:¬(kk a b).length<3:=by rw[baf,bax]at c;omega
 rw[baA d,bdI];rw[bc9];refine⟨_,bbl c,?_⟩;rw[baa,bac c]at h;simpa using h
def aiv{c:aw}(h:f.eS c=0):0<=c.x/\c.x<40/\0<=c.y/\c.y<40:=by
 have b:f.br=0:=by
  cases e:decide (f.br=0)with
  | true=>simpa using e
  | false=>rw[(aE.Z5 (by simpa using e)).1]at h;exact h
 have a:=Z4 b h;unfold aE.dF at a;rw[bai]at a;have g:=j4 a.1;have i:=j4 a.2;unfold aE.br at b;split at b
 .rename_i d
  rw[bai]at d;have j:=j4 d.1;have k:=j4 d.2;omega
 .omega
def HM(f:aE)(a b:aw):Int:=if f.eS a≠0 then f.eS a else f.eS b
def RM(f:aE)(a b:aw):Bool:=if HM f a b≠0 then false else Ad f a b || Ad f b a
def Ku(f:aE)(a b:aw):Value:=.tuple #[.bool (RM f a b),J (HM f a b)]
def aOV{b:aw}(h:¬f.eS a=0):Ku f a b=.tuple #[.bool false,J (f.eS a)]:=by
 have e:HM f a b=f.eS a:=by unfold HM;rw[bap h]
 unfold Ku RM;rw[e,bap h]
def aOW{b:aw}(c:f.eS a=0)(h:¬f.eS b=0):Ku f a b=.tuple #[.bool false,J (f.eS b)]:=by
 have e:HM f a b=f.eS b:=by unfold HM;rw[ban (by simpa using c)]
 unfold Ku RM;rw[e,bap h]
def aOX{b:aw}(c:f.eS a=0)(h:f.eS b=0):Ku f a b=.tuple #[.bool (Ad f a b || Ad f b a),J 0]:=by
 have e:HM f a b=0:=by unfold HM;rw[ban (by simpa using c)];exact h
 unfold Ku RM;rw[e,ban Kx]
theorem aiG(f:aE)(a b:aw)(A:Option Addr)(c:Nat)(w:World)(T:bN.aF 8 w A c f.G)(h: -1000<=a.x/\a.x<=1000/\-1000<=a.y/\a.y<=1000)(ab: -1000<=b.x/\b.x<=1000/\-1000<=b.y/\b.y<=1000):
  Calls prog 187 #[.agg #[J f.O,J f.high,.slice A f.G.length c],.agg #[J a.x,J a.y],.agg #[J b.x,J b.y]] w (λ e w'=>e=.returned (.bool (Ad f a b))/\Ext w w'):=by
 refine bT (n:=45) func187 Z Z Z ?_;refine cZ Z Z λ ch y N cY d=>?_;refine gz Z Z λ dr b_ C fl q=>?_;have R:=Φ N C;refine gz Z Z λ U e_ r oM O=>?_;have S:=Φ R r;refine aG Z<|ar<|?_;have q:=q.O r;refine κ (aq Z (q.all bS bq))<|κ (aq Z (O.all bS bq))<|ca aDZ Z Z ((aAp a b _ GE GE).mono ?_);rintro e ow ⟨m,p,rfl,g,D⟩;refine cR ?_;have E:=Φ S D;have ae:=aKl (a:=a) (b:=b) GE GE;refine vm Z<|bL Z Z<|bL Z Z<|va Z<|aG Z<|av<|aC Z<|κ (bY underlying25 Z)<|cF Z Z<|ax<|?_;refine c7 Z (λ M=>?_) (λ M=>?_)
 .refine ar<|bc Z<|bR<|b3 Z Z<|?_;exact⟨by rw[ayY GE];rfl,E⟩
 .refine bf<|av<|aC Z<|vm Z<|κ (bY underlying25 Z)<|κ (hi Z Z dK)<|κ (aOt 1 ((kk a b).length-1) underlying25 bq Z Z Z Z GE GE (by have:=g.bv.1;omega))<|κ (bY underlying25 Z)<|vm Z<|ax<|bp<|?_;have d:=d.O (Φ C (Φ r D));refine di (λ Q P o=>∃ k:Nat,P=[(3,.pointer (bd y)),(26,.slice (fX m p 1 2) ((kk a b).length-1-1) (p-1)),(27,J ((((kk a b).length-1-1:Nat):Int))),(28,J (k:Int))]/\Q=(kk a b).length-1-1-k/\Ext w o/\aO o y [J f.O,J f.high,.slice A f.G.length c] 24 (0,0)/\aw.ce.aM 41 16 o U.heap.size (τ.ai m) m p (kk a b)/\(k<=(kk a b).length-1-1)/\(∀ i,i<k->f.clear ((((kk a b).drop 1).take ((kk a b).length-1-1)).getD i default)=true)) _ _ ⟨0,Z,Z,E,d,g,GE,λ i B=>GE⟩ (c' Z Z Z) ?_;rintro X ad rI ⟨k,rfl,rfl,G,d,g,au,z⟩;have aa:=d.lt;have K:=b4 g.lt;refine ar<|cF Z Z<|ax<|av<|?_;refine c7 Z (λ L=>?_) (λ L=>?_)
  .refine bf<|av<|bp<|ar<|κ (bD k underlying25 bq Z Z ((g.bv.sub 1 ((kk a b).length-1) GE GE).Y (aL k (by rw[baf,bax];omega))) Z GE)<|κ (aq Z (τ.aF.G ng ((g.bv.sub 1 ((kk a b).length-1) GE GE).O (aL k (by rw[baf,bax];omega))) (cg (l:=((kk a b).drop 1).take ((kk a b).length-1-1)) (u:=default) (by rw[baf,bax];omega)) bS bq))<|cy pk Z λ Y TW t af j=>?_;have W:=Φ G t;refine ck Z Z j Z bq Z Z λ rJ v j=>?_;have F:=Ext.H W v bn;refine ax<|ar<|?_;have d:=(d.O t).H v aJ;refine κ (aq Z (d.all gA gB))<|κ (aq Z (j.all bS bq))<|cf uq Z (vW f (((((kk a b).drop 1).take ((kk a b).length-1-1)).getD k default)) _ _ _ (T.be F)) λ zr s=>?_;have H:=Φ F s;refine vm Z<|bL Z Z<|bL Z Z<|va Z<|aG Z<|aC Z<|κ (beq Z Z)<|vm Z<|er Z Z<|aR Z (λ V=>beq (gt V Z) Z)<|κ (dS Z Z Z Z)<|ax<|?_;refine dB Z (λ x=>?_) (λ x=>?_)
   .refine ar<|bc Z<|dO<|bR<|k1<|dO<|bR<|b3 Z Z<|?_;exact⟨by rw[ayZ (k:=k) (by rw[baf,bax];omega) (by unfold aE.clear;rw[x];rfl)];rfl,H⟩
   .refine dP<|bK<|cW Z Z Z<|?_;have d:=d.O s;have g:=((g.O t).H v (bV K)).O s;exact cM ⟨k+1,Z,Z,H,d,g,GE,pC z (by unfold aE.clear;rw[x];rfl)⟩
  .refine cI<|cH<|cU<|cG<|a7<|ar<|bc Z<|b3 Z Z<|?_;exact⟨by rw[ay0 λ i B=>z i (by rw[baf,bax]at B;omega)];rfl,G⟩
theorem aOU(f:aE)(a b:aw)(A:Option Addr)(c:Nat)(w:World)(l:bN.aF 8 w A c f.G):
  Calls prog 150 #[.agg #[J f.O,J f.high,.slice A f.G.length c],.agg #[J a.x,J a.y],.agg #[J b.x,J b.y]] w (λ e w'=>e=.returned (Ku f a b)/\Ext w w'):=by
 refine bT (n:=38) func150 Z Z Z ?_;refine cZ Z Z λ ch W L cY d=>?_;have gp:=d.lt;refine gz Z Z λ dr b_ C fl g=>?_;have M:=Φ L C;have j8:=g.lt;refine gz Z Z λ fx e_ x oM h=>?_;have N:=Φ M x;have wF:=h.lt;refine va Z<|aG Z<|av<|ar<|?_;have g:=g.O x;refine κ (aq Z (g.all bS bq))<|κ (aq Z (h.all bS bq))<|κ (v:=.agg #[J a.x,J a.y,J b.x,J b.y]) (ee Z)<|vm Z<|ax<|bp<|EU 3<|kC<|ar<|cF Z Z<|ax<|av<|fB Z<|bf<|av<|bp<|ar<|κ (v:=.agg #[J a.x,J a.y]) (JO Z Z GT)<|cy pk Z λ mn U m ab t=>?_;have O:=Φ N m;have V:=t.lt;refine ck Z Z t Z bq Z Z λ rI j t=>?_;have:=j.size;have D:=Ext.H O j bn;refine ax<|ar<|?_;have d:=(d.O (Φ C (Φ x m))).H j aJ;refine κ (aq Z (d.all gA gB))<|κ (aq Z (t.all bS bq))<|cf uq Z (vW f a _ _ _ (l.be D)) λ R k=>?_;have:=k.size;have G:=Φ D k;refine vm Z<|bL Z Z<|bL Z Z<|va Z<|aG Z<|aC Z<|cV Z Z<|ax<|?_;refine fr Z (λ u=>?_) (λ u=>?_)
 .refine aC Z<|va Z<|bc Z<|dO<|bR<|k1<|dO<|bR<|hE Z Z Z<|?_;exact⟨by rw[aOV u];rfl,G⟩
 .have X:=aiv u;refine dP<|bK<|a7<|rg<|κ (oa (r:=1) Z Z GP GP)<|vm Z<|nl<|om<|kC<|ar<|cF Z Z<|ax<|av<|fB Z<|bf<|av<|bp<|ar<|κ (v:=.agg #[J b.x,J b.y]) (JO Z Z GT)<|cy pk Z λ wN ae o Y B=>?_;have P:=Φ G o;refine ck Z Z B Z bq Z Z λ S s B=>?_;have F:=Ext.H P s bn;refine ax<|ar<|?_;have d:=(d.O (Φ k o)).H s aJ;refine κ (aq Z (d.all gA gB))<|κ (aq Z (B.all bS bq))<|cf uq Z (vW f b _ _ _ (l.be F)) λ T q=>?_;have y:=Φ F q;refine vm Z<|bL Z Z<|bL Z Z<|va Z<|aG Z<|aC Z<|cV Z Z<|ax<|?_;refine fr Z (λ z=>?_) (λ z=>?_)
  .refine aC Z<|va Z<|bc Z<|dO<|bR<|k1<|dO<|bR<|hE Z Z Z<|?_;exact⟨by rw[aOW ‹_› z];rfl,y⟩
  .have aa:=aiv z;refine dP<|bK<|a7<|rg<|κ (oa (r:=2) Z Z GP GP)<|vm Z<|nl<|om<|kC<|ar<|cF Z Z<|ax<|av<|ef Z<|cI<|cH<|cU<|cG<|a7<|ar<|?_;have d:=d.O q;refine κ (aq Z (d.all gA gB))<|?_;have g:=((((g.O m).H j aJ).O (Φ k o)).H s aJ).O q;refine κ (aq Z (g.all bS bq))<|?_;have h:=((((h.O m).H j aJ).O (Φ k o)).H s aJ).O q;refine κ (aq Z (h.all bS bq))<|cf ale Z (aiG f a b _ _ _ (l.be y) GE GE) λ Q p=>?_;have E:=Φ y p;refine vm Z<|?_;have d:=d.O p;refine aR Z (λ i=>aq Z (d.all gA gB))<|?_;have h:=h.O p;refine aR Z (λ i=>aq Z (h.all bS bq))<|?_;have g:=g.O p;refine aR Z (λ i=>aq Z (g.all bS bq))<|iD Z ale (λ i=>b6 (gt i Z) (b6 (gt i Z) (b6 (gt i Z) Z))) (λ i=>aiG f b a _ _ _ (l.be E) GE GE) λ ad K=>?_;have H:=Φ E K;refine κ (dS Z Z Z Z)<|va Z<|bc Z<|hE Z Z Z<|?_;exact⟨by rw[aOX ‹_› ‹_›];rfl,H⟩
end
structure dw where
 H:Int
 O:Int
 deriving DecidableEq,Inhabited
namespace dw
def cells(a:dw):List Value:=[.int .i64 (a.H),.int .i64 (a.O)]
def ok(a:dw):Prop:=(Lit.int .i64 a.H).wf=true/\(Lit.int .i64 a.O).wf=true
def raw(j:Nat)(u:Value):Prop:=match j with
 | 0=>∃ n:Int,u=.int .i64 n
 | 1=>∃ n:Int,u=.int .i64 n
 | _=>True
def ui(a:dw):∀(j:Nat) u,a.cells[j]? =some u->raw j u:=by
 intro j u b
 match j,b with
 | 0,b=>exact⟨_,(bae b).symm⟩
 | 1,b=>exact⟨_,(bae b).symm⟩
 | j+2,b=>exact trivial
def cells_one(a:dw):∀ u∈a.cells,u.oneCell'=true:=by
 intro u b;unfold cells at b;simp only[baB,bbM,bcH]at b;rcases b with rfl|rfl<;>rfl
def ce:τ dw:=τ.flat 2 cells ok raw (λ_=>rfl) cells_one ui
def zero:Value:=.agg #[.int .i64 0,.int .i64 0]
def M:∀(j:Nat) u,zero.cells[j]? =some u->ce.raw j u:=by
 intro j u a;have a:(#[(.int .i64 0:Value),(.int .i64 0:Value)]:Array Value)[j]? =some u:=a
 match j,a with
 | 0,a=>exact⟨_,(bae a).symm⟩
 | 1,a=>exact⟨_,(bae a).symm⟩
 | j+2,a=>cases a
def G:(prog.info? 207).map (λi=>(i.zero,i.size,i.bytes))=some (some zero,2,16):=GT
def d9{by_:Nat}{w:World}{A:Option Addr}{c:Nat}{l:List dw}(h:ce.aF by_ w A c l)(f:0<l.length):
  ∃ b o,A=some ⟨b,o,none⟩/\∀(i:Nat) (a:dw),l[i]? =some a->w.cell? ⟨b,o+i*2,none⟩=some (.int .i64 (a.H))/\w.cell? ⟨b,o+i*2+1,none⟩=some (.int .i64 (a.O)):=by
 obtain⟨b,o,e,j⟩:=h.d9 f;refine⟨b,o,e,λi a g=>?_⟩;obtain⟨es,⟨rfl,_⟩,d⟩:=j i a g;exact⟨d 0 _ Z,d 1 _ Z⟩
def sh:hg:=(.cons (.int .i64) (.cons (.int .i64) .nil))
end dw
def ac8{w:World}{cs:List Value}{a:dw}(h:dw.ce.bv w cs a):cs=a.cells:=bcs (show cs=a.cells/\a.ok from h)
section
variable{l:List dw}{k:Nat}{v:Int}
def awG:(prog.info? 4).map (λ i=>(i.zero,i.size,i.bytes))=some (some (.bool false),1,1):=GT
def Ug(f:aE)(x y:bb):Bool:=if(x.H == y.H || decide (E_ x.O<far x.an y.an))=true then false else RM f x.an y.an
def fc(l:List bb):List (Int×Int):=(List.range l.length).map λ i=>((l.getD i default).id,(i:Int))
def aIH{l:List bb}(h:k<l.length):fc (l.take (k+1))=fc (l.take k)++ [((l.getD k default).id,(k:Int))]:=by
 have b:(l.take (k+1)).length=k+1:=by rw[baf];omega
 have c:(l.take k).length=k:=by rw[baf];omega
 unfold fc;rw[b,c,bbS,baJ];congr 1
 .refine bfv λ i a=>?_;have a:=baW.1 a;simp only[baa,baR];rw[bap GE,bap a]
 .simp only[ba5,bcl,baa,baR];rw[bap GE]
def aoi{l:List bb}{p:Int×Int}(h:p∈fc l):∃ i,i<l.length/\p=((l.getD i default).id,(i:Int)):=by
 obtain⟨i,a,rfl⟩:=baV.1 h;exact⟨i,baW.1 a,Z⟩
def aE6{l:List (Int×Int)}{k:Int}(h:dR l k=some v):(k,v)∈l:=by
 unfold dR at h;cases a:l.find? (λ p=>p.1 == k)with
 | none=>rw[a]at h;exact nomatch h
 | some p =>
  rw[a]at h;injection h with h
  have b:=bcN a;have c:=bdm a;have d:p.1=k:=by simpa using c
  rw[<-d,<-h];exact b
def aE7{l:List (Int×Int)}{k:Int}(h:∀ p∈l,p.1≠k):dR l k=none:=by
 unfold dR;rw[bbu.2 λ p a=>by simpa using h p a];rfl
def art{W:ag}{x:Int}(h:dR (fc W.ah) x=some v):∃ i,i<W.ah.length/\v=(i:Int)/\(W.ah.getD i default).id=x:=by
 obtain⟨i,c,d⟩:=aoi (aE6 h);injection d with a b
 exact⟨i,c,b,a.symm⟩
def aMz{W:ag}(b:Good W)(x:Int)(h:(dR (fc W.ah) x).isSome=true):((dR (fc W.ah) x).getD 0).toNat<W.ah.length/\0<=(dR (fc W.ah) x).getD 0:=by
 cases a:dR (fc W.ah) x with
 | none=>rw[a]at h;exact nomatch h
 | some v =>
  obtain⟨i,c,d,_⟩:=art a;show v.toNat<_/\0<=v;omega
def aMB(W:ag)(x:Int):0<=(dR (fc W.ah) x).getD 0:=by
 cases a:dR (fc W.ah) x with
 | none=>exact bbI _
 | some v=>obtain⟨i,b,c,_⟩:=art a;show 0<=v;omega
theorem Good.aII{W:ag}(c:Good W){i j:Nat}(f:i<j)(b:j<W.ah.length):(W.ah.getD i default).id<(W.ah.getD j default).id:=by
 induction j with
 | zero=>omega
 | succ j d =>
  obtain⟨t,a⟩:=iK b;have g:=(c.ids (j+1) t a).1;have k:W.G (j+1)=(W.ah.getD j default).id:=by
   unfold ag.G;simp
  have e:W.ah.getD (j+1) default=t:=by rw[baa,a];rfl
  rw[e];rcases bcS.1 f with h|rfl
  .have:=d h GE;omega
  .omega
def aMA{W:ag}(a:Good W)(d:k<W.ah.length):dR (fc (W.ah.take k)) (W.ah.getD k default).id=none:=by
 refine aE7 λ p e=>?_;obtain⟨i,c,rfl⟩:=aoi e;rw[baf]at c;have f:=a.aII (i:=i) (j:=k) GE d;have b:(W.ah.take k).getD i default=W.ah.getD i default:=by
  simp only[baa,baR];rw[bap GE]
 show((W.ah.take k).getD i default).id≠_;rw[b];omega
theorem Good.aLv{W:ag}(a:Good W)(i:Nat): -1000<=(W.ah.getD i default).an.x/\(W.ah.getD i default).an.x<=1000/\-1000<=(W.ah.getD i default).an.y/\(W.ah.getD i default).an.y<=1000:=by
 rw[baa];cases b:W.ah[i]? with
 | none=>exact⟨GP,GP,GP,GP⟩
 | some t =>
  obtain⟨f,g,h,j,k,l⟩:=aE.idx a.am (aE.K (a.ah i t b).ground);obtain⟨m,c,d,e,_,_⟩:=aE.hB a.am;show -1000<=t.an.x/\t.an.x<=1000/\-1000<=t.an.y/\t.an.y<=1000;omega
def T7(W:ag)(s:List Bool×List Int)(b:dw):Bool :=
 (((!(dR (fc W.ah) b.H).isSome || !(dR (fc W.ah) b.O).isSome) || s.1.getD ((dR (fc W.ah) b.H).getD 0).toNat false) || !Ug W.am (W.ah.getD ((dR (fc W.ah) b.H).getD 0).toNat default) (W.ah.getD ((dR (fc W.ah) b.O).getD 0).toNat default))
def D4(W:ag)(s:List Bool×List Int)(b:dw):List Bool×List Int :=
 if T7 W s b=true then s
 else(s.1.set ((dR (fc W.ah) b.H).getD 0).toNat true,s.2.set ((dR (fc W.ah) b.O).getD 0).toNat (s.2.getD ((dR (fc W.ah) b.O).getD 0).toNat 0+pw (W.ah.getD ((dR (fc W.ah) b.H).getD 0).toNat default).O))
def aiP{W:ag}{s:List Bool×List Int}{b:dw}(h:T7 W s b=false):D4 W s b=(s.1.set ((dR (fc W.ah) b.H).getD 0).toNat true,s.2.set ((dR (fc W.ah) b.O).getD 0).toNat (s.2.getD ((dR (fc W.ah) b.O).getD 0).toNat 0+pw (W.ah.getD ((dR (fc W.ah) b.H).getD 0).toNat default).O)):=by
 unfold D4;rw[h];rfl
def aiN{W:ag}{s:List Bool×List Int}{b:dw}(h:T7 W s b=true):D4 W s b=s:=by unfold D4;rw[h];rfl
def mC(W:ag)(l:List dw):List Bool×List Int:=l.foldl (D4 W) (List.replicate W.ah.length false,List.replicate W.ah.length 0)
def aza(W:ag)(l:List dw)(b:dw):mC W (l++ [b])=D4 W (mC W l) b:=by unfold mC;rw[bbZ];rfl
def aiQ(W:ag)(h:k<l.length):mC W (l.take (k+1))=D4 W (mC W (l.take k)) (l.getD k default):=by
 rw[baI h,aza,baa,bac h];rfl
def amu(k:Int):0<=pw k/\pw k<=4:=by unfold pw;split<;>(try split)<;>omega
def Ok(n m:Nat)(s:List Bool×List Int):Prop:=s.1.length=n/\s.2.length=n/\∀ j,0<=s.2.getD j 0/\s.2.getD j 0<=4*m
theorem ay7(W:ag){n m:Nat}{s:List Bool×List Int}(b:dw)(h:Ok n m s):Ok n (m+1) (D4 W s b):=by
 obtain⟨c,d,a⟩:=h;cases e:T7 W s b with
 | true=>rw[aiN e];exact⟨c,d,λ j=>by have:=a j;omega⟩
 | false =>
  rw[aiP e];refine⟨by rw[bak];exact c,by rw[bak];exact d,λ j=>?_⟩;have f:=a j;have k:=amu (W.ah.getD ((dR (fc W.ah) b.H).getD 0).toNat default).O;have g:=a ((dR (fc W.ah) b.O).getD 0).toNat;show 0<=(s.2.set _ _).getD j 0/\(s.2.set _ _).getD j 0<=_;generalize ((dR (fc W.ah) b.O).getD 0).toNat=i at *
  generalize pw _=q at *
  rw[baa]at f;rw[baa,bdE];split
  .split
   .rw[bbq];omega
   .rw[Option.getD_none];omega
  .omega
def aiM(W:ag){n:Nat}:∀(l:List dw) {m:Nat} {s:List Bool×List Int},Ok n m s->Ok n (m+l.length) (l.foldl (D4 W) s)
 | [],m,s,h=>h
 | b::l,m,s,h=>by
  have:=aiM W l (ay7 W b h);rw[bdh,bes 1]at this;exact this
theorem aaj(W:ag)(l:List dw):(mC W l).1.length=W.ah.length/\(mC W l).2.length=W.ah.length/\∀ j,0<=(mC W l).2.getD j 0/\(mC W l).2.getD j 0<=4*l.length:=by
 have a:Ok W.ah.length 0 (List.replicate W.ah.length false,List.replicate W.ah.length 0):=by
  refine⟨baK,baK,λ j=>?_⟩;have:(List.replicate W.ah.length (0:Int)).getD j 0=0:=by
   rw[baa,bbn];split<;>rfl
  show 0<=(List.replicate W.ah.length (0:Int)).getD j 0/\(List.replicate W.ah.length (0:Int)).getD j 0<=_;rw[this];decide
 obtain⟨b,c,d⟩:=aiM W l a;refine⟨b,c,λ j=>?_⟩;have:=d j;rw[bbi]at this;exact this
def oG(W:ag)(l:List dw):Int:=if W.br≠0 then W.br else if 200<l.length then 2 else 0
def hL(W:ag)(l:List dw):List Int:=if oG W l≠0 then[]else(mC W l).2
def aiO{W:ag}{w a:World}(h:oG W l=v)(b:v≠0)(x:Ext w a):∃ A c,(Ending.returned (.tuple #[.slice none 0 0,J v])=.returned (.tuple #[.slice A (hL W l).length c,J (oG W l)]))/\bN.aM 3 8 a w.heap.size (τ.ai A) A c (hL W l)/\Ext w a:=by
 have e:hL W l=[]:=by unfold hL;rw[h,bap b]
 rw[e,h];exact⟨none,0,Z,τ.aM.nil _,x⟩
def ay8{W:ag}(h:W.br=0)(a:¬(200:Int)<l.length):oG W l=0/\hL W l=(mC W l).2:=by
 have e:oG W l=0:=by unfold oG;rw[ban (by simpa using h),ban GE]
 exact⟨e,by unfold hL;rw[e];rfl⟩
theorem aAN(a:ag.cS)(W:ag)(x y:bb)(w:World)(s:ag.fd w a W)(h: -1000<=x.an.x/\x.an.x<=1000/\-1000<=x.an.y/\x.an.y<=1000)(H: -1000<=y.an.x/\y.an.x<=1000/\-1000<=y.an.y/\y.an.y<=1000):
  Calls prog 122 #[.agg ((ag.cells a W).toArray),.agg #[J x.id,J x.H,J x.O,J x.an.x,J x.an.y,J x.K,J x.load],.agg #[J y.id,J y.H,J y.O,J y.an.x,J y.an.y,J y.K,J y.load]] w (λ e w'=>e=.returned (.bool (Ug W.am x y))/\Ext w w'):=by
 refine bT (n:=51) func122 Z Z Z ?_;refine cZ Z Z λ N G r M l=>?_;have S:=l.lt;refine gz Z Z λ O L q Q b=>?_;have t:=Φ r q;have T:=b.lt;refine gz Z Z λ R P m V c=>?_;have u:=Φ t m;have Y:=c.lt;refine aG Z<|ar<|κ (aj Ar Z)<|?_;have b:=b.O m;refine a1 Z b aH Z<|cf abx Z (aeb (x.O) _) λ U d=>?_;have:=d.size;have z:=Φ u d;refine vm Z<|bL Z Z<|bL Z Z<|cy Pw Z λ X F j K i=>?_;have A:=Φ z j;refine ck Z Z i Z Ap Z Z λ xX k i=>?_;have B:=Ext.H A k bn;refine aG Z<|ar<|κ (aj ld Z)<|?_;have b:=(b.O (Φ d j)).H k aJ;refine κ (aq Z (b.Y [J x.an.x,J x.an.y] bS bq Z))<|κ (aj ld Z)<|?_;have c:=(c.O (Φ d j)).H k aJ;refine κ (aq Z (c.Y [J y.an.x,J y.an.y] bS bq Z))<|cf ak7 Z (air x.an y.an _ GE GE) λ E f=>?_;have o:=Φ B f;refine vm Z<|bL Z Z<|bL Z Z<|bL Z Z<|va Z<|va Z<|aG Z<|av<|ar<|κ (aj ur Z)<|?_;have b:=b.O f;refine a1 Z b aH Z<|κ (aj ur Z)<|?_;have c:=c.O f;refine a1 Z c aH Z<|κ (beq Z Z)<|vm Z<|er Z Z<|aR Z (λ g=>aj aD0 Z)<|?_;have i:=i.O f;refine aR Z (λ g=>aq (gt g Z) (i.one aH Z))<|aR Z (λ g=>gy (gt g Z) (gt g Z))<|κ (dS Z Z Z Z)<|ax<|?_;refine dB Z (λ p=>?_) (λ p=>?_)
 .refine ar<|bc Z<|bR<|b3 Z Z<|?_;exact⟨by unfold Ug;rw[p];rfl,o⟩
 .refine bf<|ar<|κ (aj lA Z)<|?_;have l:=((l.O (Φ q (Φ m (Φ d j)))).H k aJ).O f;refine κ (aq Z (l.Y [J W.am.O,J W.am.high,.slice a.P W.am.G.length a.p] gA gB Z))<|κ (aj ld Z)<|κ (aq Z (b.Y [J x.an.x,J x.an.y] bS bq Z))<|κ (aj ld Z)<|κ (aq Z (c.Y [J y.an.x,J y.an.y] bS bq Z))<|cf aD1 Z (aOU W.am x.an y.an _ _ _ (s.P.be o)) λ D v=>?_;have C:=Φ o v;refine vm Z<|bL Z Z<|bL Z Z<|va Z<|aG Z<|aC Z<|bc Z<|b3 Z Z<|?_;exact⟨by unfold Ug;rw[p];rfl,C⟩
theorem ay9(a:ag.cS)(W:ag)(l:List dw)(A:Option Addr)(c:Nat)(w:World)(p:ag.fd w a W)(az:dw.ce.aF 16 w A c l):
  Calls prog 93 #[.agg ((ag.cells a W).toArray),.slice A l.length c] w (λ e w'=>∃ A c,e=.returned (.tuple #[.slice A (hL W l).length c,J (oG W l)])/\bN.aM 3 8 w' w.heap.size (τ.ai A) A c (hL W l)/\Ext w w'):=by
 refine bT (n:=120) func93 Z Z Z ?_;refine cZ Z Z λ ch C aV cY f=>?_;have gp:=f.lt;refine va Z<|aG Z<|av<|ar<|κ (aq Z (f.all cD bP))<|cf L7 Z (Gz a W _ (p.be aV)) λ dr c0=>?_;have:=c0.size;have bo:=Φ aV c0;refine aG Z<|aC Z<|cV Z Z<|ax<|?_;refine fr Z (λ G=>?_) (λ G=>?_)
 .refine aC Z<|va Z<|bc Z<|bR<|hE Z Z Z<|?_;exact aiO (by unfold oG;rw[bap G]) G bo
 .have aZ:=Good.G G;have tu:=aZ.dj;have ab:=λ i=>aZ.aLv i;have d:=λ x=>aMz aZ x;have Hj:=λ x=>aMB W x;have nS:=az.M;refine bf<|av<|aC Z<|κ (bY underlying138 Z)<|κ (gy Z Z)<|ax<|?_;refine c7 Z (λ ru=>?_) (λ ru=>?_)
  .refine ar<|va Z<|bc Z<|bR<|hE Z Z Z<|?_;exact aiO (by unfold oG;rw[ban (by simpa using G),bap GE]) GP bo
  .refine bf<|ar<|aeN Z λ Bm z q1 am ah=>?_;have jV:=Φ bo q1;refine aG Z<|av<|ar<|κ (aj fC Z)<|?_;have f:=f.O (Φ c0 q1);refine a1 Z f gR Z<|κ (bY underlying26 Z)<|vm Z<|ax<|bp<|?_;refine di (λ bJ bH s=>∃ k:Nat,bH=[(1,.slice A l.length c),(2,.pointer (bd C)),(4,.slice none 0 0),(5,J 0),(7,.map (some z)),(30,.slice a.T W.ah.length a.t),(31,J (W.ah.length:Int)),(32,J (k:Int))]/\bJ=W.ah.length-k/\Ext w s/\aO s C (ag.cells a W) 28 (0,0)/\rR s z (fc (W.ah.take k))/\(k<=W.ah.length)) _ _ ⟨0,Z,Z,jV,f,ah,GE⟩ (c' Z Z Z) ?_;rintro xJ aK wL ⟨k,rfl,rfl,T,f,g,au⟩;have:=T.size;have aE:=f.lt;have ao:=g.lt;refine ar<|cF Z Z<|ax<|av<|?_;refine c7 Z (λ uz=>?_) (λ uz=>?_)
   .have ae:=Hj (l.getD k default).H;have af:=Hj (l.getD k default).O;refine bf<|av<|bp<|aC Z<|κ (bD k underlying26 eg Z Z ((p.T.be T).Y (aL k GE)) Z GE)<|κ (aq Z (τ.aF.G gm ((p.T.be T).O (aL k GE)) (cg (l:=W.ah) (u:=default) GE) oI eg))<|cy s_ Z λ Bn Gq hN an qD=>?_;have lN:=Φ T hN;refine va Z<|ck Z Z qD Z eg Z Z λ Bo nV qD=>?_;have mR:=Ext.H lN nV bn;refine ax<|rg<|vm Z<|κ (aj r6 Z)<|a1 Z qD aH Z<|vm Z<|?_;have g:=(g.O hN).H nV aJ;refine mu underlying179 underlying3 g (aMA aZ GE) Z Z Z λ xY np g=>?_;have n5:=Ext.H mR np bn;refine nl<|bK<|a7<|rg<|κ (bad Z Z (mb GE))<|vm Z<|nl<|?_;have f:=((f.O hN).H nV aJ).H np aJ;exact cM ⟨k+1,Z,Z,n5,f,(by rw[aIH GE];exact g),GE⟩
   .refine cI<|cH<|cU<|cG<|a7<|ar<|κ (aj fC Z)<|a1 Z f gR Z<|κ (bY underlying26 Z)<|JY (R:=bN) (by_:=8) (B:=w.heap.size) (c:=W.ah.length) (zv:=(J 0)) (q:=0) τ.nc underlying22 y5 Z Z (λ j u h=>CZ j u h) (λ _=>⟨Z,b7.2 GP⟩) Z Z Z GE GE GE λ H4 v ek aB Y=>?_;have:=ek.size;have qw:=Φ T ek;have RX:=b4 Y.lt;have JU:∀ q∈τ.ai (bd v),v<=q:=λ q I=>bbz (bah.1 I).symm;refine aG Z<|ar<|κ (aj fC Z)<|?_;have f:=f.O ek;refine a1 Z f gR Z<|κ (bY underlying26 Z)<|JY (R:=xO) (by_:=1) (B:=w.heap.size) (c:=W.ah.length) (zv:=(.bool false)) (q:=false) τ.nc underlying104 awG Z Z (λ j u h=>afk j u h) (λ _=>⟨Z,trivial⟩) Z Z Z GE GE GE λ xZ t jz Q_ LD=>?_;have jX:=Φ qw jz;have aa:∀ q∈τ.ai (bd t),t<=q:=λ q I=>bbz (bah.1 I).symm;refine aG Z<|av<|aC Z<|κ (bY underlying138 Z)<|vm Z<|ax<|bp<|?_;have g:=g.O (Φ ek jz);have Y:=Y.O jz;have f:=f.O jz;refine di (λ bJ bH s=>∃ k:Nat,bH=[(2,.pointer (bd C)),(4,.slice none 0 0),(5,J 0),(7,.map (some z)),(10,.slice (bd v) W.ah.length W.ah.length),(11,.slice (bd t) W.ah.length W.ah.length),(50,.slice A l.length c),(51,J (l.length:Int)),(52,J (k:Int))]/\bJ=l.length-k/\Ext w s/\aO s C (ag.cells a W) 28 (0,0)/\rR s z (fc W.ah)/\bN.aM 3 8 s w.heap.size (τ.ai (bd v)) (bd v) W.ah.length ((mC W (l.take k)).2)/\xO.aM 4 1 s w.heap.size (τ.ai (bd t)) (bd t) W.ah.length ((mC W (l.take k)).1)/\(k<=l.length)/\(∀ q∈τ.ai (bd v),q=C->False)/\(∀ q∈τ.ai (bd v),q=z->False)/\(∀ q∈τ.ai (bd t),q=C->False)/\(∀ q∈τ.ai (bd t),q=z->False)/\(∀ q∈τ.ai (bd t),q∈τ.ai (bd v)->False)) _ _ ⟨0,Z,Z,jX,f,(by have e:k=W.ah.length:=GE;rw[e,ba7]at g;exact g),Y,LD,GE,(λ q I D=>by (have:=JU q I;omega)),(λ q I D=>by (have:=JU q I;omega)),(λ q I D=>by (have:=aa q I;omega)),(λ q I D=>by (have:=aa q I;omega)),(λ q I D=>by (have:=aa q I;(have:=RX q D;omega)))⟩ (c' Z Z Z) ?_;rintro Ng ap C9 ⟨k,rfl,rfl,mU,f,g,o,m,au,xt,qI,qJ,GI,X⟩;have ak:=f.lt;have aM:=g.lt;have Bi:=b4 o.lt;have R0:=b4 m.lt;obtain⟨dx,bQ,eD⟩:=aaj W (l.take k);have eJ:(l.take k).length<=k:=bdp k l;refine ar<|cF Z Z<|ax<|av<|?_;refine c7 Z (λ Qb=>?_) (λ Qb=>?_)
    .have ae:=Hj (l.getD k default).H;have af:=Hj (l.getD k default).O;refine bf<|av<|bp<|ar<|κ (bD k underlying138 I_ Z Z ((az.be mU).Y (aL k GE)) Z GE)<|κ (aq Z (τ.aF.G ac8 ((az.be mU).O (aL k GE)) (cg (l:=l) (u:=default) GE) aby I_))<|cy aD2 Z λ R9 aw F aD N=>?_;have BA:=Φ mU F;have al:=N.lt;refine ck Z Z N Z I_ Z Z λ aI y N=>?_;have:=y.size;have K:=Ext.H BA y bn;refine ax<|aC Z<|κ (aj abz Z)<|a1 Z N aH Z<|?_;have g:=(g.O F).H y aJ;refine κ (lk underlying179 underlying3 UG g Z Z)<|vm Z<|bL Z Z<|bL Z Z<|va Z<|aG Z<|aC Z<|κ (aj abA Z)<|a1 Z N aH Z<|κ (lk underlying179 underlying3 UG g Z Z)<|vm Z<|bL Z Z<|bL Z Z<|va Z<|aG Z<|av<|av<|?_;refine c_ [(10,0),(13,0),(15,0),(18,0),(20,0),(23,0),(24,0)] [0,1,2,3,4,5,6,7,8,9,10,11,12,13,14,15,16,17,18,19,20,21,22,23,24,25,26] ?_;refine bt Z Z<|aA Z (λ _=>dj Z)<|bt Z Z<|ft Z Z Z<|bC Z Z (λ b _=>dj (gt b Z))<|aA Z (λ _=>dS Z Z Z Z)<|bt Z Z<|ft Z Z Z<|ft Z Z Z<|?_;have m:=(m.O F).H y (bV R0);refine bC Z Z (λ b _=>bD (((dR (fc W.ah) ((l.getD k default).H)).getD 0).toNat) underlying104 abB (gt b Z) (gt b Z) (m.bv.Y (aL (((dR (fc W.ah) ((l.getD k default).H)).getD 0).toNat) (by (try rw[dx]);simp only[cb]at b;first|exact(d _ b.1).1|exact(d _ b.2).1|exact(d _ b.1.1).1|exact(d _ b.1.2).1))) (by (try simp only[cb]at b);omega) (by (try rw[dx]);simp only[cb]at b;first|exact(d _ b.1).1|exact(d _ b.2).1|exact(d _ b.1.1).1|exact(d _ b.1.2).1))<|cu Z Z (λ b _ x=>aq (gt b Z) (τ.aF.H amJ ((m.O x).bv.O (aL (((dR (fc W.ah) ((l.getD k default).H)).getD 0).toNat) (by (try rw[dx]);simp only[cb]at b;first|exact(d _ b.1).1|exact(d _ b.2).1|exact(d _ b.1.1).1|exact(d _ b.1.2).1))) (cg (l:=(mC W (l.take k)).1) (u:=false) (by (try rw[dx]);simp only[cb]at b;first|exact(d _ b.1).1|exact(d _ b.2).1|exact(d _ b.1.1).1|exact(d _ b.1.2).1)) Z At))<|aA Z (λ _=>dS Z Z Z Z)<|bt Z Z<|?_;have f:=(f.O F).H y aJ;refine cu Z Z (λ b _ x=>aq Z ((f.O x).all cD bP))<|bC Z Z (λ b _=>aj fC Z)<|cu Z Z (λ b _ x=>aq (gt b Z) ((f.O x).one gR Z))<|ft Z Z Z<|bC Z Z (λ b _=>bD (((dR (fc W.ah) ((l.getD k default).H)).getD 0).toNat) underlying26 eg (gt b Z) (gt b Z) ((p.T.be K).Y (aL (((dR (fc W.ah) ((l.getD k default).H)).getD 0).toNat) (by (try rw[(rfl:W.ah.length=W.ah.length)]);simp only[cb]at b;first|exact(d _ b.1).1|exact(d _ b.2).1|exact(d _ b.1.1).1|exact(d _ b.1.2).1))) (by (try simp only[cb]at b);omega) (by (try rw[(rfl:W.ah.length=W.ah.length)]);simp only[cb]at b;first|exact(d _ b.1).1|exact(d _ b.2).1|exact(d _ b.1.1).1|exact(d _ b.1.2).1))<|cu Z Z (λ b _ x=>aq (gt b Z) (τ.aF.G gm ((p.T.be (Φ K x)).O (aL (((dR (fc W.ah) ((l.getD k default).H)).getD 0).toNat) (by (try rw[(rfl:W.ah.length=W.ah.length)]);simp only[cb]at b;first|exact(d _ b.1).1|exact(d _ b.2).1|exact(d _ b.1.1).1|exact(d _ b.1.2).1))) (cg (l:=W.ah) (u:=default) (by (try rw[(rfl:W.ah.length=W.ah.length)]);simp only[cb]at b;first|exact(d _ b.1).1|exact(d _ b.2).1|exact(d _ b.1.1).1|exact(d _ b.1.2).1)) oI eg))<|bC Z Z (λ b _=>aj fC Z)<|cu Z Z (λ b _ x=>aq (gt b Z) ((f.O x).one gR Z))<|ft Z Z Z<|bC Z Z (λ b _=>bD (((dR (fc W.ah) ((l.getD k default).O)).getD 0).toNat) underlying26 eg (gt b Z) (gt b Z) ((p.T.be K).Y (aL (((dR (fc W.ah) ((l.getD k default).O)).getD 0).toNat) (by (try rw[(rfl:W.ah.length=W.ah.length)]);simp only[cb]at b;first|exact(d _ b.1).1|exact(d _ b.2).1|exact(d _ b.1.1).1|exact(d _ b.1.2).1))) (by (try simp only[cb]at b);omega) (by (try rw[(rfl:W.ah.length=W.ah.length)]);simp only[cb]at b;first|exact(d _ b.1).1|exact(d _ b.2).1|exact(d _ b.1.1).1|exact(d _ b.1.2).1))<|cu Z Z (λ b _ x=>aq (gt b Z) (τ.aF.G gm ((p.T.be (Φ K x)).O (aL (((dR (fc W.ah) ((l.getD k default).O)).getD 0).toNat) (by (try rw[(rfl:W.ah.length=W.ah.length)]);simp only[cb]at b;first|exact(d _ b.1).1|exact(d _ b.2).1|exact(d _ b.1.1).1|exact(d _ b.1.2).1))) (cg (l:=W.ah) (u:=default) (by (try rw[(rfl:W.ah.length=W.ah.length)]);simp only[cb]at b;first|exact(d _ b.1).1|exact(d _ b.2).1|exact(d _ b.1.1).1|exact(d _ b.1.2).1)) oI eg))<|c8 Z Z Z Z Z Z aD3 (λ b=>b6 (gt b Z) (b6 (gt b Z) (b6 (gt b Z) Z))) (λ b _ x=>aAN a W ((W.ah.getD (((dR (fc W.ah) ((l.getD k default).H)).getD 0).toNat) default)) ((W.ah.getD (((dR (fc W.ah) ((l.getD k default).O)).getD 0).toNat) default)) _ (p.be (Φ K x)) (ab _) (ab _)) Z<|bC Z Z (λ b _=>dj (gt b Z))<|aA Z (λ _=>dS Z Z Z Z)<|fn λ KK r=>?_;have:=r.size;have qA:=Φ K r;refine a7<|?_;refine dB Z (λ V=>?_) (λ V=>?_)
     .refine cI<|cH<|cG<|a7<|rg<|κ (bad Z Z (mb GE))<|vm Z<|nl<|?_;have S:mC W (l.take (k+1))=((mC W (l.take k)).1,(mC W (l.take k)).2):=by rw[aiQ W GE,aiN V]
      have f:=f.O r;have g:=g.O r;have o:=((o.O F).H y (bV Bi)).O r;have m:=m.O r;exact cM ⟨k+1,Z,Z,qA,f,g,(by rw[S];exact o),(by rw[S];exact m),GE,xt,qI,qJ,GI,X⟩
     .have fV:=V;simp only[cb]at fV;have i1:=(d _ fV.1.1.1).1;have i2:=(d _ fV.1.1.2).1;have a8:=eD (((dR (fc W.ah) ((l.getD k default).O)).getD 0).toNat);have dn:=amu (W.ah.getD (((dR (fc W.ah) ((l.getD k default).H)).getD 0).toNat) default).O;refine bf<|ar<|κ (aj fC Z)<|?_;have f:=f.O r;refine a1 Z f gR Z<|vm Z<|κ (bD (((dR (fc W.ah) ((l.getD k default).H)).getD 0).toNat) underlying26 eg Z Z ((p.T.be qA).Y (aL (((dR (fc W.ah) ((l.getD k default).H)).getD 0).toNat) GE)) GE GE)<|κ (aj Ar Z)<|κ (aq Z (τ.aF.C gm ((p.T.be qA).O (aL (((dR (fc W.ah) ((l.getD k default).H)).getD 0).toNat) GE)) 2 (cg (l:=W.ah) (u:=default) GE) Z aH))<|cf abx Z (aeb ((W.ah.getD (((dR (fc W.ah) ((l.getD k default).H)).getD 0).toNat) default).O) _) λ NZ E=>?_;have:=E.size;have mV:=Φ qA E;refine vm Z<|bL Z Z<|bL Z Z<|cy Pw Z λ Sc ai L ay O=>?_;have BE:=Φ mV L;refine ck Z Z O Z Ap Z Z λ Yb P O=>?_;have FL:=Ext.H BE P bn;refine aG Z<|aC Z<|vm Z<|?_;have m:=(m.O (Φ r (Φ E L))).H P (bV R0);refine κ (bD (((dR (fc W.ah) ((l.getD k default).H)).getD 0).toNat) underlying104 abB Z Z (m.bv.Y (aL (((dR (fc W.ah) ((l.getD k default).H)).getD 0).toNat) GE)) GE GE)<|so (q':=true) (j:=0) (i:=(((dR (fc W.ah) ((l.getD k default).H)).getD 0).toNat)) m τ.O (cg (l:=(mC W (l.take k)).1) (u:=false) GE) Z Z Z Z (λ _ cs h=>by have mK:=(show _/\_ from h).2;obtain rfl:=amJ h;exact⟨rfl,trivial⟩) Z Z abB λ KE U Zw=>?_;have KZ:=Ext.H FL U (λ q I=>(m.lt q I).1);refine ax<|?_;refine c_ [(3,0),(5,0),(8,3)] [0,1,2,3,4,5,6,7,8] ?_;refine bt Z Z<|bt Z Z<|?_;have o:=((((o.O F).H y (bV Bi)).O (Φ r (Φ E L))).H P (bV Bi)).H U (fa X);refine aA Z (λ _=>bD (((dR (fc W.ah) ((l.getD k default).O)).getD 0).toNat) underlying22 cO Z Z (o.bv.Y (aL (((dR (fc W.ah) ((l.getD k default).O)).getD 0).toNat) GE)) GE GE)<|dE Z (λ _ x=>aq Z (τ.aF.H ew ((o.O x).bv.O (aL (((dR (fc W.ah) ((l.getD k default).O)).getD 0).toNat) GE)) (cg (l:=(mC W (l.take k)).2) (u:=0) GE) Z aH))<|aA Z (λ _=>aj aD4 Z)<|?_;have ad:∀ q∈τ.ai (bd t),q=ai->False:=λ q I D=>by (have:=R0 q I;omega)
      have O:=O.H U (λ I=>ad _ I rfl);refine cr Z Z O aH Z<|aA Z (λ _=>bad Z Z (mb GE))<|aA Z (λ _=>bD (((dR (fc W.ah) ((l.getD k default).O)).getD 0).toNat) underlying22 cO Z Z (o.bv.Y (aL (((dR (fc W.ah) ((l.getD k default).O)).getD 0).toNat) GE)) GE GE)<|en Z Z Z λ R5 H Q hK=>so (q':=(((mC W (l.take k)).2).getD (((dR (fc W.ah) ((l.getD k default).O)).getD 0).toNat) 0)+(pw ((W.ah.getD (((dR (fc W.ah) ((l.getD k default).H)).getD 0).toNat) default).O))) (j:=0) (i:=(((dR (fc W.ah) ((l.getD k default).O)).getD 0).toNat)) (o.O H) τ.O (cg (l:=(mC W (l.take k)).2) (u:=0) GE) Z Z Z Z (λ _ cs h=>by have mK:=(show _/\_ from h).2;obtain rfl:=ew h;exact⟨rfl,b7.2 GE⟩) Z Z cO λ Fk og B6=>hK _ _ ?_;have zD:=Φ KZ H;have Df:=Ext.H zD og (λ q I=>((o.O H).lt q I).1);refine fn λ aF M=>?_;have K1:=Φ Df M;refine bK<|a7<|rg<|κ (bad Z Z (mb GE))<|vm Z<|nl<|?_;have S:mC W (l.take (k+1))=(((mC W (l.take k)).1).set (((dR (fc W.ah) ((l.getD k default).H)).getD 0).toNat) true,((mC W (l.take k)).2).set (((dR (fc W.ah) ((l.getD k default).O)).getD 0).toNat) ((((mC W (l.take k)).2).getD (((dR (fc W.ah) ((l.getD k default).O)).getD 0).toNat) 0)+(pw ((W.ah.getD (((dR (fc W.ah) ((l.getD k default).H)).getD 0).toNat) default).O)))):=by rw[aiQ W GE,aiP V]
      have f:=(((((f.O (Φ E L)).H P aJ).H U (λ I=>qJ _ I rfl)).O H).H og (λ I=>xt _ I rfl)).O M;have g:=(((((g.O (Φ r (Φ E L))).H P aJ).H U (λ I=>GI _ I rfl)).O H).H og (λ I=>qI _ I rfl)).O M;have B6:=B6.O M;have Zw:=((Zw.O H).H og X).O M;exact cM ⟨k+1,Z,Z,K1,f,g,(by rw[S];exact B6),(by rw[S];exact Zw),GE,xt,qI,qJ,GI,X⟩
    .refine cI<|cH<|cU<|cG<|a7<|aC Z<|va Z<|bc Z<|hE Z Z Z<|?_;obtain⟨r1,r2⟩:=ay8 G ru;have e:k=l.length:=GE
     rw[e,ba7]at o;rw[r1,r2];exact⟨_,_,by rw[(aaj W l).2.1];rfl,o,mU⟩
end
section
variable{h:List Int}{k:Nat}{l:List dw}
def awH:dU prog bb.ce 26 68 56:=dU.O (z:=bb.zero) (k:=7) underlying26 bb.G rfl rfl GP bb.M
def awI:dU prog bN 22 3 8:=dU.O (z:=J 0) (k:=1) underlying22 y5 rfl rfl GP (λ j u h=>CZ j u h)
def AM(T:List bb)(h:List Int)(i:Nat):bb:={T.getD i default with K:=(T.getD i default).K-h.getD i 0}
def tE(T:List bb)(h:List Int)(k:Nat):List bb:=((List.range k).map (AM T h)).filter λ t=>decide (0<t.K)
def tj(T:List bb)(h:List Int)(k:Nat):List Int:=(((List.range k).map (AM T h)).filter λ t=> !decide (0<t.K)).map bb.id
def aKd{T:List bb}(a:0<(T.getD k default).K-h.getD k 0):tE T h (k+1)=tE T h k++ [AM T h k]:=by
 unfold tE;rw[bbS,baJ,bb8,ba5,bcl,bbN,bap (show decide (0<(AM T h k).K)=true from baG a)];rfl
def aKc{T:List bb}(a:¬0<(T.getD k default).K-h.getD k 0):tE T h (k+1)=tE T h k:=by
 unfold tE;rw[bbS,baJ,bb8,ba5,bcl,bbN,ban (show ¬decide (0<(AM T h k).K)=true from λ e=>a (bbx e))];simp
def aFd{T:List bb}(a:0<(T.getD k default).K-h.getD k 0):tj T h (k+1)=tj T h k:=by
 unfold tj;rw[bbS,baJ,bb8,ba5,bcl,bbN,ban (show ¬(!decide (0<(AM T h k).K))=true from by rw[baG (show 0<(AM T h k).K from a)];decide)];simp
def aFc{T:List bb}(a:¬0<(T.getD k default).K-h.getD k 0):tj T h (k+1)=tj T h k++ [(T.getD k default).id]:=by
 unfold tj;rw[bbS,baJ,bb8,ba5,bcl,bbN,bap (show(!decide (0<(AM T h k).K))=true from by rw[baA (show ¬0<(AM T h k).K from a)];rfl),baJ];rfl
def aKb(T:List bb)(h:List Int)(k:Nat):(tE T h k).length<=k:=by unfold tE;exact bay (bcf _ _) Kx
def aFb(T:List bb)(h:List Int)(k:Nat):(tj T h k).length<=k:=by unfold tj;rw[bbd];exact bay (bcf _ _) Kx
def T6{W:ag}(h:oG W l=0):W.br=0/\l.length<=200:=by
 unfold oG at h;split at h
 .contradiction
 .rename_i a
  split at h
  .exact nomatch h
  .exact⟨by simpa using a,GE⟩
def acZ{W:ag}(h:oG W l=0):(hL W l).length=W.ah.length/\∀ k,0<=(hL W l).getD k 0/\(hL W l).getD k 0<=800:=by
 obtain⟨c,a,b⟩:=aaj W l;have d:=(T6 h).2;have e:hL W l=(mC W l).2:=by unfold hL;rw[h];rfl
 rw[e];exact⟨a,λ k=>by have:=b k;omega⟩
def HQ{w:World}{A:Option Addr}{c:Nat}{T:List bb}(h:bb.ce.aF 56 w A c T)(k:Nat):(T.getD k default).ok:=by
 rw[baa];cases a:T[k]? with
 | none=>exact⟨GP,GP,GP,GP,GP,GP,GP⟩
 | some t=>exact τ.aF.D1 (Q:=bb.ok) (λ h=>And.right (show _/\_ from h)) h t (baQ a)
def Good.aKg{W:ag}(b:Good W)(d:k<W.ah.length):1<=(W.ah.getD k default).K/\(W.ah.getD k default).K<=20:=by
 obtain⟨t,a⟩:=iK d;have e:W.ah.getD k default=t:=by rw[baa,a];rfl
 rw[e];have c:=b.ah k t a;have f:ag.gT t.O<=20:=by unfold ag.gT;split<;>(try split)<;>omega
 have:=c.K;omega
def rE(W:ag)(l:List dw):ag:=if oG W l≠0 then ag.zero else {W with ah:=tE W.ah (hL W l) W.ah.length}
def Bf(W:ag)(l:List dw):List Int:=if oG W l≠0 then[]else tj W.ah (hL W l) W.ah.length
def ax7(W:ag)(l:List dw)(w:World)(e:Ending)(w':World):Prop :=
 ∃ a A c,e=.returned (.tuple #[.agg (ag.cells a (rE W l)).toArray,.slice A (Bf W l).length c,J (oG W l)])/\bF w' w.heap.size a (rE W l)/\bN.aM 3 8 w' w.heap.size (τ.ai A) A c (Bf W l)/\(∀ q∈τ.ai A,q∉bF.G a)/\Ext w w'
def aPA{W:ag}(h:¬oG W l=0):rE W l=ag.zero/\Bf W l=[]:=by unfold rE Bf;rw[bap h,bap h];exact⟨Z,Z⟩
def afQ{W:ag}(h:oG W l=0)(a:k=W.ah.length):rE W l={W with ah:=tE W.ah (hL W l) k}/\Bf W l=tj W.ah (hL W l) k:=by
 subst a;unfold rE Bf;rw[ban (by simpa using h),ban (by simpa using h)];exact⟨Z,Z⟩
theorem aHP(a:ag.cS)(W:ag)(w:World)(B:ag.fd w a W):
  Calls prog 94 #[.agg ((ag.cells a W).toArray)] w (λ e w'=>∃ X:ag.cS,e=.returned (.agg (ag.cells X W).toArray)/\bF w' w.heap.size X W/\Ext w w'):=by
 refine bT (n:=26) func94 Z Z Z ?_;refine cZ Z Z λ ch a6 aV cY b=>?_;have gp:=b.lt;refine cy nO Z λ dr b_ V fl A=>?_;have:=V.size;have Y:=Φ aV V;have j8:=A.lt;refine ax<|ar<|κ (aj lA Z)<|κ (aj qK Z)<|?_;have b:=b.O V;refine a1 Z b et Z<|ca Au Z Z ((vN _ _ W.am.G _ (B.P.be Y)).mono ?_);rintro e nY ⟨mW,s5,rfl,L,ak,R⟩;refine cR ?_;have:=R.size;have fF:=Φ Y R;have T:=b4 L.lt;have G:=dZ L.lt;refine κ (aj lA Z)<|κ (aj qK Z)<|?_;have b:=b.O R;refine ep Z Z b Z td Z Z λ vh S b=>?_;have:=S.size;have jb:=Ext.H fF S bn;refine ax<|av<|?_;refine c_ [(1,0),(2,2),(4,0),(5,2),(7,3),(9,3)] [0,1,3,4,2,6,5,7,8,9] ?_;refine aA Z (λ _=>aj lY Z)<|cr Z Z b lZ Z<|aA Z (λ _=>aj oJ Z)<|cr Z Z b et Z<|fO Z Z Z λ ow p Q f=>ca abC Z Z ((Ue _ _ W.aT _ (B.B.be (Φ jb p))).mono ?_);rintro e zq ⟨YJ,aa,rfl,M,ai,C⟩;refine⟨_,Z,f _ _ ⟨Φ p C,?_⟩⟩;have:=p.size;have fP:=Φ jb p;have:=C.size;have mr:=Φ fP C;have U:=b4 M.lt;have H:=dZ M.lt;refine aA Z (λ _=>aj lY Z)<|fO Z Z Z λ Bo j Q f=>ca Au Z Z ((vN _ _ W.bl _ (B.S.be (Φ mr j))).mono ?_);rintro e sN ⟨YK,ab,rfl,N,ae,t⟩;refine⟨_,Z,f _ _ ⟨Φ j t,?_⟩⟩;have:=j.size;have mR:=Φ mr j;have:=t.size;have ku:=Φ mR t;have zn:=b4 N.lt;have x:=dZ N.lt;have b:=b.O (Φ p (Φ C (Φ j t)));refine en Z Z Z λ rJ r Q f=>ep Z Z (b.O r) Z UH Z Z λ H5 E b=>f _ _ ?_;have:=r.size;have gU:=Φ ku r;have:=E.size;have rN:=Ext.H gU E bn;refine aA Z (λ _=>aj oJ Z)<|en Z Z Z λ xZ u Q f=>ep Z Z (b.O u) Z td Z Z λ Bq D b=>f _ _ ?_;have:=u.size;have jX:=Φ rN u;have:=D.size;have mT:=Ext.H jX D bn;refine fn λ qq s=>?_;have:=s.size;have hQ:=Φ mT s;refine a7<|av<|?_;refine c_ [(1,0),(2,2),(4,0),(5,2),(7,3),(9,3)] [0,1,3,4,2,6,5,7,8,9] ?_;refine aA Z (λ _=>aj rZ Z)<|?_;have b:=b.O s;refine cr Z Z b et Z<|aA Z (λ _=>aj fC Z)<|cr Z Z b gR Z<|fO Z Z Z λ KJ h Q f=>ca Au Z Z ((vN _ _ W.bE _ (B.M.be (Φ hQ h))).mono ?_);rintro e Fm ⟨YO,Gx,rfl,O,af,m⟩;refine⟨_,Z,f _ _ ⟨Φ h m,?_⟩⟩;have:=h.size;have vv:=Φ hQ h;have:=m.size;have nC:=Φ vv m;have ad:=b4 O.lt;have K:=dZ O.lt;refine aA Z (λ _=>aj rZ Z)<|fO Z Z Z λ X_ g Q f=>ca Pv Z Z ((LQ _ _ W.ah _ (B.T.be (Φ nC g))).mono ?_);rintro e Fp ⟨YQ,T',rfl,P,ah,i⟩;refine⟨_,Z,f _ _ ⟨Φ g i,?_⟩⟩;have:=g.size;have FH:=Φ nC g;have pS:=Φ FH i;have y:=dZ P.lt;have b:=b.O (Φ h (Φ m (Φ g i)));refine en Z Z Z λ R_ o Q f=>ep Z Z (b.O o) Z td Z Z λ C_ v b=>f _ _ ?_;have BB:=Φ pS o;have pT:=Ext.H BB v bn;refine aA Z (λ _=>aj fC Z)<|en Z Z Z λ NW k Q f=>ep Z Z (b.O k) Z Eb Z Z λ NZ z b=>f _ _ ?_;have wW:=Φ pT k;have mV:=Ext.H wW z bn;refine fn λ Sd l=>?_;have BF:=Φ mV l;refine a7<|ar<|?_;have b:=b.O l;refine κ (aq Z (b.all cD bP))<|?_;have A:=((((((((((A.O R).H S aJ).O (Φ p (Φ C (Φ j (Φ t r))))).H E aJ).O u).H D aJ).O (Φ s (Φ h (Φ m (Φ g (Φ i o)))))).H v aJ).O k).H z aJ).O l;refine ck Z Z A Z bP Z Z λ Sf F A=>?_;have vx:=Ext.H BF F bn;refine tC<|cJ (.cell Z (A.all cD bP) .nil)<|?_;have L:=((((((((((L.H S (bx G)).O (Φ p (Φ C (Φ j (Φ t r))))).H E (bx G)).O u).H D (bx G)).O (Φ s (Φ h (Φ m (Φ g (Φ i o)))))).H v (bx G)).O k).H z (bx G)).O l).H F (bx G);have M:=(((((((((M.O (Φ j (Φ t r))).H E (bx H)).O u).H D (bx H)).O (Φ s (Φ h (Φ m (Φ g (Φ i o)))))).H v (bx H)).O k).H z (bx H)).O l).H F (bx H);have N:=(((((((((N.O r).H E (bx x)).O u).H D (bx x)).O (Φ s (Φ h (Φ m (Φ g (Φ i o)))))).H v (bx x)).O k).H z (bx x)).O l).H F (bx x);have O:=(((((O.O (Φ g (Φ i o))).H v (bx K)).O k).H z (bx K)).O l).H F (bx K);have P:=(((((P.O o).H v (bx y)).O k).H z (bx y)).O l).H F (bx y);have hR:=bF.aeR (aQ:=w.heap.size) (L.dq GE) (M.dq GE) (N.dq GE) (O.dq GE) (P.dq GE) (λ q c d=>by exfalso;(have:=H q c;(have:=T q d;omega))) (λ q c d=>by exfalso;(have:=x q c;(have:=T q d;omega))) (λ q c d=>by exfalso;(have:=x q c;(have:=U q d;omega))) (λ q c d=>by exfalso;(have:=K q c;(have:=T q d;omega))) (λ q c d=>by exfalso;(have:=K q c;(have:=U q d;omega))) (λ q c d=>by exfalso;(have:=K q c;(have:=zn q d;omega))) (λ q c d=>by exfalso;(have:=y q c;(have:=T q d;omega))) (λ q c d=>by exfalso;(have:=y q c;(have:=U q d;omega))) (λ q c d=>by exfalso;(have:=y q c;(have:=zn q d;omega))) (λ q c d=>by exfalso;(have:=y q c;(have:=ad q d;omega))) B.nums;exact⟨⟨mW,YJ,YK,YO,YQ,s5,aa,ab,Gx,T'⟩,Z,hR,vx⟩
theorem ata(l:List dw)(A:Option Addr)(c:Nat)(a:ag.cS)(W:ag)(w:World)(bk:ag.fd w a W)(az:dw.ce.aF 16 w A c l):
  Calls prog 65 #[.agg ((ag.cells a W).toArray),.slice A l.length c] w (ax7 W l w):=by
 refine bT (n:=62) func65 Z Z Z ?_;refine cZ Z Z λ ch a6 aV cY d=>?_;have gp:=d.lt;refine cy nO Z λ dr b_ bh fl f=>?_;have bo:=Φ aV bh;have j8:=f.lt;refine va Z<|aG Z<|ar<|?_;have d:=d.O bh;refine κ (aq Z (d.all cD bP))<|vm Z<|ca aBY Z Z ((ay9 a W l _ _ _ (bk.be bo) (az.be bo)).mono ?_);rintro e nY ⟨mW,s5,rfl,h,fZ⟩;refine cR ?_;have:=fZ.size;have fF:=Φ bo fZ;have P:=b4 h.lt;have mg:=dZ h.lt;refine vm Z<|bL Z Z<|bL Z Z<|va Z<|aG Z<|av<|aC Z<|cV Z Z<|ax<|?_;refine fr Z (λ S=>?_) (λ S=>?_)
 .refine ar<|κ (v:=.agg #[J 0,J 0,.slice none 0 0,.slice none 0 0,.slice none 0 0,.slice none 0 0,.slice none 0 0,J 0,J 0]) (ee Z)<|vm Z<|?_;have f:=f.O fZ;refine ck Z Z f Z bP Z Z λ mn EX f=>?_;have eM:=Ext.H fF EX bn;refine va Z<|bc Z<|bR<|cJ (.cell Z (f.all cD bP) (.tmp Z (.tmp Z .nil)))<|?_;obtain⟨r,s⟩:=aPA S;exact⟨⟨none,none,none,none,none,0,0,0,0,0⟩,none,0,by rw[r,s];rfl,by rw[r];exact bF.zero _ _,by rw[s];exact τ.aM.nil _,λ q I=>by simp[τ.ai]at I,eM⟩
 .obtain⟨hc,aM⟩:=T6 S;have aZ:=Good.G hc;have tu:=aZ.dj;obtain⟨hh,eZ⟩:=acZ S;have cA:=HQ bk.T;have al:=λ k (au:k<W.ah.length)=>aZ.aKg au;refine bf<|ar<|?_;have d:=d.O fZ;refine κ (aq Z (d.all cD bP))<|ca aBZ Z Z ((aHP a W _ (bk.be fF)).mono ?_);rintro e vk ⟨G,rfl,g,hN⟩;refine cR ?_;have:=hN.size;have gw:=Φ fF hN;have L:=b4 g.lt;have M5:=dZ g.lt;have d:=d.O hN;refine st Z Z d Z bP Z Z Z λ pM kD d=>?_;have:=kD.size;have iE:=Ext.H gw kD bn;refine ax<|ar<|aG Z<|ar<|κ (aj fC Z)<|a1 Z d gR Z<|κ (bY underlying26 Z)<|Ws (R:=bb.ce) (by_:=56) (B:=w.heap.size) (c:=W.ah.length) (zv:=bb.zero) τ.nc underlying26 bb.G Z GP bb.M Z Z Z GE GE GE λ H3 TV g_ aF ZE=>?_;have mS:=Φ iE g_;have tF:∀ q∈τ.ai (bd TV),TV<=q:=λ q I=>bbz (bah.1 I).symm;refine aG Z<|av<|ar<|κ (aj fC Z)<|?_;have d:=d.O g_;refine a1 Z d gR Z<|κ (bY underlying26 Z)<|vm Z<|ax<|bp<|?_;have eF:=sK (kD) g_;have h:=(h.O hN).H eF (bx mg);have g:=g.H eF (bx M5);have f:=(f.O (Φ fZ hN)).H eF aJ;refine di (λ bJ bH F=>∃ k:Nat,∃ E:Option Addr,∃ U:Nat,∃ z:Option Addr,∃ Pg:Nat,bH=[(2,.pointer (bd a6)),(4,.pointer (bd b_)),(5,.slice none 0 0),(6,J 0),(7,.slice mW ((hL W l).length) s5),(9,.slice z ((tj W.ah (hL W l) k).length) Pg),(10,.slice E ((tE W.ah (hL W l) k).length) U),(30,.slice G.T W.ah.length G.t),(31,J (W.ah.length:Int)),(32,J (k:Int))]/\bJ=W.ah.length-k/\Ext w F/\aO F a6 (ag.cells G W) 28 (0,0)/\aO F b_ [J 0,J 0,.slice none 0 0,.slice none 0 0,.slice none 0 0,.slice none 0 0,.slice none 0 0,J 0,J 0] 28 (0,0)/\bN.aM 3 8 F dr.heap.size (τ.ai mW) mW s5 (hL W l)/\bF F nY.heap.size G W/\bb.ce.aM 68 56 F w.heap.size (τ.ai E) E U (tE W.ah (hL W l) k)/\bN.aM 3 8 F w.heap.size (τ.ai z) z Pg (tj W.ah (hL W l) k)/\(k<=W.ah.length)/\(∀ q∈τ.ai E,q=a6->False)/\(∀ q∈τ.ai E,q=b_->False)/\(∀ q∈τ.ai E,q∈bF.G G->False)/\(∀ q∈τ.ai E,q∈τ.ai mW->False)/\(∀ q∈τ.ai z,q=a6->False)/\(∀ q∈τ.ai z,q=b_->False)/\(∀ q∈τ.ai z,q∈bF.G G->False)/\(∀ q∈τ.ai z,q∈τ.ai mW->False)/\(∀ q∈τ.ai z,q∈τ.ai E->False)) _ _ ⟨0,some ⟨TV,0,none⟩,W.ah.length,none,0,Z,Z,mS,d,f,h,g,ZE,(τ.aM.nil _),GE,(λ q I b=>by (have:=tF q I;omega)),(λ q I b=>by (have:=tF q I;omega)),(λ q I b=>by (have:=tF q I;(have:=L q b;omega))),(λ q I b=>by (have:=tF q I;(have:=P q b;omega))),(λ q I b=>by (simp[τ.ai]at I)),(λ q I b=>by (simp[τ.ai]at I)),(λ q I b=>by (simp[τ.ai]at I)),(λ q I b=>by (simp[τ.ai]at I)),(λ q I b=>by (simp[τ.ai]at I))⟩ (c' Z Z Z) ?_;rintro h_ aK Bq ⟨k,E,U,z,Pg,rfl,rfl,mT,d,f,h,g,y,C,au,Ak,Cm,Cn,LW,yI,GH,I2,Pp,Pq⟩;have Kj:=d.lt;have Xi:=f.lt;have X:=b4 h.lt;have M:=b4 g.lt;have V:=b4 y.lt;have RZ:=b4 C.lt;have HE:=aKb W.ah (hL W l) k;have tG:=aFb W.ah (hL W l) k;refine ar<|cF Z Z<|ax<|av<|?_;refine c7 Z (λ ak=>?_) (λ ak=>?_)
  .obtain⟨v1,v2⟩:=eZ k;have uI:=al k GE;refine bf<|av<|bp<|aC Z<|κ (bD k underlying26 eg Z Z (g.T.bv.Y (aL k)) Z GE)<|κ (aq Z (τ.aF.G gm (g.T.bv.O (aL k)) (cg (l:=W.ah) (u:=default) GE) oI eg))<|cy s_ Z λ C9 Ca p We D=>?_;have mU:=Φ mT p;have Xj:=D.lt;refine va Z<|ck Z Z D Z eg Z Z λ Fo o D=>?_;have:=o.size;have o4:=Ext.H mU o bn;refine ax<|av<|?_;refine c_ [(1,0),(5,0),(8,3)] [0,1,2,3,4,5,6,7,8] ?_;refine aA Z (λ _=>aj Ec Z)<|cr Z Z D aH Z<|bt Z Z<|bt Z Z<|?_;have h:=(h.O p).H o (bM λ q I b=>by have:=X q I;have:=P q I;omega);refine aA Z (λ _=>bD k underlying22 cO Z Z (h.bv.Y (aL k)) Z GE)<|dE Z (λ _ x=>aq Z (τ.aF.H ew ((h.O x).bv.O (aL k)) (cg (l:=hL W l) (u:=0) GE) Z aH))<|aA Z (λ _=>hi Z Z dK)<|aA Z (λ _=>aj Ec Z)<|en Z Z Z λ Fp i Q hK=>ep Z Z (D.O i) Z cO Z Z λ aQ m D=>hK _ _ ?_;have:=i.size;have pS:=Φ o4 i;have:=m.size;have K7:=Ext.H pS m bn;refine fn λ NV j=>?_;have:=j.size;have pU:=Φ K7 j;refine a7<|ar<|κ (aj Ec Z)<|?_;have D:=D.O j;refine a1 Z D aH Z<|κ (gy Z Z)<|ax<|?_;refine c7 Z (λ xA=>?_) (λ xA=>?_)
   .refine rg<|vm Z<|κ (aq Z (D.all oI eg))<|cT (e:=68) (cs:=[J ((W.ah.getD k default).id),J ((W.ah.getD k default).H),J ((W.ah.getD k default).O),J ((W.ah.getD k default).an.x),J ((W.ah.getD k default).an.y),J (((W.ah.getD k default).K)-((hL W l).getD k 0)),J ((W.ah.getD k default).load)]) Z (λ _=>GT) Z λ NW aR K aI Lh=>?_;have wW:=Φ pU K;have aD:=Lh.lt;have y:=((((y.O p).H o (bV V)).O i).H m (bV V)).O (Φ j K);refine ap awH τ.O y (aO.G (R:=bb.ce) (by_:=56) (q:=(⟨(W.ah.getD k default).id,(W.ah.getD k default).H,(W.ah.getD k default).O,⟨(W.ah.getD k default).an.x,(W.ah.getD k default).an.y⟩,((W.ah.getD k default).K)-((hL W l).getD k 0),(W.ah.getD k default).load⟩:bb)) Lh ⟨Z,by obtain⟨kn,jh,jx,jQ,ko,oS,wy⟩:=cA k;exact⟨kn,jh,jx,jQ,ko,ea,wy⟩⟩ GP) Z Z (by simp only[baj,baq];omega) (by simp only[baj,baq];omega) wW.size Z λ Sd an ah O ZM PO ay=>?_;have BF:=Ext.H wW O (λ q I=>(y.lt q I).1);refine va Z<|nl<|bK<|cW Z Z Z<|?_;have r:tE W.ah (hL W l) (k+1)=tE W.ah (hL W l) k++ [(⟨(W.ah.getD k default).id,(W.ah.getD k default).H,(W.ah.getD k default).O,⟨(W.ah.getD k default).an.x,(W.ah.getD k default).an.y⟩,((W.ah.getD k default).K)-((hL W l).getD k 0),(W.ah.getD k default).load⟩:bb)]:=by rw[aKd xA];try rfl
    have s:tj W.ah (hL W l) (k+1)=tj W.ah (hL W l) k:=by rw[aFd xA];try rfl
    have d:=(((((d.O p).H o aJ).O i).H m aJ).O (Φ j K)).H O (λ I=>Ak _ I rfl);have f:=(((((f.O p).H o aJ).O i).H m aJ).O (Φ j K)).H O (λ I=>Cm _ I rfl);have h:=(((h.O i).H m (bM λ q I b=>by have:=X q I;have:=P q I;omega)).O (Φ j K)).H O (fa LW);have g:=(((((g.O p).H o (bM λ q I b=>by have:=M q I;have:=L q I;omega)).O i).H m (bM λ q I b=>by have:=M q I;have:=L q I;omega)).O (Φ j K)).H O (fa Cn);have C:=(((((C.O p).H o (bV RZ)).O i).H m (bV RZ)).O (Φ j K)).H O Pq;exact oR _ _ ⟨k+1,an,ah,z,Pg,Z,Z,BF,d,f,h,g,(by rw[r];exact ZM),(by rw[s];exact C),GE,(eh PO Ak),(eh PO Cm),(λ q I b=>by (exact baC (PO q I) (λ ab=>by (exact Cn q ab b)) (λ ab=>by (have:=M q b;have:=L q b;omega)))),(λ q I b=>by (exact baC (PO q I) (λ ad=>by (exact LW q ad b)) (λ ad=>by (have:=X q b;have:=P q b;omega)))),yI,GH,I2,Pp,(fa (oq PO (fa Pq) RZ))⟩ GE (.cons Z (.cons Z (.cons Z (.cons Z (.cons Z (.cons (by rw[s];rfl) (.cons (by rw[r];rfl) (c' Z Z Z))))))))
   .refine rg<|vm Z<|κ (aj r6 Z)<|a1 Z D aH Z<|cT (e:=3) (cs:=[J ((W.ah.getD k default).id)]) Z (λ _=>GT) Z λ R5 aS H aT FN=>?_;have zD:=Φ pU H;have aU:=FN.lt;have C:=((((C.O p).H o (bV RZ)).O i).H m (bV RZ)).O (Φ j H);refine ap awI τ.O C (aO.G (R:=bN) (by_:=8) (q:=(W.ah.getD k default).id) FN ⟨Z,(cA k).1⟩ GP) Z Z (by simp only[baj,baq];omega) (by simp only[baj,baq];omega) zD.size Z λ aN am aw N ao Y aB=>?_;have K0:=Ext.H zD N (λ q I=>(C.lt q I).1);refine va Z<|nl<|bK<|cW Z Z Z<|?_;have r:tE W.ah (hL W l) (k+1)=tE W.ah (hL W l) k:=by rw[aKc xA];try rfl
    have s:tj W.ah (hL W l) (k+1)=tj W.ah (hL W l) k++ [(W.ah.getD k default).id]:=by rw[aFc xA];try rfl
    have d:=(((((d.O p).H o aJ).O i).H m aJ).O (Φ j H)).H N (λ I=>yI _ I rfl);have f:=(((((f.O p).H o aJ).O i).H m aJ).O (Φ j H)).H N (λ I=>GH _ I rfl);have h:=(((h.O i).H m (bM λ q I b=>by have:=X q I;have:=P q I;omega)).O (Φ j H)).H N (fa Pp);have g:=(((((g.O p).H o (bM λ q I b=>by have:=M q I;have:=L q I;omega)).O i).H m (bM λ q I b=>by have:=M q I;have:=L q I;omega)).O (Φ j H)).H N (fa I2);have y:=(((((y.O p).H o (bV V)).O i).H m (bV V)).O (Φ j H)).H N (fa Pq);exact oR _ _ ⟨k+1,E,U,am,aw,Z,Z,K0,d,f,h,g,(by rw[r];exact y),(by rw[s];exact ao),GE,Ak,Cm,Cn,LW,(eh Y yI),(eh Y GH),(λ q I b=>by (exact baC (Y q I) (λ ae=>by (exact I2 q ae b)) (λ ae=>by (have:=M q b;have:=L q b;omega)))),(λ q I b=>by (exact baC (Y q I) (λ af=>by (exact Pp q af b)) (λ af=>by (have:=X q b;have:=P q b;omega)))),(oq Y Pq V)⟩ GE (.cons Z (.cons Z (.cons Z (.cons Z (.cons Z (.cons (by rw[s];rfl) (.cons (by rw[r];rfl) (c' Z Z Z))))))))
  .refine cI<|cH<|cU<|cG<|a7<|aC Z<|κ (aj fC Z)<|ep Z Z d Z Eb Z Z λ aE Ri d=>?_;have ai:=Ext.H mT Ri bn;refine ax<|ar<|κ (aq Z (d.all cD bP))<|vm Z<|?_;have f:=f.H Ri aJ;refine ck Z Z f Z bP Z Z λ aP J5 f=>?_;have Ij:=Ext.H ai J5 bn;refine va Z<|bc Z<|cJ (.cell Z (f.all cD bP) (.tmp Z (.tmp Z .nil)))<|?_;have g:=(g.H Ri (bx M5)).H J5 (bx M5);have y:=(y.H Ri (bM Ak)).H J5 (bM Cm);have C:=(C.H Ri (bM yI)).H J5 (bM GH);obtain⟨r,s⟩:=afQ S (k:=k) GE;have cc:=bF.aLx (g.dq GE) y Cn;refine⟨{G with T:=E,t:=U},z,Pg,by rw[S,r,s];rfl,by rw[r];exact cc,by rw[s];exact C,λ q I=>?_,Ij⟩;intro hf;rcases aEI hf with aa|aa
   .exfalso;(exact I2 q I aa)
   .exfalso;(exact Pq q I aa)
end
end Go.Proofs.YtooonebcoaleiaaGreat
