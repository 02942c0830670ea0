import Derived.Test.YtmeeljmapailnaaGreatMrQ
set_option linter.unusedVariables false
set_option linter.unusedSimpArgs false
set_option maxRecDepth 100000
set_option maxHeartbeats 4000000
open Go.RowKit
namespace Go.Proofs.YtmeeljmapailnaaGreat
open Tryz
abbrev aSH:=@List.pairwise_iff_getElem
abbrev aT1:=@List.mem_iff_getElem?
abbrev aUs:=@List.drop_zero
abbrev aUY:=@List.getElem_cons_zero
abbrev aUZ:=@List.getElem_cons_succ
abbrev aU9:=@Bool.eq_iff_iff
abbrev aWQ:=@Nat.lt_trichotomy
abbrev aWT:=@List.pairwise_map
section
def CG (s t:aY):Prop:=s.id<t.id∧s.spot≠t.spot
theorem Dm {α:Type} [Inhabited α] {l:List α} {i:Nat} {t:α} (h:l[i]? =some t):l.getD i default=t:=by rw [aRU,h];rfl
theorem Good.ayl {W:ae} (br:Good W) {i j:Nat} {s t:aY} (j3:i<j) (hs:W.ak[i]? =some s) (aC:W.ak[j]? =some t):s.id<t.id:=by
 induction j generalizing t with
 | zero=>omega
 | succ j bx =>
  have az:=(aRW.1 aC).1;obtain ⟨u,hu⟩:=iM (l:=W.ak) (i:=j) (by omega);have κ:=(br.ids (j+1) t aC).1;have ab:W.kd (j+1)=u.id:=by
   unfold ae.kd;rw [aR5 (by omega),aVx,Dm hu]
  rcases aUR.1 j3 with h | rfl
  ·have:=bx h hu;omega
  ·rw [hs] at hu;injection hu with hu;subst hu;omega
theorem Good.wJ {W:ae} (br:Good W):W.ak.Pairwise CG:=by
 rw [aSH];intro i j aq az j3;have hs:=aRX aq;have aC:=aRX az;refine ⟨br.ayl j3 hs aC,λ e=> ?_⟩;have κ:=br.jE j _ aC;rw [← e] at κ;have:(W.jE j).contains (W.ak[i]).spot=true:=by
  rw [aVf];unfold ae.jE;exact aSt.2 ⟨_,aT1.2 ⟨i,by rw [aSE,aR8 j3,hs]⟩,Z⟩
 rw [this] at κ;exact nomatch κ
theorem Good.each {W:ae} (br:Good W) {t:aY} (aC:t∈W.ak):0<t.id∧t.id<W.next∧Pb W.field W.aV.length t:=by
 obtain ⟨i,aq⟩:=aT1.1 aC;have κ:=br.ids i t aq;exact ⟨by omega,κ.2.1,br.ak i t aq⟩
theorem Good.akq {W V:ae} (br:Good W) (hf:V.field=W.field) (Φ:V.aV=W.aV) (hs:V.ba=W.ba) (hm:V.bk=W.bk) (hn:V.next=W.next) (b4:0≤V.now∧V.now≤1000000) (ay:V.ak.length≤100) (cj:V.ak.Pairwise CG)
  (dK:∀ t∈V.ak,0<t.id∧t.id<V.next∧Pb V.field V.aV.length t):Good V where
 field:=by rw [hf];exact br.field
 kg:=by rw [Φ];exact br.kg
 dV:=ay
 sl:=by rw [hs,Φ];exact br.sl
 aV:=by rw [Φ,hf];exact br.aV
 ba:=by rw [hs];exact br.ba
 tD:=by rw [hm,hf];exact br.tD
 bk:=by rw [hm,hf];exact br.bk
 ak:=λ i t aC=>(dK t (aSo aC)).2.2
 ids:=λ i t aC=>by
  have κ:=dK t (aSo aC);unfold ae.kd;split
  ·exact ⟨κ.1,κ.2.1,aTk _⟩
  ·rename_i aG
   have aq:=(aRW.1 aC).1;obtain ⟨u,hu⟩:=iM (l:=V.ak) (i:=i - 1) (by omega);rw [Dm hu];have ab:=dK u (aSo hu);have aw:=(aSH.1 cj) (i - 1) i (by omega) aq (by omega);have aZ:V.ak[i - 1]'(by omega)=u:=(aRW.1 hu).2;have bh:V.ak[i]=t:=(aRW.1 aC).2;rw [aZ,bh] at aw;exact ⟨aw.1,κ.2.1,by omega⟩
 jE:=λ i t aC=>by
  rw [aWW];intro hc;rw [aVf] at hc;unfold ae.jE at hc;obtain ⟨s,fp,gI⟩:=aSt.1 hc;obtain ⟨j,az⟩:=aT1.1 fp;rw [aSE] at az;split at az
  ·rename_i hV
   have aq:=(aRW.1 aC).1;have aw:=(aSH.1 cj) j i (by omega) aq hV;have aZ:V.ak[j]'(by omega)=s:=(aRW.1 az).2;have bh:V.ak[i]=t:=(aRW.1 aC).2;rw [aZ,bh] at aw;exact aw.2 gI
  ·exact nomatch az
 next:=by rw [hn];exact br.next
 now:=b4
theorem K9 {l:List aY} (cj:l.Pairwise CG) {x:aY} (hx:x∈l):l.find? (λ t=>t.id == x.id)=some x:=by
 obtain ⟨i,aq,rfl⟩:=aUD hx;refine aTp.2 ⟨by simp,i,aq,rfl,λ j az=> ?_⟩;have:=(aSH.1 cj) j i (by omega) aq az;have ab:(l[j]'(by omega)).id≠(l[i]).id:=by have:=this.1;omega
 simpa using ab
theorem aum {l:List aY} {x:Int} (h:∀ t∈l,t.id≠x):l.find? (λ t=>t.id == x)=none:=aSY.2 λ t aC=>by simpa using h t aC
end
section
theorem auo {α:Type} [Inhabited α] {p:α→Bool} {l:List α} (h:∀ i,i<l.length→p (l.getD i default)=false):l.find? p=none :=
 aSY.2 λ x hx=>by
  obtain ⟨i,aq,rfl⟩:=aUD hx;have:=h i aq;rw [aRU,aRX aq] at this;simpa using this
theorem auq {α:Type} [Inhabited α] {p:α→Bool} {l:List α} {k:Nat} (ar:k<l.length) (κ:p (l.getD k default)=true) (h:∀ i,i<k→p (l.getD i default)=false):l.find? p=some (l.getD k default):=by
 have e:l.getD k default=l[k]:=by rw [aRU,aRX ar];rfl
 rw [e] at κ ⊢;refine aTp.2 ⟨κ,k,ar,Z,λ j az=> ?_⟩;have:=h j az;rw [aRU,aRX (by omega:j<l.length)] at this;simpa using this
def np (l:List aY) (x:Int):Option aY:=l.find? λ t=>t.id == x
def Jm (l:List aY) (x:Int):Value:= .tuple #[.agg ((np l x).getD default).cells.toArray, .bool (np l x).isSome]
theorem aDP {l:List aY} {x:Int} {k:Nat} (ar:k<l.length) (κ:((λ t=>t.id == x):aY→Bool) (l.getD k default)=true) (h:∀ i,i<k→((λ t=>t.id == x):aY→Bool) (l.getD i default)=false):Jm l x= .tuple #[.agg (l.getD k default).cells.toArray, .bool true]:=by
 have e:np l x=some (l.getD k default):=auq ar κ h;unfold Jm;rw [e];rfl
theorem aDQ {l:List aY} {x:Int} (h:∀ i,i<l.length→((λ t=>t.id == x):aY→Bool) (l.getD i default)=false):Jm l x= .tuple #[.agg (default:aY).cells.toArray, .bool false]:=by
 have e:np l x=none:=auo h;unfold Jm;rw [e];rfl
def Ea (l:List Int):Bool:=(List.range (l.length - 1)).all λ i=> !decide (l.getD (i+1) 0<l.getD i 0)
theorem aDb {l:List Int} (h:∀ i,i+1<l.length→¬ l.getD (i+1) 0<l.getD i 0):Ea l=true:=by
 unfold Ea;rw [aSO];intro i aq;have:=h i (by have:=aSC.1 aq;omega);simpa using this
def aPF {α:Type} (l:List α) (k:Nat):List α:=l.mapIdx λ i x=>if i<k∨l.length - k≤i then (l[l.length - 1 - i]?).getD x else x
theorem aDT (x:Int) (a:ae.b2) (W:ae) (w:World) (bG:ae.Has w a W):
  Calls prog 10 #[.agg ((ae.cells a W).toArray), .int .i64 x] w (λ e w'=>e= .returned (Jm W.ak x)∧Ext w w'):=by
 have oA:=bG.T.eE;refine cl (n:=22) func10 Z Z Z ?_;refine aj<|cA Z Z Z Z λ cC bF a8 ef aa=> ?_;have:=a8.size;have bj:=γ (Ext.bN w) a8;have ei:=aa.lt;refine al Z Bi Z Z λ ew cu bl il ag=> ?_;have:=bl.size;have bO:=γ bj bl;have hW:=ag.lt;refine va Z<|ai<|aA<|aj<|J (av ku Z)<| ?_;have aa:=aa.later bl;refine J (ao Z (aa.one ma Z))<|J (cG underlying26 Z)<|vm Z<|ai<|bL<| ?_;refine eL (λ cg cf aQ=>∃ k:Nat,cf= [(1, .int .i64 x),(4, .pointer (some ⟨cu,0,none⟩)),(9, .slice a.T W.ak.length a.t),(10, .int .i64 (W.ak.length:Int)),(11, .int .i64 (k:Int))]∧cg=W.ak.length - k∧Ext w aQ∧aP aQ cu [.int .i64 0, .int .i64 0, .int .i64 0, .int .i64 0, .int .i64 0, .int .i64 0, .int .i64 0] 57 (0,0)∧(k≤W.ak.length)∧(∀ i,i<k→((λ t=>t.id == x):aY→Bool) (W.ak.getD i default)=false)) _ _ ⟨0,Z,Z,bO,ag,by omega,λ i aq=>by omega⟩ (.cons Z (.cons Z (.cons Z (.cons Z (.cons (bW Z) .nil))))) ?_;rintro DY aHd hX ⟨k,rfl,rfl,cY,ag,ar,aO⟩;have:=cY.size;have ak2:=ag.lt;refine aj<|J (blt Z Z)<|ai<|aA<| ?_;refine dY Z (λ xN=> ?_) (λ xN=> ?_)
 ·refine bu<|aA<|bL<|aj<|J (b9 k underlying26 ih Z Z ((bG.T.keep cY).bP (bb k)) Z (by omega))<|J (ao Z (τ.aJ.ik j0 ((bG.T.keep cY).cw (bb k)) (c8 (l:=W.ak) (u:=default) (by omega)) uB ih))<|al Z Bi Z Z λ Al aIw ea aMw JZ=> ?_;have:=ea.size;have lJ:=γ cY ea;have ak3:=JZ.lt;refine st (new:= [.int .i64 ((W.ak.getD k default).id), .int .i64 ((W.ak.getD k default).owner), .int .i64 ((W.ak.getD k default).kind), .int .i64 ((W.ak.getD k default).spot.x), .int .i64 ((W.ak.getD k default).spot.y), .int .i64 ((W.ak.getD k default).cD), .int .i64 ((W.ak.getD k default).load)]) Z Z JZ Z ih Z Z Z λ Am lT JZ=> ?_;have:=lT.size;have kE:=Ext.mod lJ lT bt;refine ai<|aj<|J (av FF Z)<|J (ao Z (JZ.one bc Z))<|vm Z<|J (beq Z Z)<|ai<| ?_;refine ka Z (λ mf=> ?_) (λ mf=> ?_)
  ·refine aj<|J (ao Z (JZ.all uB ih))<| ?_;have ag:=ag.later ea;have ag:=ag.mod lT aM;refine st (new:= [.int .i64 ((W.ak.getD k default).id), .int .i64 ((W.ak.getD k default).owner), .int .i64 ((W.ak.getD k default).kind), .int .i64 ((W.ak.getD k default).spot.x), .int .i64 ((W.ak.getD k default).spot.y), .int .i64 ((W.ak.getD k default).cD), .int .i64 ((W.ak.getD k default).load)]) Z Z ag Z ih Z Z Z λ Cj wB ag=> ?_;have:=wB.size;have qD:=Ext.mod kE wB bt;refine va Z<|ai<|rt<|e_<|bT<|nZ<|e_<|bT<|bd (.cell Z (ag.all uB ih) (.tmp Z .nil))<| ?_;exact ⟨by rw [aDP (k:=k) (by omega) (by simpa using mf) aO];rfl,qD⟩
  ·refine fI<|bY<|aU<|rg<|J (bad Z Z (bD (by omega)))<|vm Z<|nl<| ?_;have ag:=ag.later ea;have ag:=ag.mod lT aM;exact c9 _ _ ⟨k+1,Z,Z,kE,ag,by omega,wu aO (by simpa using mf)⟩ (by omega) (.cons Z (.cons Z (.cons Z (.cons Z (.cons (bW Z) .nil)))))
 ·refine dw<|du<|dN<|dt<|aU<|aj<|J (v:= .agg #[.int .i64 0, .int .i64 0, .int .i64 0, .int .i64 0, .int .i64 0, .int .i64 0, .int .i64 0]) (cI Z (by kernel_rfl))<|st (new:= [.int .i64 0, .int .i64 0, .int .i64 0, .int .i64 0, .int .i64 0, .int .i64 0, .int .i64 0]) Z Z ag Z ih Z Z Z λ yD q6 ag=> ?_;have:=q6.size;have j_:=Ext.mod cY q6 bt;refine va Z<|ai<|rt<|bd (.cell Z (ag.all uB ih) (.tmp Z .nil))<| ?_;exact ⟨by rw [aDQ (λ i aq=>aO i (by omega))];rfl,j_⟩
end
section
theorem aff {α:Type} (p:α→Bool):∀ l:List α,(l.filter p).length+(l.filter λ x=> !p x).length=l.length
 | []=>rfl
 | x::l=>by
  have bx:=aff p l;rw [aS4,aS4];cases p x<;>simp<;>omega
def uH (W:ae) (l:List c_):List aY:=(List.range W.ak.length).map (xX W.ak (fk W l))
structure ui (W:ae) (l:List c_):Prop where
 jY:Good W
 bG:fX W l= {W with ak:=(uH W l).filter λ t=>decide (0<t.cD)}
 br:mQ W l=((uH W l).filter λ t=> !decide (0<t.cD)).map aY.id
 aga:∀ k,0≤(fk W l).getD k 0
 ay:(fk W l).length=W.ak.length
theorem Ji {W:ae} {l:List c_} (h:mI W l=0):ui W l :=
 ⟨Good.q_ (Pv h).1,(ZF h rfl).1,(ZF h rfl).2,λ k=>((WO h).2 k).1,(WO h).1⟩
theorem IC (W:ae) (l:List c_):(uH W l).length=W.ak.length:=by simp [uH]
theorem IB {W:ae} {l:List c_} {k:Nat} {t:aY} (h:W.ak[k]? =some t):(uH W l)[k]? =some {t with cD:=t.cD - (fk W l).getD k 0}:=by
 have ar:=(aRW.1 h).1;unfold uH;rw [aSd,aVq ar,aTv];unfold xX;rw [Dm h]
theorem XL {W:ae} {l:List c_} {x:aY} (h:x∈uH W l):∃ (k:Nat) (t:aY),W.ak[k]? =some t∧x= {t with cD:=t.cD - (fk W l).getD k 0}:=by
 obtain ⟨k,ar⟩:=aT1.1 h;have bz:=(aRW.1 ar).1;rw [IC] at bz;obtain ⟨t,aC⟩:=iM bz;rw [IB aC] at ar;injection ar with ar
 exact ⟨k,t,aC,ar.symm⟩
theorem ui.wJ {W:ae} {l:List c_} (h:ui W l):(uH W l).Pairwise CG:=by
 rw [aSH];intro i j aq az j3;rw [IC] at aq az;obtain ⟨s,hs⟩:=iM aq;obtain ⟨t,aC⟩:=iM az;have aZ:=(aRW.1 (IB (l:=l) hs)).2;have bh:=(aRW.1 (IB (l:=l) aC)).2;rw [aZ,bh];have:=(aSH.1 h.jY.wJ) i j aq az j3;rw [(aRW.1 hs).2,(aRW.1 aC).2] at this;exact this
theorem ui.right {W:ae} {l:List c_} (h:ui W l):Good (fX W l):=by
 rw [h.bG];refine Good.akq h.jY Z Z Z Z Z h.jY.now ?_ (h.wJ.filter _) λ t aC=> ?_
 ·exact aSs (aUw _ _) (by rw [IC];exact h.jY.dV)
 ·obtain ⟨aC,hp⟩:=aTg.1 aC;obtain ⟨k,s,hs,rfl⟩:=XL aC;have κ:=h.jY.each (aSo hs);have ab:=h.aga k;have aw:=aS5 hp;refine ⟨κ.1,κ.2.1,⟨κ.2.2.kind,κ.2.2.owner,κ.2.2.ground, ?_,κ.2.2.load⟩⟩;have a6:=κ.2.2.cD;show 1≤s.cD - _∧s.cD - _≤ae.jB s.kind;have bH:0<s.cD - (fk W l).getD k 0:=aw;omega
theorem ui.count {W:ae} {l:List c_} (h:ui W l):(fX W l).ak.length+(mQ W l).length=W.ak.length:=by
 rw [h.bG,h.br,aSK,← IC W l];exact aff _ _
theorem alR {l:List Int} (h:l.Pairwise (· < ·)):Ea l=true:=by
 refine aDb λ i aq=> ?_;have:=(aSH.1 h) i (i+1) (by omega) aq (by omega);rw [aRU,aRU,aRX aq,aRX (by omega:i<l.length)];show ¬ l[i+1]<l[i];omega
theorem ui.sorted {W:ae} {l:List c_} (h:ui W l):Ea (mQ W l)=true:=by
 rw [h.br];refine alR ?_;rw [aWT];exact (h.wJ.filter _).imp λ h=>h.1
theorem ui.each {W:ae} {l:List c_} (h:ui W l) {k:Nat} (ar:k<W.ak.length):
  (∃ m:Int,0≤m∧np (fX W l).ak (W.ak.getD k default).id=some {W.ak.getD k default with cD:=(W.ak.getD k default).cD - m}∧(mQ W l).any (λ y=>(W.ak.getD k default).id == y)=false)∨
  (np (fX W l).ak (W.ak.getD k default).id=none∧(mQ W l).any (λ y=>(W.ak.getD k default).id == y)=true):=by
 obtain ⟨t,aC⟩:=iM ar;rw [Dm aC];have hx:=IB (l:=l) aC;obtain ⟨x,oC⟩:∃ x:aY,x= {t with cD:=t.cD - (fk W l).getD k 0}:=⟨_,rfl⟩;rw [← oC] at hx;have BJ:=aSo hx;have hid:x.id=t.id:=by rw [oC]
 have ahG:∀ y∈uH W l,y.id=t.id→y=x:=λ y aI e=>by
  have κ:=K9 h.wJ aI;have ab:=K9 h.wJ BJ;rw [e] at κ;rw [hid,κ] at ab;injection ab
 rw [h.bG,h.br];by_cases hp:0<x.cD
 ·refine .inl ⟨(fk W l).getD k 0,h.aga k, ?_, ?_⟩
  ·have:=K9 (h.wJ.filter λ t=>decide (0<t.cD)) (aTg.2 ⟨BJ,aSw hp⟩);rw [hid] at this;rw [← oC];exact this
  ·rw [aUt];intro y aI;obtain ⟨z,bC,rfl⟩:=aSt.1 aI;obtain ⟨mO,m_⟩:=aTg.1 bC;intro e;have e:t.id=z.id:=by simpa using e
   have:=ahG z mO e.symm;subst this;rw [aSw hp] at m_;exact nomatch m_
 ·refine .inr ⟨aum λ y aI e=> ?_, ?_⟩
  ·obtain ⟨κ,ab⟩:=aTg.1 aI;have:=ahG y κ e;subst this;exact hp (aS5 ab)
  ·rw [aS9];exact ⟨x.id,aSt.2 ⟨x,aTg.2 ⟨BJ,by rw [aSF hp];rfl⟩,Z⟩,by rw [hid];simp⟩
end
section
section
variable {f:aE} {a b c x y:ax} {d D:Int}
theorem aBC (hf:f.bm=0) (ha:f.ground a=true) (s_:0≤cL f a b c) (agn:0≤cL f a x c):lW f (cL f a b) c=lW f (cL f a x) c:=by
 have key:∀ t n,n∈dW c→0≤cL f a t c→((f.ground n && decide (0≤cL f a t n) && decide (cL f a t n+f.gJ c=cL f a t c))=true↔∃ e,sS f a n e∧sS f a c (e+f.gJ c)):=by
  intro t n hn aC;have hs:=VZ (b:=t) hf ha;have agE:=K' hf ha aC;constructor
  ·intro h;simp only [aR2,aSq] at h;exact ⟨_,K' hf ha h.1.2,by rw [h.2];exact agE⟩
  ·rintro ⟨e,κ,ab⟩;have he:=agE.uniq ab;have Q9:cL f a t n=e:=hs.known n e κ λ D vZ=>by
    have:=(hs.o5 c aC).2 D vZ;have aw:=aE.VL t (aE.Zu hn);have ar:=f.qd (c:=c);omega
   rw [Q9,m0.ground ha κ.1,aSw (m0.q8 κ.1),aSw he.symm];rfl
 unfold lW;congr 1;apply find_congr;intro n hn;rw [aU9,key b n hn s_,key x n hn agn]
where
 find_congr {p q:ax→Bool}:∀ {l:List ax},(∀ n∈l,p n=q n)→l.find? p=l.find? q
  | [],_=>rfl
  | n::l,h=>by
   rw [List.find?_cons,List.find?_cons,h n aSj,find_congr λ m hm=>h m (aSa _ hm)]
theorem aFd (hf:f.bm=0) (ha:f.ground a=true) (Φ:0≤cL f a b b) (hx:0≤cL f a x x):∀ (n:Nat) (c:ax),0≤cL f a b c→0≤cL f a x c→(cL f a b c).toNat=n→fS f (cL f a b) a c=fS f (cL f a x) a c:=by
 have TQ:=La hf ha Φ;have TR:=La hf ha hx;intro n;induction n using Nat.strongRecOn with
 | ind n bx =>
  intro c κ ab hn;by_cases e:c=a
  ·subst e;rw [Cl TQ,Cl TR]
  ·have hp:=aBC (b:=b) (x:=x) hf ha κ ab;obtain ⟨eM,ft,nh,yl⟩:=TQ.prev κ e;obtain ⟨lX,nj,yo,I'⟩:=TR.prev ab e;have ar:=f.qd (c:=c);rw [Cm TQ κ e,Cm TR ab e,← hp];congr 1;exact bx _ (by omega) _ nh (by rw [hp];exact yo) Z
theorem aFe {aB:ax→Int} (h:oY f a aB):∀ (n:Nat) (c:ax),0≤aB c→(aB c).toNat=n→∀ i,(aq:i<(fS f aB a c).length)→(fS f aB a c).drop i=fS f aB a ((fS f aB a c)[i])∧m0 f ((fS f aB a c)[i]) c (aB c - aB ((fS f aB a c)[i])):=by
 intro n;induction n using Nat.strongRecOn with
 | ind n bx =>
  intro c hc hn i aq;by_cases e:c=a
  ·subst e;rw [Cl h] at aq;have:i=0:=by simpa using aq
   subst this;simp only [Cl h,aUs,aUY];exact ⟨by first | trivial | rfl,by rw [aVI];exact .start rfl⟩
  ·have iO:=Cm h hc e;obtain ⟨eM,ft,nh,yl⟩:=h.prev hc e;have ar:=f.qd (c:=c);cases i with
   | zero =>
    have e0:(fS f aB a c)[0]=c:=by simp only [iO,aUY]
    rw [e0,aUs,aVI];exact ⟨Z, .start Z⟩
   | succ i =>
    have F0:i<(fS f aB a (lW f aB c)).length:=by rw [iO] at aq;simpa using aq
    obtain ⟨dU,ez⟩:=bx _ (by omega) _ nh rfl i F0;have aZ:(fS f aB a c)[i+1]=(fS f aB a (lW f aB c))[i]:=by simp only [iO,aUZ]
    rw [aZ];refine ⟨by rw [← dU,iO,aWH], ?_⟩;have r:m0 f _ c (aB (lW f aB c) - aB ((fS f aB a (lW f aB c))[i])+f.gJ c):= .step ez (aE.M9.2 ⟨aE.Zu eM,h.gr c hc⟩);rw [show aB c - aB ((fS f aB a (lW f aB c))[i])=aB (lW f aB c) - aB ((fS f aB a (lW f aB c))[i])+f.gJ c by omega];exact r
theorem aFh (he:hq f a b=0) {n:Nat} (hn:n<(fU f a b).length) {x:ax} (hx:(fU f a b).getD n default=x):hq f a x=0∧hq f x b=0∧fU f a x=(fU f a b).take (n+1)∧o_ f a x+o_ f x b=o_ f a b:=by
 obtain ⟨hf,ha,Φ,aG,ar,hp⟩:=VQ he;have F:=La hf ha aG;have ay:(fU f a b).length=(fS f (cL f a b) a b).length:=by rw [hp,aUc]
 have aq:(fS f (cL f a b) a b).length - 1 - n<(fS f (cL f a b) a b).length:=by omega
 obtain ⟨s1,s2⟩:=aFe F _ b aG rfl _ aq;have ex:(fS f (cL f a b) a b)[(fS f (cL f a b) a b).length - 1 - n]=x:=by
  rw [mK hn] at hx;rw [← hx];simp only [hp,aWA]
 rw [ex] at s1 s2;have BJ:x∈fS f (cL f a b) a b:=by rw [← ex];exact aS8 aq
 obtain ⟨fY,fb,jm⟩:=aFc F _ b aG rfl x BJ;have agF:=K' hf ha fY;have aZ:=afr hf ha agF;have jh:0≤cL f a x x:=by rw [aZ];exact fY
 have Bx:=VR hf ha jm jh;have r2:=auI hf jm s2;have ahK:=VR hf jm Φ r2.1;refine ⟨Bx,ahK, ?_, ?_⟩
 ·have Re:fU f a x=(fS f (cL f a x) a x).reverse:=by unfold fU;rw [aR8 Bx]
  rw [Re,← aFd hf ha aG jh _ x fY jh rfl,← s1,hp,List.reverse_drop,ay.symm.trans ay];congr 1;have:(fS f (cL f a b) a b).reverse.length=(fS f (cL f a b) a b).length:=aUc;omega
 ·have dU:o_ f a x=cL f a x x:=by unfold o_;rw [aR8 Bx]
  have ez:o_ f x b=cL f x b b:=by unfold o_;rw [aR8 ahK]
  rw [dU,ez,ar,aZ];have aw:=(K' hf ha aG).2 _ (m0.uU agF.1 (K' hf jm r2.1).1);omega
end
end
section
theorem al1 {f:aE} {l:List dm} {T:List aY} {k:Nat} {c:ax} (h:re f l T k=some c):
  0≤ey l (T.getD k default).id∧hq f (T.getD k default).spot (l.getD (ey l (T.getD k default).id).toNat default).bq=0∧2≤(fU f (T.getD k default).spot (l.getD (ey l (T.getD k default).id).toNat default).bq).length∧
  c=(fU f (T.getD k default).spot (l.getD (ey l (T.getD k default).id).toNat default).bq).getD 1 default∧jD T c≤0:=by
 unfold re at h;split at h
 ·exact nomatch h
 ·split at h
  ·exact nomatch h
  ·split at h
   ·exact nomatch h
   ·split at h
    ·exact nomatch h
    ·rename_i κ ab aw a6
     injection h with h
     subst h;exact ⟨by omega,by simpa using ab,by omega,rfl,by omega⟩
theorem am1 {f:aE} {a:ax} {aB:ax→Int} (h:oY f a aB) {c:ax} (hc:0≤aB c):∃ r,fS f aB a c=c::r∧(r= []↔c=a):=by
 by_cases e:c=a
 ·subst e;exact ⟨[],Cl h,by simp⟩
 ·obtain ⟨eM,ft,nh,yl⟩:=h.prev hc e;refine ⟨_,Cm h hc e,⟨λ hr=> ?_,λ h=>absurd h e⟩⟩;by_cases bh:lW f aB c=a
  ·rw [bh,Cl h] at hr;exact nomatch hr
  ·rw [Cm h nh bh] at hr;exact nomatch hr
theorem am2 {f:aE} {a b x:ax} (he:hq f a b=0) (hn:2≤(fU f a b).length) (hx:(fU f a b).getD 1 default=x):
  hq f a x=0∧hq f x b=0∧o_ f a x+o_ f x b=o_ f a b∧a∈dW x∧f.ground x=true∧x≠a∧fU f a x= [a,x]:=by
 obtain ⟨κ,ab,aw,a6⟩:=aFh he (n:=1) (by omega) hx;obtain ⟨hf,ha,Φ,aG,ar,hp⟩:=VQ he;obtain ⟨_,_,avh,jh,_,Re⟩:=VQ κ;have F:=La hf ha aG;have OO:=La hf ha jh;have ay:(fU f a x).length=2:=by rw [aw,aRZ];omega
 rw [Re,aUc] at ay;have XR:x≠a:=by
  intro e;obtain ⟨r,aZ,bh⟩:=am1 OO jh;rw [aZ,bh.2 e] at ay;simp at ay
 have iO:=Cm OO jh XR;obtain ⟨eM,ft,nh,yl⟩:=OO.prev jh XR;obtain ⟨r,aZ,bh⟩:=am1 OO nh;rw [iO,aZ] at ay;have hr:r= []:=aSu (by simpa using ay);have ahq:=bh.1 hr;refine ⟨κ,ab,a6,by rw [← ahq];exact eM,avh,XR, ?_⟩;rw [Re,iO,aZ,hr,ahq];rfl
theorem aCY {T:List aY} {k:Nat} {c:ax} (cj:T.Pairwise CG) (ar:k<T.length) (hc:jD T c≤0):(T.set k ((T.getD k default).bq c)).Pairwise CG:=by
 have j5:∀ t∈T,t.spot≠c:=λ t aC e=>by have:=aAF.2 ⟨t,aC,e⟩;omega
 have agI:T.getD k default=T[k]:=by rw [aRU,aRX ar];rfl
 rw [aSH] at cj ⊢;intro i j aq az j3;rw [aR4] at aq az;have h:=cj i j aq az j3;rw [List.getElem_set,List.getElem_set];split<;>split
 ·omega
 ·rename_i aZ bh
  subst aZ;exact ⟨by have asD:=aTc aY.id agI;have zA:=h.1;show (T.getD k default).id<_;omega,λ e=>j5 _ (aS8 az) e.symm⟩
 ·rename_i aZ bh
  subst bh;exact ⟨by have asD:=aTc aY.id agI;have zA:=h.1;show _<(T.getD k default).id;omega,j5 _ (aS8 aq)⟩
 ·exact h
theorem alZ {f:aE} {l:List dm} {T:List aY} {Q:aY→Prop} (iy:∀ t c,Q t→f.ground c=true→Q (t.bq c)) (cj:T.Pairwise CG) (b6:∀ t∈T,Q t):∀ k,k≤T.length→(kj f l T k).1.Pairwise CG∧∀ t∈(kj f l T k).1,Q t
 | 0,_=>⟨cj,b6⟩
 | k+1,ar=>by
  obtain ⟨ahO,XU⟩:=alZ (l:=l) iy cj b6 k (by omega);have ay:=(Sv (f:=f) (l:=l) (T:=T) k).1;cases hs:re f l (kj f l T k).1 k with
  | none=>rw [GB rfl hs];exact ⟨ahO,XU⟩
  | some c =>
   rw [NG rfl hs];obtain ⟨d1,d2,d3,d4,d5⟩:=al1 hs;obtain ⟨_,_,_,_,g,_⟩:=am2 d2 d3 d4.symm;refine ⟨aCY ahO (by omega) d5,λ t aC=> ?_⟩;rcases aTJ aC with aC | rfl
   ·exact XU t aC
   ·exact iy _ _ (XU _ (jC (by omega))) g
noncomputable def Gp (f:aE) (l:List dm) (T:List aY) (i:Nat):Option ax:=re f l (kj f l T i).1 i
theorem aDW {T:List aY} {k:Nat} {t:aY} (h:k<T.length):(T.set k t).getD k default=t:=by rw [aRU,aSl h];rfl
theorem aDV {T:List aY} {k i:Nat} {t:aY} (h:k≠i):(T.set k t).getD i default=T.getD i default:=by rw [aRU,aSp h,aRU]
theorem Su {f:aE} {l:List dm} {T:List aY}:∀ k,k≤T.length→∀ i,i<T.length→(kj f l T k).1.getD i default=if i<k then (match Gp f l T i with | some c=>(T.getD i default).bq c | none=>T.getD i default) else T.getD i default
 | 0,_,i,aq=>by rw [aR5 (by omega)];rfl
 | k+1,ar,i,aq=>by
  have bx:=Su (f:=f) (l:=l) (T:=T) k (by omega);have ay:=(Sv (f:=f) (l:=l) (T:=T) k).1;have qa:=bx k (by omega);rw [aR5 (by omega)] at qa;cases hs:Gp f l T k with
  | none =>
   rw [GB rfl hs,bx i aq];by_cases e:i=k
   ·subst e;rw [aR5 (by omega),aR8 (by omega),hs]
   ·by_cases bh:i<k
    ·rw [aR8 bh,aR8 (by omega)]
    ·rw [aR5 bh,aR5 (by omega)]
  | some c =>
   rw [NG rfl hs];by_cases e:i=k
   ·subst e;rw [aDW (by omega),aR8 (by omega),hs,qa]
   ·rw [aDV (λ h=>e h.symm),bx i aq];by_cases bh:i<k
    ·rw [aR8 bh,aR8 (by omega)]
    ·rw [aR5 bh,aR5 (by omega)]
theorem alY {f:aE} {l:List dm} {T:List aY}:∀ k,k≤T.length→(kj f l T k).2=((List.range k).filter λ i=>(Gp f l T i).isSome).map λ i=>(T.getD i default).id
 | 0,_=>rfl
 | k+1,ar=>by
  have bx:=alY (f:=f) (l:=l) (T:=T) k (by omega);have qa:=Su (f:=f) (l:=l) (T:=T) k (by omega) k (by omega);rw [aR5 (by omega)] at qa;rw [aTw,aUl,aSm,aS4];cases hs:Gp f l T k with
  | none=>rw [GB rfl hs,bx];simp
  | some c=>rw [NG rfl hs,bx,qa];simp
theorem azZ {W:ae} {l:List dm} (h:q7 W l=0):W.bm=0∧gK W l=(W.mv l).1∧pw W l=(W.mv l).2:=by
 have hc:W.bm=0:=by
  apply aTo;intro hn;rw [(aj2 (l:=l) hn).1] at h;exact hn h
 by_cases ay:(l.length:Int)≤200
 ·have:=RL (l:=l) hc ay;exact ⟨hc,this.2⟩
 ·rw [(aj3 (l:=l) hc (by omega)).1] at h;exact nomatch h
theorem M8 {W:ae} {l:List dm} (h:q7 W l=0):
  Good (gK W l)∧(gK W l).ak.length=W.ak.length∧Ea (pw W l)=true∧gK W l= {W with ak:=(gK W l).ak}∧
  ∀ k,k<W.ak.length→((pw W l).any (λ y=>(W.ak.getD k default).id == y)=false∧(gK W l).ak.getD k default=W.ak.getD k default)∨
   ∃ c:ax,(pw W l).any (λ y=>(W.ak.getD k default).id == y)=true∧(gK W l).ak.getD k default=(W.ak.getD k default).bq c∧0≤ey l (W.ak.getD k default).id∧
    hq W.field (W.ak.getD k default).spot (l.getD (ey l (W.ak.getD k default).id).toNat default).bq=0∧hq W.field c (l.getD (ey l (W.ak.getD k default).id).toNat default).bq=0∧hq W.field (W.ak.getD k default).spot c=0∧
    o_ W.field (W.ak.getD k default).spot (l.getD (ey l (W.ak.getD k default).id).toNat default).bq=o_ W.field c (l.getD (ey l (W.ak.getD k default).id).toNat default).bq+o_ W.field (W.ak.getD k default).spot c∧
    (W.ak.getD k default).spot∈dW c:=by
 obtain ⟨hc,auc,aub⟩:=azZ h;have br:=Good.q_ hc;rw [auc,aub];have dK:=alZ (f:=W.field) (l:=l) (T:=W.ak) (Q:=λ t=>0<t.id∧t.id<W.next∧Pb W.field W.aV.length t)
  (λ t c I aO=>⟨I.1,I.2.1,⟨I.2.2.kind,I.2.2.owner,aO,I.2.2.cD,I.2.2.load⟩⟩) br.wJ (λ t aC=>br.each aC) W.ak.length (aR7 _)
 have hlen:=ZE W l;have m6:=alY (f:=W.field) (l:=l) (T:=W.ak) W.ak.length (aR7 _);have Iy:=br.wJ;refine ⟨Good.akq br Z Z Z Z Z br.now (by rw [hlen];exact br.dV) dK.1 dK.2,hlen, ?_,Z,λ k ar=> ?_⟩
 ·show Ea (kj W.field l W.ak W.ak.length).2=true;rw [m6];refine alR ?_;rw [aWT];have hr:((List.range W.ak.length).filter λ i=>(Gp W.field l W.ak i).isSome).Pairwise (· < ·):=List.Pairwise.filter _ List.pairwise_lt_range;refine List.Pairwise.imp_of_mem (fun {i j} aq az j3=> ?_) hr;have aq:=aSC.1 (aTg.1 aq).1;have az:=aSC.1 (aTg.1 az).1;rw [mK aq,mK az];exact ((aSH.1 Iy) i j aq az j3).1
 ·have fA:=Su (f:=W.field) (l:=l) (T:=W.ak) W.ak.length (aR7 _) k ar;rw [aR8 ar] at fA;have qa:=Su (f:=W.field) (l:=l) (T:=W.ak) k (by omega) k ar;rw [aR5 (by omega)] at qa;have p4:((W.mv l).2).any (λ y=>(W.ak.getD k default).id == y)=(Gp W.field l W.ak k).isSome:=by
   show (kj W.field l W.ak W.ak.length).2.any _=_;rw [m6,aU9,aS9];constructor
   ·rintro ⟨y,aI,e⟩;obtain ⟨i,aq,rfl⟩:=aSt.1 aI;obtain ⟨BB,F1⟩:=aTg.1 aq;have BB:=aSC.1 BB;have e:(W.ak.getD k default).id=(W.ak.getD i default).id:=by simpa using e
    have:i=k:=by
     rw [mK ar,mK BB] at e;rcases aWQ i k with q | q | q
     ·have:=((aSH.1 Iy) i k BB ar q).1;omega
     ·exact q
     ·have:=((aSH.1 Iy) k i ar BB q).1;omega
    rw [← this];exact F1
   ·intro hs;exact ⟨_,aSt.2 ⟨k,aTg.2 ⟨aSC.2 ar,hs⟩,Z⟩,by simp⟩
  cases hs:Gp W.field l W.ak k with
  | none =>
   rw [hs] at fA p4;exact .inl ⟨p4,fA⟩
  | some c =>
   rw [hs] at fA p4;obtain ⟨d1,d2,d3,d4,d5⟩:=al1 hs;rw [qa] at d1 d2 d3 d4;obtain ⟨f1,f2,f3,f4,f5,f6,f7⟩:=am2 d2 d3 d4.symm;exact .inr ⟨c,p4,fA,d1,d2,f2,f1,by omega,f4⟩
end
section
structure aL where
 by_:Int
 kind:Int
 aR:Int
 spot:ax
 what:Int
 deriving DecidableEq,Inhabited
namespace aL
def cells (a:aL):List Value:= [.int .i64 (a.by_), .int .i64 (a.kind), .int .i64 (a.aR), .int .i64 (a.spot.x), .int .i64 (a.spot.y), .int .i64 (a.what)]
def ok (a:aL):Prop:=(Lit.int .i64 a.by_).wf=true∧(Lit.int .i64 a.kind).wf=true∧(Lit.int .i64 a.aR).wf=true∧(Lit.int .i64 a.spot.x).wf=true∧(Lit.int .i64 a.spot.y).wf=true∧(Lit.int .i64 a.what).wf=true
def raw (j:Nat) (u:Value):Prop:=match j with
 | 0=>∃ n:Int,u= .int .i64 n
 | 1=>∃ n:Int,u= .int .i64 n
 | 2=>∃ n:Int,u= .int .i64 n
 | 3=>∃ n:Int,u= .int .i64 n
 | 4=>∃ n:Int,u= .int .i64 n
 | 5=>∃ n:Int,u= .int .i64 n
 | _=>True
theorem rL (a:aL):∀ (j:Nat) u,a.cells[j]? =some u→raw j u:=by
 intro j u hu
 match j,hu with
 | 0,hu=>exact ⟨_,(aRV hu).symm⟩
 | 1,hu=>exact ⟨_,(aRV hu).symm⟩
 | 2,hu=>exact ⟨_,(aRV hu).symm⟩
 | 3,hu=>exact ⟨_,(aRV hu).symm⟩
 | 4,hu=>exact ⟨_,(aRV hu).symm⟩
 | 5,hu=>exact ⟨_,(aRV hu).symm⟩
 | j+6,hu=>exact trivial
theorem rK (a:aL):∀ u∈a.cells,u.oneCell'=true:=by
 intro u hu;unfold cells at hu;simp only [aSh,aTn,aT5] at hu;rcases hu with rfl | rfl | rfl | rfl | rfl | rfl<;>rfl
def rep:τ aL:=τ.flat 6 cells ok raw (λ _=>rfl) rK rL
theorem plain:rep.Plain:=τ.o'
def zero:Value:= .agg #[.int .i64 0, .int .i64 0, .int .i64 0, .int .i64 0, .int .i64 0, .int .i64 0]
theorem jq:∀ (j:Nat) u,zero.cells[j]? =some u→rep.raw j u:=by
 intro j u hu;have hu:(#[(.int .i64 0:Value),(.int .i64 0:Value),(.int .i64 0:Value),(.int .i64 0:Value),(.int .i64 0:Value),(.int .i64 0:Value)]:Array Value)[j]? =some u:=hu
 match j,hu with
 | 0,hu=>exact ⟨_,(aRV hu).symm⟩
 | 1,hu=>exact ⟨_,(aRV hu).symm⟩
 | 2,hu=>exact ⟨_,(aRV hu).symm⟩
 | 3,hu=>exact ⟨_,(aRV hu).symm⟩
 | 4,hu=>exact ⟨_,(aRV hu).symm⟩
 | 5,hu=>exact ⟨_,(aRV hu).symm⟩
 | j+6,hu=>cases hu
theorem info:(prog.info? 69).map (λ i=>(i.zero,i.size,i.bytes))=some (some zero,6,48):=by kernel_rfl
theorem nF {by_:Nat} {w:World} {A:Option Addr} {c:Nat} {l:List aL} (h:rep.aJ by_ w A c l):∀ a∈l,a.ok:=τ.aJ.ze (R:=rep) (Q:=ok) (fun {w cs a} (h:rep.has w cs a)=>(show cs=a.cells∧a.ok from h).2) h
def sh:gQ:=(.cons (.int .i64) (.cons (.int .i64) (.cons (.int .i64) (.cons (.cons (.int .i64) (.cons (.int .i64) .nil)) (.cons (.int .i64) .nil)))))
end aL
end
section
theorem ao8:TP prog aL.cells 69 :=by
 intro a b w;obtain ⟨a0,ck,a2,⟨a3,a4⟩,a5⟩:=a;obtain ⟨Ux,nH,f_,⟨gR,zg⟩,Fm⟩:=b;simp only [aL.cells,aL.mk.injEq,ax.mk.injEq];constructor
 ·go_simp
  repeat' split
  all_goals simp_all
 ·go_simp
  repeat' split
  all_goals simp_all
theorem ao7:(prog).eqGuardType (prog).depth 69 =false:=by kernel_rfl
theorem LN {w:World} {cs:List Value} {a:aL} (h:aL.rep.has w cs a):cs=a.cells:=aTW (show cs=a.cells∧a.ok from h)
def aL.bare (o:aL):aL:=⟨o.by_,o.kind,if o.kind=5 then 0 else o.aR,if o.kind≠2∧o.kind≠3 then ⟨0,0⟩ else o.spot,if o.kind≠1∧o.kind≠5 then 0 else o.what⟩
def aL.I5 (o:aL):Bool:= !cN o.by_ 0 7 || !cN o.kind 1 5 || !cN o.aR 0 1000000 || !cN o.spot.x (-1000) 1000 || !cN o.spot.y (-1000) 1000 || !cN o.what 0 1000000
def aL.bm (o:aL):Int:=if o.I5=true then 1 else if (!decide (o.bare=o))=true then 4 else 0
theorem aL.ads {o:aL} (h:o.I5=true):o.bm=1:=by unfold aL.bm;rw [aR8 h]
theorem aL.ard {o:aL} (h:o.I5=false) (ab:(!decide (o.bare=o))=true):o.bm=4:=by unfold aL.bm;rw [aR5 (by rw [h];decide),aR8 ab]
theorem aL.arf {o:aL} (h:o.I5=false) (ab:(!decide (o.bare=o))=false):o.bm=0:=by unfold aL.bm;rw [aR5 (by rw [h];decide),aR5 (by rw [ab];decide)]
def iB (l:List aL):Int:=if 100<l.length then 2 else match l.find? (λ o=>o.bm != 0) with | some o=>o.bm | none=>0
theorem aA0 {l:List aL} (h:100<l.length):iB l=2:=by unfold iB;rw [aR8 h]
theorem aA1 {l:List aL} (h:l.length≤100) (aO:∀ i,i<l.length→(l.getD i default).bm=0):iB l=0:=by
 unfold iB;rw [aR5 (by omega)];have:l.find? (λ o=>o.bm != 0)=none:=aSY.2 λ x hx=>by
  obtain ⟨i,aq,rfl⟩:=aSV.1 hx;have:=aO i aq;rw [mK aq] at this;simp [this]
 rw [this]
theorem aAZ {l:List aL} {k:Nat} (h:l.length≤100) (ar:k<l.length) (aO:∀ i,i<k→(l.getD i default).bm=0) (Φ:¬ (l.getD k default).bm=0):iB l=(l.getD k default).bm:=by
 unfold iB;rw [aR5 (by omega)];have:l.find? (λ o=>o.bm != 0)=some (l.getD k default):=by
  rw [aTp];refine ⟨by simpa using Φ,k,ar,(mK ar).symm,λ j az=> ?_⟩;have:=aO j az;rw [mK (by omega)] at this;simp [this]
 rw [this]
theorem I6 (n lo aq:Int) (w:World):
  Calls prog 130 #[.int .i64 n, .int .i64 lo, .int .i64 aq] w (λ e w'=>e= .returned (.bool (cN n lo aq))∧Ext w w'):=by
 refine cl (n:=15) func130 Z Z Z ?_;refine aj<|va Z<|ai<|aj<|vm Z<|vm Z<|J (ks Z Z)<|vm Z<|bs Z Z Z Z (λ hc=>aK Z) Z<|bs Z Z Z Z (λ hc=>aK Z) Z<|bs Z Z Z Z (λ hc=>ble (gt hc Z) (gt hc Z)) Z<|J (eN Z Z Z Z)<|va Z<|ai<|rt<|bd (.tmp Z .nil)<| ?_;exact ⟨Z,(Ext.bN w)⟩
theorem aAE (o:aL) (w:World):
  Calls prog 131 #[.agg #[.int .i64 o.by_, .int .i64 o.kind, .int .i64 o.aR, .int .i64 o.spot.x, .int .i64 o.spot.y, .int .i64 o.what]] w (λ e w'=>e= .returned (.agg (aL.bare o).cells.toArray)∧Ext w w'):=by
 refine cl (n:=27) func131 Z Z Z ?_;refine aj<|cA Z Z Z Z λ cC bF a8 ef aa=> ?_;have:=a8.size;have bj:=γ (Ext.bN w) a8;have ei:=aa.lt;refine al Z P2 Z Z λ ew cu bl il ag=> ?_;have:=bl.size;have bO:=γ bj bl;have hW:=ag.lt;refine ai<|aA<|aj<|J (av p1 Z)<| ?_;have aa:=aa.later bl;refine J (ao Z (aa.one bc Z))<|J (beq Z Z)<|ai<| ?_;refine ka Z (λ iN=> ?_) (λ iN=> ?_)
 ·refine rg<|J (av Df Z)<|st (new:= [.int .i64 o.by_, .int .i64 o.kind, .int .i64 0, .int .i64 o.spot.x, .int .i64 o.spot.y, .int .i64 o.what]) Z Z aa Z dx Z Z Z λ yB qf aa=> ?_;have:=qf.size;have kV:=Ext.mod bO qf bt;refine ai<|aA<|aj<|J (av p1 Z)<|J (ao Z (aa.one bc Z))<|J (bne Z Z)<|vm Z<|bs Z Z Z Z (λ hc=>av p1 Z) Z<|bs Z Z Z Z (λ hc=>ao (gt hc Z) (aa.one bc Z)) Z<|bs Z Z Z Z (λ hc=>bne (gt hc Z) Z) Z<|J (eN Z Z Z Z)<|ai<| ?_;refine ed Z (λ xN=> ?_) (λ xN=> ?_)
  ·simp only [cE] at xN;refine rg<|J (v:= .agg #[.int .i64 0, .int .i64 0]) (cI Z (by kernel_rfl))<|J (av Dg Z)<|st (new:= [.int .i64 o.by_, .int .i64 o.kind, .int .i64 0, .int .i64 0, .int .i64 0, .int .i64 o.what]) Z Z aa Z bU Z Z Z λ Al qg aa=> ?_;have:=qg.size;have lJ:=Ext.mod kV qg bt;refine ai<|aA<|aj<|J (av p1 Z)<|J (ao Z (aa.one bc Z))<|J (bne Z Z)<|vm Z<|bs Z Z Z Z (λ hc=>av p1 Z) Z<|bs Z Z Z Z (λ hc=>ao (gt hc Z) (aa.one bc Z)) Z<|bs Z Z Z Z (λ hc=>bne (gt hc Z) Z) Z<|J (eN Z Z Z Z)<|ai<| ?_;refine ed Z (λ s9=> ?_) (λ s9=> ?_)
   ·simp only [cE] at s9;refine rg<|J (av Dh Z)<|st (new:= [.int .i64 o.by_, .int .i64 o.kind, .int .i64 0, .int .i64 0, .int .i64 0, .int .i64 0]) Z Z aa Z dx Z Z Z λ Ep im aa=> ?_;have:=im.size;have sK:=Ext.mod lJ im bt;refine ai<|aj<|J (ao Z (aa.all jW fN))<| ?_;have ag:=ag.mod qf aM;have ag:=ag.mod qg aM;have ag:=ag.mod im aM;refine st (new:= [.int .i64 o.by_, .int .i64 o.kind, .int .i64 0, .int .i64 0, .int .i64 0, .int .i64 0]) Z Z ag Z fN Z Z Z λ Ci yd ag=> ?_;have:=yd.size;have pG:=Ext.mod sK yd bt;refine ai<|rt<|bd (.cell Z (ag.all jW fN) .nil)<| ?_;exact ⟨by rw [show aL.bare o=(⟨o.by_,o.kind,0,⟨0,0⟩,0⟩:aL) from by unfold aL.bare;congr 1<;>(first | rfl | (split<;>first | rfl | omega))];rfl,pG⟩
   ·simp only [cE] at s9;refine bu<|aj<|J (ao Z (aa.all jW fN))<| ?_;have ag:=ag.mod qf aM;have ag:=ag.mod qg aM;refine st (new:= [.int .i64 o.by_, .int .i64 o.kind, .int .i64 0, .int .i64 0, .int .i64 0, .int .i64 o.what]) Z Z ag Z fN Z Z Z λ GI lC ag=> ?_;have:=lC.size;have rr:=Ext.mod lJ lC bt;refine ai<|rt<|bd (.cell Z (ag.all jW fN) .nil)<| ?_;exact ⟨by rw [show aL.bare o=(⟨o.by_,o.kind,0,⟨0,0⟩,o.what⟩:aL) from by unfold aL.bare;congr 1<;>(first | rfl | (split<;>first | rfl | omega))];rfl,rr⟩
  ·simp only [cE] at xN;refine bu<|aA<|aj<|J (av p1 Z)<|J (ao Z (aa.one bc Z))<|J (bne Z Z)<|vm Z<|bs Z Z Z Z (λ hc=>av p1 Z) Z<|bs Z Z Z Z (λ hc=>ao (gt hc Z) (aa.one bc Z)) Z<|bs Z Z Z Z (λ hc=>bne (gt hc Z) Z) Z<|J (eN Z Z Z Z)<|ai<| ?_;refine ed Z (λ rY=> ?_) (λ rY=> ?_)
   ·simp only [cE] at rY;refine rg<|J (av Dh Z)<|st (new:= [.int .i64 o.by_, .int .i64 o.kind, .int .i64 0, .int .i64 o.spot.x, .int .i64 o.spot.y, .int .i64 0]) Z Z aa Z dx Z Z Z λ wQ lD aa=> ?_;have:=lD.size;have mC:=Ext.mod kV lD bt;refine ai<|aj<|J (ao Z (aa.all jW fN))<| ?_;have ag:=ag.mod qf aM;have ag:=ag.mod lD aM;refine st (new:= [.int .i64 o.by_, .int .i64 o.kind, .int .i64 0, .int .i64 o.spot.x, .int .i64 o.spot.y, .int .i64 0]) Z Z ag Z fN Z Z Z λ wR mm ag=> ?_;have:=mm.size;have jJ:=Ext.mod mC mm bt;refine ai<|rt<|bd (.cell Z (ag.all jW fN) .nil)<| ?_;exact ⟨by rw [show aL.bare o=(⟨o.by_,o.kind,0,⟨o.spot.x,o.spot.y⟩,0⟩:aL) from by unfold aL.bare;congr 1<;>(first | rfl | (split<;>first | rfl | omega))];rfl,jJ⟩
   ·simp only [cE] at rY;refine bu<|aj<|J (ao Z (aa.all jW fN))<| ?_;have ag:=ag.mod qf aM;refine st (new:= [.int .i64 o.by_, .int .i64 o.kind, .int .i64 0, .int .i64 o.spot.x, .int .i64 o.spot.y, .int .i64 o.what]) Z Z ag Z fN Z Z Z λ An ji ag=> ?_;have:=ji.size;have oa:=Ext.mod kV ji bt;refine ai<|rt<|bd (.cell Z (ag.all jW fN) .nil)<| ?_;exact ⟨by rw [show aL.bare o=(⟨o.by_,o.kind,0,⟨o.spot.x,o.spot.y⟩,o.what⟩:aL) from by unfold aL.bare;congr 1<;>(first | rfl | (split<;>first | rfl | omega))];rfl,oa⟩
 ·refine bu<|aA<|aj<|J (av p1 Z)<|J (ao Z (aa.one bc Z))<|J (bne Z Z)<|vm Z<|bs Z Z Z Z (λ hc=>av p1 Z) Z<|bs Z Z Z Z (λ hc=>ao (gt hc Z) (aa.one bc Z)) Z<|bs Z Z Z Z (λ hc=>bne (gt hc Z) Z) Z<|J (eN Z Z Z Z)<|ai<| ?_;refine ed Z (λ rZ=> ?_) (λ rZ=> ?_)
  ·simp only [cE] at rZ;refine rg<|J (v:= .agg #[.int .i64 0, .int .i64 0]) (cI Z (by kernel_rfl))<|J (av Dg Z)<|st (new:= [.int .i64 o.by_, .int .i64 o.kind, .int .i64 o.aR, .int .i64 0, .int .i64 0, .int .i64 o.what]) Z Z aa Z bU Z Z Z λ GL gU aa=> ?_;have:=gU.size;have oU:=Ext.mod bO gU bt;refine ai<|aA<|aj<|J (av p1 Z)<|J (ao Z (aa.one bc Z))<|J (bne Z Z)<|vm Z<|bs Z Z Z Z (λ hc=>av p1 Z) Z<|bs Z Z Z Z (λ hc=>ao (gt hc Z) (aa.one bc Z)) Z<|bs Z Z Z Z (λ hc=>bne (gt hc Z) Z) Z<|J (eN Z Z Z Z)<|ai<| ?_;refine ed Z (λ WI=> ?_) (λ WI=> ?_)
   ·simp only [cE] at WI;refine rg<|J (av Dh Z)<|st (new:= [.int .i64 o.by_, .int .i64 o.kind, .int .i64 o.aR, .int .i64 0, .int .i64 0, .int .i64 0]) Z Z aa Z dx Z Z Z λ sB lF aa=> ?_;have:=lF.size;have i_:=Ext.mod oU lF bt;refine ai<|aj<|J (ao Z (aa.all jW fN))<| ?_;have ag:=ag.mod gU aM;have ag:=ag.mod lF aM;refine st (new:= [.int .i64 o.by_, .int .i64 o.kind, .int .i64 o.aR, .int .i64 0, .int .i64 0, .int .i64 0]) Z Z ag Z fN Z Z Z λ JB zR ag=> ?_;have:=zR.size;have qF:=Ext.mod i_ zR bt;refine ai<|rt<|bd (.cell Z (ag.all jW fN) .nil)<| ?_;exact ⟨by rw [show aL.bare o=(⟨o.by_,o.kind,o.aR,⟨0,0⟩,0⟩:aL) from by unfold aL.bare;congr 1<;>(first | rfl | (split<;>first | rfl | omega))];rfl,qF⟩
   ·simp only [cE] at WI;refine bu<|aj<|J (ao Z (aa.all jW fN))<| ?_;have ag:=ag.mod gU aM;refine st (new:= [.int .i64 o.by_, .int .i64 o.kind, .int .i64 o.aR, .int .i64 0, .int .i64 0, .int .i64 o.what]) Z Z ag Z fN Z Z Z λ JD Yr ag=> ?_;have:=Yr.size;have qG:=Ext.mod oU Yr bt;refine ai<|rt<|bd (.cell Z (ag.all jW fN) .nil)<| ?_;exact ⟨by rw [show aL.bare o=(⟨o.by_,o.kind,o.aR,⟨0,0⟩,o.what⟩:aL) from by unfold aL.bare;congr 1<;>(first | rfl | (split<;>first | rfl | omega))];rfl,qG⟩
  ·simp only [cE] at rZ;refine bu<|aA<|aj<|J (av p1 Z)<|J (ao Z (aa.one bc Z))<|J (bne Z Z)<|vm Z<|bs Z Z Z Z (λ hc=>av p1 Z) Z<|bs Z Z Z Z (λ hc=>ao (gt hc Z) (aa.one bc Z)) Z<|bs Z Z Z Z (λ hc=>bne (gt hc Z) Z) Z<|J (eN Z Z Z Z)<|ai<| ?_;refine ed Z (λ LD=> ?_) (λ LD=> ?_)
   ·simp only [cE] at LD;refine rg<|J (av Dh Z)<|st (new:= [.int .i64 o.by_, .int .i64 o.kind, .int .i64 o.aR, .int .i64 o.spot.x, .int .i64 o.spot.y, .int .i64 0]) Z Z aa Z dx Z Z Z λ NV kM aa=> ?_;have:=kM.size;have yP:=Ext.mod bO kM bt;refine ai<|aj<|J (ao Z (aa.all jW fN))<| ?_;have ag:=ag.mod kM aM;refine st (new:= [.int .i64 o.by_, .int .i64 o.kind, .int .i64 o.aR, .int .i64 o.spot.x, .int .i64 o.spot.y, .int .i64 0]) Z Z ag Z fN Z Z Z λ JF qh ag=> ?_;have:=qh.size;have sO:=Ext.mod yP qh bt;refine ai<|rt<|bd (.cell Z (ag.all jW fN) .nil)<| ?_;exact ⟨by rw [show aL.bare o=(⟨o.by_,o.kind,o.aR,⟨o.spot.x,o.spot.y⟩,0⟩:aL) from by unfold aL.bare;congr 1<;>(first | rfl | (split<;>first | rfl | omega))];rfl,sO⟩
   ·simp only [cE] at LD;refine bu<|aj<|J (ao Z (aa.all jW fN))<|st (new:= [.int .i64 o.by_, .int .i64 o.kind, .int .i64 o.aR, .int .i64 o.spot.x, .int .i64 o.spot.y, .int .i64 o.what]) Z Z ag Z fN Z Z Z λ amW ajY ag=> ?_;have:=ajY.size;have Ol:=Ext.mod bO ajY bt;refine ai<|rt<|bd (.cell Z (ag.all jW fN) .nil)<| ?_;exact ⟨by rw [show aL.bare o=(⟨o.by_,o.kind,o.aR,⟨o.spot.x,o.spot.y⟩,o.what⟩:aL) from by unfold aL.bare;congr 1<;>(first | rfl | (split<;>first | rfl | omega))];rfl,Ol⟩
theorem YH (o:aL) (w:World):
  Calls prog 94 #[.agg #[.int .i64 o.by_, .int .i64 o.kind, .int .i64 o.aR, .int .i64 o.spot.x, .int .i64 o.spot.y, .int .i64 o.what]] w (λ e w'=>e= .returned (.int .i64 o.bm)∧Ext w w'):=by
 refine cl (n:=43) func94 Z Z Z ?_;refine aj<|cA Z Z Z Z λ cC bF a8 ef aa=> ?_;have:=a8.size;have bj:=γ (Ext.bN w) a8;have ei:=aa.lt;refine va Z<|ai<|aA<|aj<|J (av uz Z)<|J (ao Z (aa.one bc Z))<|ca HP Z Z ((I6 o.by_ 0 7 _).mono ?_);rintro e ew ⟨rfl,cz⟩;refine ⟨_,Z, ?_⟩;have:=cz.size;have bO:=γ bj cz;refine J (dV Z)<|vm Z<|bs Z Z Z Z (λ hc=>av p1 Z) Z<| ?_;have aa:=aa.later cz;refine bs Z Z Z Z (λ hc=>ao (gt hc Z) (aa.one bc Z)) Z<|Ah Z Z Z Z HP (λ hc=>ij (gt hc Z) (ij Z (ij Z Z))) (λ hc=>I6 o.kind 1 5 _) Z λ wP nt=> ?_;have:=nt.size;have kU:=γ bO nt;refine bs Z Z Z Z (λ hc=>dV (gt hc Z)) Z<|J (fB Z Z Z Z)<|vm Z<|bs Z Z Z Z (λ hc=>av Df Z) Z<| ?_;have aa:=aa.later nt;refine bs Z Z Z Z (λ hc=>ao (gt hc Z) (aa.one bc Z)) Z<|Ah Z Z Z Z HP (λ hc=>ij (gt hc Z) (ij Z (ij Z Z))) (λ hc=>I6 o.aR 0 1000000 _) Z λ Jt qx=> ?_;have:=qx.size;have wX:=γ kU qx;refine bs Z Z Z Z (λ hc=>dV (gt hc Z)) Z<|J (fB Z Z Z Z)<|vm Z<|bs Z Z Z Z (λ hc=>av Dg Z) Z<|bs Z Z Z Z (λ hc=>av je (gt hc Z)) Z<| ?_;have aa:=aa.later qx;refine bs Z Z Z Z (λ hc=>ao (gt hc Z) (aa.one bc Z)) Z<|Ah Z Z Z Z HP (λ hc=>ij (gt hc Z) (ij Z (ij Z Z))) (λ hc=>I6 o.spot.x (-1000) 1000 _) Z λ Ju mz=> ?_;have:=mz.size;have n':=γ wX mz;refine bs Z Z Z Z (λ hc=>dV (gt hc Z)) Z<|J (fB Z Z Z Z)<|vm Z<|bs Z Z Z Z (λ hc=>av Dg Z) Z<|bs Z Z Z Z (λ hc=>av jf (gt hc Z)) Z<| ?_;have aa:=aa.later mz;refine bs Z Z Z Z (λ hc=>ao (gt hc Z) (aa.one bc Z)) Z<|Ah Z Z Z Z HP (λ hc=>ij (gt hc Z) (ij Z (ij Z Z))) (λ hc=>I6 o.spot.y (-1000) 1000 _) Z λ Ak hM=> ?_;have:=hM.size;have nu:=γ n' hM;refine bs Z Z Z Z (λ hc=>dV (gt hc Z)) Z<|J (fB Z Z Z Z)<|vm Z<|bs Z Z Z Z (λ hc=>av Dh Z) Z<| ?_;have aa:=aa.later hM;refine bs Z Z Z Z (λ hc=>ao (gt hc Z) (aa.one bc Z)) Z<|Ah Z Z Z Z HP (λ hc=>ij (gt hc Z) (ij Z (ij Z Z))) (λ hc=>I6 o.what 0 1000000 _) Z λ Ch dO=> ?_;have:=dO.size;have kD:=γ nu dO;refine bs Z Z Z Z (λ hc=>dV (gt hc Z)) Z<|J (fB Z Z Z Z)<|ai<| ?_;refine ed Z (λ rX=> ?_) (λ rX=> ?_)
 ·refine aj<|va Z<|ai<|rt<|bT<|bd (.tmp Z .nil)<| ?_;exact ⟨by rw [aL.ads rX];rfl,kD⟩
 ·refine bu<|aA<|aA<| ?_;refine rd [(0,0),(1,0),(2,0)] [0,1,2,3] (by kernel_rfl) (by kernel_rfl) ?_;have aa:=aa.later dO;refine bJ Z (λ _ x=>ao Z ((aa.later x).all jW fN))<|p2 Z Z asW Z (λ _ x=>aAE o _) Z<|bJ Z (λ _ x=>ao Z ((aa.later x).all jW fN))<|au Z (λ _=>ac4 ao8 ao7 (p:=aL.bare o) (q:=o) Z Z)<|fn λ SW sG=> ?_;have:=sG.size;have Au:=γ kD sG;refine aU<| ?_;refine ed Z (λ Lx=> ?_) (λ Lx=> ?_)
  ·refine aj<|va Z<|ai<|rt<|bT<|bd (.tmp Z .nil)<| ?_;exact ⟨by rw [aL.ard rX Lx];rfl,Au⟩
  ·refine bu<|aj<|va Z<|ai<|rt<|bd (.tmp Z .nil)<| ?_;exact ⟨by rw [aL.arf rX Lx];rfl,Au⟩
theorem YG (A:Option Addr) (c:Nat) (l:List aL) (w:World) (ay:aL.rep.aJ 48 w A c l):
  Calls prog 56 #[.slice A l.length c] w (λ e w'=>e= .returned (.int .i64 (iB l))∧Ext w w'):=by
 have oA:=ay.eE;refine cl (n:=21) func56 Z Z Z ?_;refine aj<|va Z<|ai<|aA<|aj<|vm Z<|J (cG underlying48 Z)<|J (iJ Z Z)<|ai<| ?_;refine dY Z (λ ow=> ?_) (λ ow=> ?_)
 ·refine aj<|va Z<|ai<|rt<|bT<|bd (.tmp Z .nil)<| ?_;exact ⟨by rw [aA0 (by omega)];rfl,(Ext.bN w)⟩
 ·refine bu<|aA<|aj<|vm Z<|J (cG underlying48 Z)<|vm Z<|ai<|bL<| ?_;refine eL (λ cg cf aQ=>∃ k:Nat,cf= [(9, .slice A l.length c),(10, .int .i64 (l.length:Int)),(11, .int .i64 (k:Int))]∧cg=l.length - k∧Ext w aQ∧(k≤l.length)∧(∀ i,i<k→(l.getD i default).bm=0)) _ _ ⟨0,Z,Z,(Ext.bN w),by omega,λ i aq=>by omega⟩ (.cons Z (.cons Z (.cons (bW Z) .nil))) ?_;rintro ajW abr l0 ⟨k,rfl,rfl,fJ,ar,aO⟩;have:=fJ.size;refine aj<|J (blt Z Z)<|ai<|aA<| ?_;refine dY Z (λ r0=> ?_) (λ r0=> ?_)
  ·refine bu<|aA<|bL<|aj<|J (b9 k underlying48 fN Z Z ((ay.keep fJ).bP (bb k)) Z (by omega))<|J (ao Z (τ.aJ.ik LN ((ay.keep fJ).cw (bb k)) (c8 (l:=l) (u:=default) (by omega)) jW fN))<|al Z P2 Z Z λ S2 Po cz ay5 mW=> ?_;have:=cz.size;have Av:=γ fJ cz;have aBX:=mW.lt;refine st (new:= [.int .i64 ((l.getD k default).by_), .int .i64 ((l.getD k default).kind), .int .i64 ((l.getD k default).aR), .int .i64 ((l.getD k default).spot.x), .int .i64 ((l.getD k default).spot.y), .int .i64 ((l.getD k default).what)]) Z Z mW Z fN Z Z Z λ Jt uO mW=> ?_;have:=uO.size;have wX:=Ext.mod Av uO bt;refine ai<|aj<|J (ao Z (mW.all jW fN))<|ca Vk Z Z ((YH (l.getD k default) _).mono ?_);rintro e u' ⟨rfl,iU⟩;refine ⟨_,Z, ?_⟩;have:=iU.size;have hE:=γ wX iU;refine va Z<|ai<|aj<|vm Z<|J (bne Z Z)<|ai<| ?_;refine eV Z (λ v_=> ?_) (λ v_=> ?_)
   ·refine aj<|vm Z<|va Z<|ai<|rt<|e_<|bT<|nZ<|e_<|bT<|bd (.tmp Z .nil)<| ?_;exact ⟨by rw [aAZ (by omega) (show k<l.length by omega) aO (by simpa using v_)];rfl,hE⟩
   ·refine fI<|bY<|aU<|rg<|J (bad Z Z (bD (by omega)))<|vm Z<|nl<| ?_;exact c9 _ _ ⟨k+1,Z,Z,hE,by omega,wu aO (by simpa using v_)⟩ (by omega) (.cons Z (.cons Z (.cons (bW Z) .nil)))
  ·refine dw<|du<|dN<|dt<|aU<|aj<|va Z<|ai<|rt<|bd (.tmp Z .nil)<| ?_;exact ⟨by rw [aA1 (by omega) (λ i aq=>aO i (by omega))];rfl,fJ⟩
end
end Go.Proofs.YtmeeljmapailnaaGreat
