import Derived.Test.YtooonebcoaleiaaGreatGolC
set_option linter.all false
set_option maxRecDepth 100000
set_option maxHeartbeats 4000000
open Go.RowKit
namespace Go.Proofs.YtooonebcoaleiaaGreat
open Tryz
abbrev bag:=@Go.Lib.hid
abbrev baF:=@decide_eq_true_eq
abbrev baK:=@List.length_replicate
abbrev baN:=@Bool.or_eq_false_iff
abbrev baT:=@decide_eq_false_iff_not
abbrev bbz:=@Nat.le_of_eq
abbrev bbJ:=@List.set_cons_zero
abbrev bbN:=@List.filter_cons
abbrev bbS:=@List.range_succ
abbrev bbT:=@List.mem_filter
abbrev bbW:=@List.set_cons_succ
abbrev bb6:=@Int.lt_or_le
abbrev bb8:=@List.filter_append
abbrev bcg:=@List.drop_eq_getElem_cons
abbrev bcA:=@Bool.not_true
abbrev bdq:=@decide_false
abbrev bdu:=@Int.add_mul_emod_self_right
abbrev bdD:=@decide_true
abbrev bdI:=@Bool.false_or
abbrev bd8:=@Bool.not_false
abbrev beh:=@Bool.or_false
abbrev bev:=@Int.sub_self
abbrev bew:=@Int.emod_eq_of_lt
abbrev bex:=@Int.add_comm
abbrev bey:=@Bool.true_or
abbrev bez:=@Bool.or_true
abbrev beH:=@Go.bodyPost_ret
abbrev be6:=@List.eq_of_mem_replicate
abbrev bfw:=@List.filter_eq_self
abbrev bfN:=@List.getElem_take
section
section
variable{α:Type}{p:α->Bool}{l L:List α}{d:α}{i j k:Nat}
def gZ(h:k<l.length):l.getD k d∈l:=by rw[baa,bac h];exact bbl h
def p6(h:k<l.length):l.getD k d=l[k]:=by rw[baa,bac h];rfl
def JM(h:∀ i,i<l.length->p (l.getD i d)=false):fK p l= -1:=JK λ j a=>by rw[<-p6 (d:=d) a];exact h j a
def JN(a:k<l.length)(c:p (l.getD k d)=true)(h:∀ i,i<k->p (l.getD i d)=false):fK p l=(k:Int):=
 JL a (by rw[<-p6 (d:=d) a];exact c) λ j b=>by rw[<-p6 (d:=d) (by omega:j<l.length)];exact h j b
def Fa(h:k<l.length):l.take (k+1)=l.take k++ [l.getD k d]:=by rw[baI h,p6 h]
def aIT(h:¬fK p l= -1):∃ k,k<l.length/\fK p l=(k:Int)/\l.take k=(l.take (k+1)).filter λ x=> !p x:=by
 rcases JJ p l with⟨e,_⟩|⟨k,a,e,f,c⟩
 .exact absurd e h
 .refine⟨k,a,e,?_⟩;rw[Fa (d:=l[k]) a,bb8,p6 a,bbN,f];simp only[bcA,ba0,bbE,List.filter_nil,baP];refine(bfw.2 λ x g=>?_).symm;obtain⟨j,b,rfl⟩:=bbf.1 g;rw[baf]at b;rw[bfN,c j GE];rfl
end
theorem aoj(b:FuncId)(cs:List Value)(p:bb->Bool)(A:Option Addr)(c:Nat)(l:List bb)(w:World)(g:bb.ce.aF 56 w A c l)(t:Enters prog b)(s:∀ x∈l,∀ w',Ext w w'->Calls prog b (([.agg #[J x.id,J x.H,J x.O,J x.an.x,J x.an.y,J x.K,J x.load]]:List Value)++cs).toArray w' λ e v=>e=.returned (.bool (p x))/\Ext w' v):
  Calls prog 181 #[.slice A l.length c,.func (.func b) #[] cs.toArray] w (λ e w'=>e=.returned (J (fK p l))/\Ext w w'):=by
 have G:=g.M;refine bT (n:=19) func181 Z Z Z ?_;refine ar<|aG Z<|av<|aC Z<|κ (bY underlying26 Z)<|vm Z<|ax<|bp<|?_;refine di (λ r q m=>∃ k:Nat,q=[(0,.slice A l.length c),(1,.func (.func b) #[] cs.toArray),(7,J (l.length:Int)),(8,J (k:Int))]/\r=l.length-k/\Ext w m/\(k<=l.length)/\(∀ i,i<k->p (l.getD i default)=false)) _ _ ⟨0,Z,Z,(Ext.U w),GE,λ i o=>GE⟩ (c' Z Z Z) ?_;rintro D B F ⟨k,rfl,rfl,a,E,f⟩;refine ar<|cF Z Z<|ax<|av<|?_;refine c7 Z (λ y=>?_) (λ y=>?_)
 .refine bf<|av<|bp<|aC Z<|aG Z<|aC Z<|vm Z<|vm Z<|κ (bD k underlying26 eg Z Z ((g.be a).Y (aL k)) Z GE)<|κ (aq Z (τ.aF.G gm ((g.be a).O (aL k)) (cg (l:=l) (u:=default) GE) oI eg))<|Ae t Z Z Z ((s (l.getD k default) (gZ GE) _ a).mono ?_);rintro e C ⟨rfl,z⟩;refine cR ?_;have j:=Φ a z;refine ax<|?_;refine dB Z (λ h=>?_) (λ h=>?_)
  .refine aC Z<|bc Z<|dO<|bR<|k1<|dO<|bR<|b3 Z Z<|?_;exact⟨by have e:=JN (p:=p) (l:=l) (d:=default) (k:=k) GE h f;rw[e];rfl,j⟩
  .refine dP<|bK<|cW Z Z Z<|?_;exact cM ⟨k+1,Z,Z,j,GE,pC f h⟩
 .refine cI<|cH<|cU<|cG<|a7<|ar<|bc Z<|b3 Z Z<|?_;exact⟨by have e:=JM (p:=p) (l:=l) (d:=default) (λ i o=>f i GE);rw[e];rfl,a⟩
end
def Te:dU prog aw.ce 25 41 16:=dU.O (z:=aw.zero) (k:=2) underlying25 aw.G rfl rfl GP aw.M
def kZ(n:Int):Int:=if n<0 then -1 else if 0<n then 1 else 0
def de(n:Int):Int:=if n<0 then -n else if 0<n then n else 0
def k0(n:Int):0<=de n/\(-2000<=n/\n<=2000->de n<=2000)/\(0<=n->de n=n)/\(n<0->de n= -n):=by unfold de;split<;>(try split)<;>omega
def Ny(n:Int): -1<=kZ n/\kZ n<=1:=by unfold kZ;split<;>(try split)<;>omega
def far(a b:aw):Int:=max (de (b.x-a.x)) (de (b.y-a.y))
def ze(a b:aw):Int:=min (de (b.x-a.x)) (de (b.y-a.y))
def sA(a b:aw)(s:Int×aw):Int×aw :=
  (if decide (far a b<=s.1+2*ze a b)then s.1+2*ze a b-2*far a b else s.1+2*ze a b,
   ⟨if !decide (de (b.x-a.x)<de (b.y-a.y)) || decide (far a b<=s.1+2*ze a b)then s.2.x+kZ (b.x-a.x)else s.2.x,
    if decide (de (b.x-a.x)<de (b.y-a.y)) || decide (far a b<=s.1+2*ze a b)then s.2.y+kZ (b.y-a.y)else s.2.y⟩)
def ey(a b:aw):Nat->Int×aw
  | 0=>(0,a)
  | k+1=>sA a b (ey a b k)
def wD(a b:aw)(k:Nat):List aw:=(List.range (k+1)).map λ i=>(ey a b i).2
def kk(a b:aw):List aw:=wD a b (far a b).toNat
def W'(a b:aw)(k:Nat):wD a b (k+1)=wD a b k++ [(ey a b (k+1)).2]:=by unfold wD;rw[bbS,baJ];rfl
def Ki(a b:aw)(k:Nat):(wD a b k).length=k+1:=by simp[wD]
def aEj(a b:aw):0<=ze a b/\ze a b<=far a b:=by
  have c:=k0 (b.x-a.x);have d:=k0 (b.y-a.y);unfold ze far;omega
def aql(a b:aw)(k:Nat): -far a b<=(ey a b k).1/\(ey a b k).1<=far a b:=by
  have d:=aEj a b;induction k with
  | zero=>show -far a b<=0/\0<=far a b;omega
  | succ k c =>
    show -far a b<=(sA a b (ey a b k)).1/\(sA a b (ey a b k)).1<=far a b;unfold sA;simp only[baF];split<;>omega
theorem aqm(a b:aw)(k:Nat):a.x-k<=(ey a b k).2.x/\(ey a b k).2.x<=a.x+k/\a.y-k<=(ey a b k).2.y/\(ey a b k).2.y<=a.y+k:=by
  have c:=Ny (b.x-a.x);have d:=Ny (b.y-a.y);induction k with
  | zero=>show a.x-_<=a.x/\a.x<=a.x+_/\a.y-_<=a.y/\a.y<=a.y+_;omega
  | succ k e =>
    show a.x-_<=(sA a b (ey a b k)).2.x/\(sA a b (ey a b k)).2.x<=a.x+_/\a.y-_<=(sA a b (ey a b k)).2.y/\(sA a b (ey a b k)).2.y<=a.y+_;unfold sA;simp only;split<;>split<;>omega
theorem WS(c:aw)(w:World)(h: -1000<=c.x/\c.x<=1000/\-1000<=c.y/\c.y<=1000):
    Calls prog 185 #[.agg #[J c.x,J c.y]] w (λ e w'=>e=.returned (.bool true)/\Ext w w'):=by
  refine bT (n:=23) func185 Z Z Z ?_;refine cZ Z Z λ i f d g b=>?_;refine aG Z<|ar<|κ (aj fj Z)<|a1 Z b aH Z<|κ (aj fj Z)<|a1 Z b aH Z<|κ (WT Z dK)<|κ (aj fk Z)<|a1 Z b aH Z<|κ (aj fk Z)<|a1 Z b aH Z<|κ (WT Z dK)<|κ (aKC Z Z Z Z)<|κ (ble Z Z)<|vm Z<|aR Z (λ a=>aj fj Z)<|aR Z (λ a=>aq (gt a Z) (b.one aH Z))<|aR Z (λ a=>aj fk Z)<|aR Z (λ a=>aq (gt a Z) (b.one aH Z))<|aR Z (λ a=>qh (gt a Z) (gt a Z))<|aR Z (λ a=>iV (gt a Z) Z)<|?_;refine κ (cQ Z Z Z Z)<|bc Z<|b3 Z Z<|?_;exact⟨Xp (by simp only[bai,baF];omega),d⟩
theorem XA(n:Int)(w:World)(h: -2000<=n/\n<=2000):
    Calls prog 186 #[J n] w (λ e w'=>e=.returned (.tuple #[J (kZ n),J (de n)])/\Ext w w'):=by
  refine bT (n:=13) func186 Z Z Z ?_;refine ar<|va Z<|aG Z<|av<|bp<|aC Z<|cF Z Z<|aG Z<|?_;refine c7 Z (λ b=>?_) (λ b=>?_)
  · refine aC rfl<|κ (WT rfl dK)<|va rfl<|bc rfl<|dO<|bR<|hE rfl rfl rfl<|?_
    exact⟨by unfold kZ de;simp only[*,bcj,bbE];try rfl,(Ext.U w)⟩
  · refine aC rfl<|κ (gy rfl rfl)<|aG rfl<|?_
    refine c7 Z (λ a=>?_) (λ a=>?_)
    · refine aC rfl<|va rfl<|bc rfl<|dO<|bR<|hE rfl rfl rfl<|?_
      exact⟨by unfold kZ de;simp only[*,bcj,bbE];try rfl,(Ext.U w)⟩
    · refine dP<|bK<|a7<|ar<|va rfl<|bc rfl<|hE rfl rfl rfl<|?_
      exact⟨by unfold kZ de;simp only[*,bcj,bbE];try rfl,(Ext.U w)⟩
theorem air(a b:aw)(w:World)(h: -1000<=a.x/\a.x<=1000/\-1000<=a.y/\a.y<=1000)(t: -1000<=b.x/\b.x<=1000/\-1000<=b.y/\b.y<=1000):
    Calls prog 149 #[.agg #[J a.x,J a.y],.agg #[J b.x,J b.y]] w (λ e w'=>e=.returned (.tuple #[J (far a b),J (de (b.x-a.x)+de (b.y-a.y)),J 0])/\Ext w w'):=by
  refine bT (n:=43) func149 Z Z Z ?_;refine cZ Z Z λ x s k v d=>?_;refine gz Z Z λ y u j z c=>?_;have l:=Φ k j;refine va Z<|va Z<|aG Z<|av<|ar<|?_;have d:=d.O j;refine κ (aq Z (d.all bS bq))<|cf UE Z (WS a _ GE) λ A f=>?_;have m:=Φ l f;refine κ (dj Z)<|vm Z<|iC Z Z Z<|?_;have c:=c.O f;refine κ (aq Z (c.all bS bq))<|iC Z Z Z<|cf UE Z (WS b _ GE) λ B g=>?_;have o:=Φ m g;refine iC Z Z Z<|κ (dj Z)<|κ (uZ Z Z)<|ax<|ef Z<|bf<|ar<|κ (aj fj Z)<|?_;have c:=c.O g;refine a1 Z c aH Z<|κ (aj fj Z)<|?_;have d:=d.O (Φ f g);refine a1 Z d aH Z<|κ (hi Z Z (mb (by have:=k0 (b.x-a.x);have:=k0 (b.y-a.y);omega)))<|cf UF Z (XA (b.x-a.x) _ GE) λ C i=>?_;have q:=Φ o i;refine vm Z<|bL Z Z<|bL Z Z<|va Z<|aG Z<|ar<|κ (aj fk Z)<|?_;have c:=c.O i;refine a1 Z c aH Z<|κ (aj fk Z)<|?_;have d:=d.O i;refine a1 Z d aH Z<|κ (hi Z Z (mb (by have:=k0 (b.x-a.x);have:=k0 (b.y-a.y);omega)))<|cf UF Z (XA (b.y-a.y) _ GE) λ D p=>?_;have r:=Φ q p;refine vm Z<|bL Z Z<|bL Z Z<|va Z<|aG Z<|aC Z<|vm Z<|κ (mx Z Z)<|vm Z<|vm Z<|κ (bad Z Z (mb (by have:=k0 (b.x-a.x);have:=k0 (b.y-a.y);omega)))<|va Z<|va Z<|bc Z<|cJ (.tmp Z (.tmp Z (.tmp Z .nil)))<|?_;exact⟨Z,r⟩
theorem aAp(a b:aw)(w:World)(h: -1000<=a.x/\a.x<=1000/\-1000<=a.y/\a.y<=1000)(ab: -1000<=b.x/\b.x<=1000/\-1000<=b.y/\b.y<=1000):
    Calls prog 199 #[.agg #[J a.x,J a.y],.agg #[J b.x,J b.y]] w (λ e w'=>∃ A c,e=.returned (.tuple #[.slice A (kk a b).length c,J 0])/\aw.ce.aM 41 16 w' w.heap.size (τ.ai A) A c (kk a b)/\Ext w w'):=by
  refine bT (n:=93) func199 Z Z Z ?_;refine cZ Z Z λ ch x aV cY f=>?_;have gp:=f.lt;refine gz Z Z λ dr b_ bh fl m=>?_;have bo:=Φ aV bh;have j8:=m.lt;refine va Z<|aG Z<|av<|ar<|?_;have f:=f.O bh;refine κ (aq Z (f.all bS bq))<|cf UE Z (WS a _ GE) λ fx C=>?_;have:=C.size;have cj:=Φ bo C;refine κ (dj Z)<|vm Z<|iC Z Z Z<|?_;have m:=m.O C;refine κ (aq Z (m.all bS bq))<|iC Z Z Z<|cf UE Z (WS b _ GE) λ nY D=>?_;have:=D.size;have fF:=Φ cj D;refine iC Z Z Z<|κ (dj Z)<|κ (uZ Z Z)<|ax<|ef Z<|bf<|ar<|κ (aj fj Z)<|?_;have m:=m.O D;refine a1 Z m aH Z<|κ (aj fj Z)<|?_;have f:=f.O (Φ C D);refine a1 Z f aH Z<|κ (hi Z Z dK)<|cf UF Z (XA (b.x-a.x) _ GE) λ vh F=>?_;have:=F.size;have jb:=Φ fF F;refine vm Z<|bL Z Z<|bL Z Z<|va Z<|aG Z<|ar<|κ (aj fk Z)<|?_;have m:=m.O F;refine a1 Z m aH Z<|κ (aj fk Z)<|?_;have f:=f.O F;refine a1 Z f aH Z<|κ (hi Z Z dK)<|cf UF Z (XA (b.y-a.y) _ GE) λ wM E=>?_;have:=E.size;have l8:=Φ jb E;refine vm Z<|bL Z Z<|bL Z Z<|va Z<|aG Z<|aC Z<|vm Z<|va Z<|aG Z<|av<|aC Z<|vm Z<|κ (gy Z Z)<|ax<|?_;refine c7 Z (λ K=>?_) (λ K=>?_)
  · have sr:=k0 (b.x-a.x)
    have ni:=k0 (b.y-a.y);have p:far a b=de (b.y-a.y):=by unfold far;omega
    have z:ze a b=de (b.x-a.x):=by unfold ze;omega
    have y:decide (de (b.x-a.x)<de (b.y-a.y))=true:=by exact baG K
    refine rg<|vm Z<|vm Z<|va Z<|aG Z<|ar<|?_;have f:=f.O E;refine κ (aq Z (f.all bS bq))<|cT (e:=41) (cs:=[J a.x,J a.y]) Z (λ _=>GT) Z λ vk P eB br aM=>?_;have gw:=Φ l8 eB;refine aG Z<|ar<|aG Z<|av<|aC Z<|vm Z<|ax<|bp<|?_;have f:=f.O eB;have jJ:∀ q∈τ.ai (bd P),P<=q:=λ q I=>bbz (bah.1 I).symm;refine di (λ U T u=>∃ k:Nat,∃ l:Option Addr,∃ o:Nat,T=[(2,.pointer (bd x)),(4,.slice none 0 0),(5,J 0),(6,J (kZ (b.x-a.x))),(7,J (de (b.x-a.x))),(8,J (kZ (b.y-a.y))),(9,J (de (b.y-a.y))),(10,J (de (b.y-a.y))),(11,J (de (b.x-a.x))),(12,.slice l ((wD a b k).length) o),(13,J ((ey a b k).1)),(50,J (de (b.y-a.y))),(51,J (k:Int))]/\U=(de (b.y-a.y)).toNat-k/\Ext w u/\aO u x [J ((ey a b k).2.x),J ((ey a b k).2.y)] 41 (0,0)/\aw.ce.aM 41 16 u w.heap.size (τ.ai l) l o (wD a b k)/\((k:Int)<=de (b.y-a.y))/\(∀ q∈τ.ai l,q=x->False)) _ _ ⟨0,some ⟨P,0,none⟩,1,Z,Z,gw,f,(aO.K (R:=aw.ce) (by_:=16) (B:=w.heap.size) (k:=[a]) aM [[J a.x,J a.y]] Z ⟨⟨Z,b7.2 GE,b7.2 GE⟩,trivial⟩ Kx Kx GP GE),(by have:=k0 (b.y-a.y);have:=k0 (b.x-a.x);omega),(λ q I v=>by (have:=jJ q I;omega))⟩ (.cons Z (.cons Z (.cons Z (.cons Z (.cons Z (.cons Z (.cons Z (.cons Z (.cons Z (.cons Z (.cons (xE Z) (c' Z Z Z)))))))))))) ?_;rintro xM bx wN ⟨k,l,o,rfl,rfl,Y,d,g,au,s⟩;have bz:=d.lt;have v:=aql a b k;have hp:=aqm a b k;have iL:=Ny (b.x-a.x);have ju:=Ny (b.y-a.y);have sr:=k0 (b.x-a.x);have ni:=k0 (b.y-a.y);have wh:=Ki a b k;refine ar<|cF Z Z<|ax<|av<|?_;refine c7 Z (λ aA=>?_) (λ aA=>?_)
    · refine bf<|av<|bp<|aC rfl<|vm rfl<|κ (mD rfl rfl dK)<|fb rfl rfl<|aG rfl<|aC rfl<|vm rfl<|κ (iV rfl rfl)<|aG rfl<|av<|ar<|?_
      refine vm Z<|ax<|?_;refine xp Z (λ N=>?_) (λ N=>?_)
      · rw[p]at v
        have t:decide (de (b.y-a.y)<=((ey a b k).1)+(2*(de (b.x-a.x))))=true:=by exact baG N
        refine rg<|vm Z<|vm Z<|κ (mD Z Z dK)<|κ (hi Z Z dK)<|aG Z<|av<|aC Z<|vm Z<|κ (iV Z Z)<|vm Z<|er Z Z<|κ (dS Z Z Z Z)<|ax<|?_;have aE:((decide (de (b.y-a.y)<=de (b.x-a.x))) || (decide (de (b.y-a.y)<=((ey a b k).1)+(2*(de (b.x-a.x))))))=true:=by simp only[baY,baF];omega
        refine fB (by rw[<-aE];rfl)<|rg<|κ (aj fj Z)<|a1 Z d aH Z<|vm Z<|fb Z Z<|κ (aj fj Z)<|ep Z Z d Z cO Z Z λ KH kl d=>?_;have:=kl.size;have oB:=Ext.H Y kl bn;refine ax<|av<|aC Z<|vm Z<|κ (gy Z Z)<|vm Z<|er Z Z<|κ (dS Z Z Z Z)<|ax<|?_;have xz:((decide (de (b.x-a.x)<de (b.y-a.y))) || (decide (de (b.y-a.y)<=((ey a b k).1)+(2*(de (b.x-a.x))))))=true:=by simp only[baY,baF];omega
        refine fB (by rw[<-xz];rfl)<|rg<|κ (aj fk Z)<|a1 Z d aH Z<|vm Z<|fb Z Z<|κ (aj fk Z)<|ep Z Z d Z cO Z Z λ H6 X d=>?_;have:=X.size;have sR:=Ext.H oB X bn;refine ax<|rg<|vm Z<|κ (aq Z (d.all bS bq))<|cT (e:=41) (cs:=[J (((ey a b k).2.x)+(kZ (b.x-a.x))),J (((ey a b k).2.y)+(kZ (b.y-a.y)))]) Z (λ _=>GT) Z λ bA bj W bs ae=>?_;have N9:=Φ sR W;have bb:=ae.lt;have g:=((g.H kl (bM s)).H X (bM s)).O W;refine ap Te τ.O g (aO.G (R:=aw.ce) (by_:=16) (q:=(⟨((ey a b k).2.x)+(kZ (b.x-a.x)),((ey a b k).2.y)+(kZ (b.y-a.y))⟩:aw)) ae ⟨Z,⟨ea,ea⟩⟩ GP) Z Z (by simp only[baj,baq];omega) (by simp only[baj,baq];omega) N9.size Z λ NR aK aS sG aQ ah aX=>?_;have vw:=Ext.H N9 sG (λ q I=>(g.lt q I).1);refine va Z<|nl<|bK<|cW Z Z Z<|?_;have i:ey a b (k+1)=((((ey a b k).1)+(2*(de (b.x-a.x))))-(2*(de (b.y-a.y))),⟨((ey a b k).2.x)+(kZ (b.x-a.x)),((ey a b k).2.y)+(kZ (b.y-a.y))⟩):=by
          show sA a b (ey a b k)=_;unfold sA;simp only[p,z,y,t,bcj,bbE,bez,bey,beh,bdI,ba0,bdD,bdq,bcA,bd8]
        have j:=W' a b k;rw[i]at j;have V:(wD a b (k+1)).length=k+2:=Ki a b (k+1);have d:=(d.O W).H sG (λ I=>s _ I rfl);exact oR _ _ ⟨k+1,aK,aS,Z,Z,vw,(by rw[i];exact d),(by rw[j];exact aQ),GE,(eh ah s)⟩ GE (.cons Z (.cons Z (.cons Z (.cons Z (.cons Z (.cons Z (.cons Z (.cons Z (.cons Z (.cons (by rw[j];rfl) (.cons (Hu Z (by rw[i])) (c' Z Z Z))))))))))))
      · rw[p]at v
        have t:decide (de (b.y-a.y)<=((ey a b k).1)+(2*(de (b.x-a.x))))=false:=by exact baA N
        refine bf<|av<|aC Z<|vm Z<|κ (iV Z Z)<|vm Z<|er Z Z<|κ (dS Z Z Z Z)<|ax<|?_;have am:((decide (de (b.y-a.y)<=de (b.x-a.x))) || (decide (de (b.y-a.y)<=((ey a b k).1)+(2*(de (b.x-a.x))))))=false:=by simp only[baN,baT];omega
        refine ef (by rw[<-am];rfl)<|bf<|av<|aC Z<|vm Z<|κ (gy Z Z)<|vm Z<|er Z Z<|κ (dS Z Z Z Z)<|ax<|?_;have aF:((decide (de (b.x-a.x)<de (b.y-a.y))) || (decide (de (b.y-a.y)<=((ey a b k).1)+(2*(de (b.x-a.x))))))=true:=by simp only[baY,baF];omega
        refine fB (by rw[<-aF];rfl)<|rg<|κ (aj fk Z)<|a1 Z d aH Z<|vm Z<|fb Z Z<|κ (aj fk Z)<|ep Z Z d Z cO Z Z λ Fq M d=>?_;have:=M.size;have yl:=Ext.H Y M bn;refine ax<|rg<|vm Z<|κ (aq Z (d.all bS bq))<|cT (e:=41) (cs:=[J ((ey a b k).2.x),J (((ey a b k).2.y)+(kZ (b.y-a.y)))]) Z (λ _=>GT) Z λ bw be kM bm af=>?_;have ym:=Φ yl kM;have a2:=af.lt;have g:=(g.H M (bM s)).O kM;refine ap Te τ.O g (aO.G (R:=aw.ce) (by_:=16) (q:=(⟨(ey a b k).2.x,((ey a b k).2.y)+(kZ (b.y-a.y))⟩:aw)) af ⟨Z,⟨ea,ea⟩⟩ GP) Z Z (by simp only[baj,baq];omega) (by simp only[baj,baq];omega) ym.size Z λ NY aL aT nt aR ai aY=>?_;have tT:=Ext.H ym nt (λ q I=>(g.lt q I).1);refine va Z<|nl<|bK<|cW Z Z Z<|?_;have i:ey a b (k+1)=(((ey a b k).1)+(2*(de (b.x-a.x))),⟨(ey a b k).2.x,((ey a b k).2.y)+(kZ (b.y-a.y))⟩):=by
          show sA a b (ey a b k)=_;unfold sA;simp only[p,z,y,t,bcj,bbE,bez,bey,beh,bdI,ba0,bdD,bdq,bcA,bd8]
        have j:=W' a b k;rw[i]at j;have V:(wD a b (k+1)).length=k+2:=Ki a b (k+1);have d:=(d.O kM).H nt (λ I=>s _ I rfl);exact oR _ _ ⟨k+1,aL,aT,Z,Z,tT,(by rw[i];exact d),(by rw[j];exact aR),GE,(eh ai s)⟩ GE (.cons Z (.cons Z (.cons Z (.cons Z (.cons Z (.cons Z (.cons Z (.cons Z (.cons Z (.cons (by rw[j];rfl) (.cons (Hu Z (by rw[i])) (c' Z Z Z))))))))))))
    · refine cI<|cH<|cU<|cG<|a7<|aC rfl<|va rfl<|bc rfl<|hE rfl rfl rfl<|?_
      have sq:k=(far a b).toNat:=GE
      subst sq;exact⟨l,o,Z,g,Y⟩
  · have sr:=k0 (b.x-a.x)
    have ni:=k0 (b.y-a.y);have p:far a b=de (b.x-a.x):=by unfold far;omega
    have z:ze a b=de (b.y-a.y):=by unfold ze;omega
    have y:decide (de (b.x-a.x)<de (b.y-a.y))=false:=by exact baA K
    refine bf<|ar<|?_;have f:=f.O E;refine κ (aq Z (f.all bS bq))<|cT (e:=41) (cs:=[J a.x,J a.y]) Z (λ _=>GT) Z λ Yb O n2 a8 Lc=>?_;have FL:=Φ l8 n2;refine aG Z<|ar<|aG Z<|av<|aC Z<|vm Z<|ax<|bp<|?_;have f:=f.O n2;have Wo:∀ q∈τ.ai (bd O),O<=q:=λ q I=>bbz (bah.1 I).symm;refine di (λ U T u=>∃ k:Nat,∃ l:Option Addr,∃ o:Nat,T=[(2,.pointer (bd x)),(4,.slice none 0 0),(5,J 0),(6,J (kZ (b.x-a.x))),(7,J (de (b.x-a.x))),(8,J (kZ (b.y-a.y))),(9,J (de (b.y-a.y))),(10,J (de (b.x-a.x))),(11,J (de (b.y-a.y))),(12,.slice l ((wD a b k).length) o),(13,J ((ey a b k).1)),(50,J (de (b.x-a.x))),(51,J (k:Int))]/\U=(de (b.x-a.x)).toNat-k/\Ext w u/\aO u x [J ((ey a b k).2.x),J ((ey a b k).2.y)] 41 (0,0)/\aw.ce.aM 41 16 u w.heap.size (τ.ai l) l o (wD a b k)/\((k:Int)<=de (b.x-a.x))/\(∀ q∈τ.ai l,q=x->False)) _ _ ⟨0,some ⟨O,0,none⟩,1,Z,Z,FL,f,(aO.K (R:=aw.ce) (by_:=16) (B:=w.heap.size) (k:=[a]) Lc [[J a.x,J a.y]] Z ⟨⟨Z,b7.2 GE,b7.2 GE⟩,trivial⟩ Kx Kx GP GE),(by have:=k0 (b.y-a.y);have:=k0 (b.x-a.x);omega),(λ q I v=>by (have:=Wo q I;omega))⟩ (.cons Z (.cons Z (.cons Z (.cons Z (.cons Z (.cons Z (.cons Z (.cons Z (.cons Z (.cons Z (.cons (xE Z) (c' Z Z Z)))))))))))) ?_;rintro a9 bD X2 ⟨k,l,o,rfl,rfl,L,d,g,au,r⟩;have ba:=d.lt;have v:=aql a b k;have hp:=aqm a b k;have iL:=Ny (b.x-a.x);have ju:=Ny (b.y-a.y);have sr:=k0 (b.x-a.x);have ni:=k0 (b.y-a.y);have wh:=Ki a b k;refine ar<|cF Z Z<|ax<|av<|?_;refine c7 Z (λ Vl=>?_) (λ Vl=>?_)
    · refine bf<|av<|bp<|aC rfl<|vm rfl<|κ (mD rfl rfl dK)<|fb rfl rfl<|aG rfl<|aC rfl<|vm rfl<|κ (iV rfl rfl)<|aG rfl<|av<|ar<|?_
      refine vm Z<|ax<|?_;refine xp Z (λ Q=>?_) (λ Q=>?_)
      · rw[p]at v
        have t:decide (de (b.x-a.x)<=((ey a b k).1)+(2*(de (b.y-a.y))))=true:=by exact baG Q
        refine rg<|vm Z<|vm Z<|κ (mD Z Z dK)<|κ (hi Z Z dK)<|aG Z<|av<|aC Z<|vm Z<|κ (iV Z Z)<|vm Z<|er Z Z<|κ (dS Z Z Z Z)<|ax<|?_;have an:((decide (de (b.y-a.y)<=de (b.x-a.x))) || (decide (de (b.x-a.x)<=((ey a b k).1)+(2*(de (b.y-a.y))))))=true:=by simp only[baY,baF];omega
        refine fB (by rw[<-an];rfl)<|rg<|κ (aj fj Z)<|a1 Z d aH Z<|vm Z<|fb Z Z<|κ (aj fj Z)<|ep Z Z d Z cO Z Z λ bt sC d=>?_;have:=sC.size;have K1:=Ext.H L sC bn;refine ax<|av<|aC Z<|vm Z<|κ (gy Z Z)<|vm Z<|er Z Z<|κ (dS Z Z Z Z)<|ax<|?_;have ao:((decide (de (b.x-a.x)<de (b.y-a.y))) || (decide (de (b.x-a.x)<=((ey a b k).1)+(2*(de (b.y-a.y))))))=true:=by simp only[baY,baF];omega
        refine fB (by rw[<-ao];rfl)<|rg<|κ (aj fk Z)<|a1 Z d aH Z<|vm Z<|fb Z Z<|κ (aj fk Z)<|ep Z Z d Z cO Z Z λ a5 S d=>?_;have:=S.size;have aB:=Ext.H K1 S bn;refine ax<|rg<|vm Z<|κ (aq Z (d.all bS bq))<|cT (e:=41) (cs:=[J (((ey a b k).2.x)+(kZ (b.x-a.x))),J (((ey a b k).2.y)+(kZ (b.y-a.y)))]) Z (λ _=>GT) Z λ bu bg vp bl aa=>?_;have Ii:=Φ aB vp;have a3:=aa.lt;have g:=((g.H sC (bM r)).H S (bM r)).O vp;refine ap Te τ.O g (aO.G (R:=aw.ce) (by_:=16) (q:=(⟨((ey a b k).2.x)+(kZ (b.x-a.x)),((ey a b k).2.y)+(kZ (b.y-a.y))⟩:aw)) aa ⟨Z,⟨ea,ea⟩⟩ GP) Z Z (by simp only[baj,baq];omega) (by simp only[baj,baq];omega) Ii.size Z λ bB aJ aU J5 aN ak aZ=>?_;have Sw:=Ext.H Ii J5 (λ q I=>(g.lt q I).1);refine va Z<|nl<|bK<|cW Z Z Z<|?_;have i:ey a b (k+1)=((((ey a b k).1)+(2*(de (b.y-a.y))))-(2*(de (b.x-a.x))),⟨((ey a b k).2.x)+(kZ (b.x-a.x)),((ey a b k).2.y)+(kZ (b.y-a.y))⟩):=by
          show sA a b (ey a b k)=_;unfold sA;simp only[p,z,y,t,bcj,bbE,bez,bey,beh,bdI,ba0,bdD,bdq,bcA,bd8]
        have j:=W' a b k;rw[i]at j;have V:(wD a b (k+1)).length=k+2:=Ki a b (k+1);have d:=(d.O vp).H J5 (λ I=>r _ I rfl);exact oR _ _ ⟨k+1,aJ,aU,Z,Z,Sw,(by rw[i];exact d),(by rw[j];exact aN),GE,(eh ak r)⟩ GE (.cons Z (.cons Z (.cons Z (.cons Z (.cons Z (.cons Z (.cons Z (.cons Z (.cons Z (.cons (by rw[j];rfl) (.cons (Hu Z (by rw[i])) (c' Z Z Z))))))))))))
      · rw[p]at v
        have t:decide (de (b.x-a.x)<=((ey a b k).1)+(2*(de (b.y-a.y))))=false:=by exact baA Q
        refine bf<|av<|aC Z<|vm Z<|κ (iV Z Z)<|vm Z<|er Z Z<|κ (dS Z Z Z Z)<|ax<|?_;have ay:((decide (de (b.y-a.y)<=de (b.x-a.x))) || (decide (de (b.x-a.x)<=((ey a b k).1)+(2*(de (b.y-a.y))))))=true:=by simp only[baY,baF];omega
        refine fB (by rw[<-ay];rfl)<|rg<|κ (aj fj Z)<|a1 Z d aH Z<|vm Z<|fb Z Z<|κ (aj fj Z)<|ep Z Z d Z cO Z Z λ bC H d=>?_;have:=H.size;have Sy:=Ext.H L H bn;refine ax<|av<|aC Z<|vm Z<|κ (gy Z Z)<|vm Z<|er Z Z<|κ (dS Z Z Z Z)<|ax<|?_;have az:((decide (de (b.x-a.x)<de (b.y-a.y))) || (decide (de (b.x-a.x)<=((ey a b k).1)+(2*(de (b.y-a.y))))))=false:=by simp only[baN,baT];omega
        refine ef (by rw[<-az];rfl)<|bf<|rg<|vm Z<|κ (aq Z (d.all bS bq))<|cT (e:=41) (cs:=[J (((ey a b k).2.x)+(kZ (b.x-a.x))),J ((ey a b k).2.y)]) Z (λ _=>GT) Z λ bv bi G bk ad=>?_;have Ik:=Φ Sy G;have a4:=ad.lt;have g:=(g.H H (bM r)).O G;refine ap Te τ.O g (aO.G (R:=aw.ce) (by_:=16) (q:=(⟨((ey a b k).2.x)+(kZ (b.x-a.x)),(ey a b k).2.y⟩:aw)) ad ⟨Z,⟨ea,ea⟩⟩ GP) Z Z (by simp only[baj,baq];omega) (by simp only[baj,baq];omega) Ik.size Z λ a6 aI aW ag aP al a0=>?_;have aD:=Ext.H Ik ag (λ q I=>(g.lt q I).1);refine va Z<|nl<|bK<|cW Z Z Z<|?_;have i:ey a b (k+1)=(((ey a b k).1)+(2*(de (b.y-a.y))),⟨((ey a b k).2.x)+(kZ (b.x-a.x)),(ey a b k).2.y⟩):=by
          show sA a b (ey a b k)=_;unfold sA;simp only[p,z,y,t,bcj,bbE,bez,bey,beh,bdI,ba0,bdD,bdq,bcA,bd8]
        have j:=W' a b k;rw[i]at j;have V:(wD a b (k+1)).length=k+2:=Ki a b (k+1);have d:=(d.O G).H ag (λ I=>r _ I rfl);exact oR _ _ ⟨k+1,aI,aW,Z,Z,aD,(by rw[i];exact d),(by rw[j];exact aP),GE,(eh al r)⟩ GE (.cons Z (.cons Z (.cons Z (.cons Z (.cons Z (.cons Z (.cons Z (.cons Z (.cons Z (.cons (by rw[j];rfl) (.cons (Hu Z (by rw[i])) (c' Z Z Z))))))))))))
    · refine cI<|cH<|cU<|cG<|a7<|aC rfl<|va rfl<|bc rfl<|hE rfl rfl rfl<|?_
      have sq:k=(far a b).toNat:=GE
      subst sq;exact⟨l,o,Z,g,L⟩
section
def xq(p:Int):Int:=if p=0\/p=3 then 2 else if p=2 then 3 else 0
def yF(p:Int):Int:=if p=0\/p=3 then 0 else if p=2 then 0 else if p=1 then 9 else 1
def dG(c:aw):List aw:=[⟨c.x,c.y-1⟩,⟨c.x-1,c.y⟩,⟨c.x+1,c.y⟩,⟨c.x,c.y+1⟩]
namespace aE
section
variable{f:aE}{c d x y b:aw}{l far:List Int}{v:Int}
def iz(f:aE)(c:aw):Int:=if f.H c=2 then 3 else 2
def dM(f:aE)(c:aw):List aw:=(dG c).filter f.ground
def d9(f:aE)(c:aw):Nat:=(c.y*f.O+c.x).toNat
def aD(f:aE)(far:List Int)(c:aw):Int:=if f.dF c then far.getD (f.d9 c) (-1)else -1
def mE(b c:aw):Int:=2*(de (b.x-c.x)+de (b.y-c.y))
def GX(h:f.ground c=true):f.H c≠1:=by unfold ground at h;rw[bai]at h;simpa using h.2
def PS(h:f.dF c=true)(a:f.H c≠1):f.ground c=true:=by unfold ground;rw[h];simpa using a
def Y:2<=f.iz c/\f.iz c<=3:=by unfold iz;split<;>omega
def Ro:y∈f.dM x↔y∈dG x/\f.ground y=true:=by unfold dM;rw[bbT]
def WL:y∈dG x↔(y=⟨x.x,x.y-1⟩\/y=⟨x.x-1,x.y⟩\/y=⟨x.x+1,x.y⟩\/y=⟨x.x,x.y+1⟩):=by unfold dG;simp
def afG(h:y∈dG x):x∈dG y:=by
 rw[WL]at h ⊢;obtain⟨a,b⟩:=x;rcases h with rfl|rfl|rfl|rfl
 .right;right;right;simp
 .right;right;left;simp
 .right;left;simp
 .left;simp
def afF(h:y∈dG x):y≠x:=by
 rw[WL]at h;obtain⟨a,b⟩:=x;rcases h with rfl|rfl|rfl|rfl<;>simp<;>omega
theorem abJ(b:aw)(h:y∈dG x):mE b x<=2+mE b y:=by
 rw[WL]at h;obtain⟨d,c⟩:=x;have e:∀ n:Int,de n<=1+de (n+1)/\de n<=1+de (n-1):=λ n=>by
  have j:=k0 n;have g:=k0 (n+1);have f:=k0 (n-1);rcases(show n<0\/0<=n by omega)with i|i
  .have:=j.2.2.2 i;rcases(show n+1<0\/0<=n+1 by omega)with a|a
   .have:=g.2.2.2 a;have:=f.2.2.2 GE;omega
   .have:=g.2.2.1 a;have:=f.2.2.2 GE;omega
  .have:=j.2.2.1 i;have:=g.2.2.1 GE;rcases(show n-1<0\/0<=n-1 by omega)with a|a
   .have:=f.2.2.2 a;omega
   .have:=f.2.2.1 a;omega
 unfold mE;rcases h with rfl|rfl|rfl|rfl<;>dsimp only
 .have:=(e (b.y-c)).1;rw[show b.y-(c-1)=b.y-c+1 by omega];omega
 .have:=(e (b.x-d)).1;rw[show b.x-(d-1)=b.x-d+1 by omega];omega
 .have:=(e (b.x-d)).2;rw[show b.x-(d+1)=b.x-d-1 by omega];omega
 .have:=(e (b.y-c)).2;rw[show b.y-(c+1)=b.y-c-1 by omega];omega
def aln(b c:aw):0<=mE b c:=by have:=k0 (b.x-c.x);have:=k0 (b.y-c.y);unfold mE;omega
def abI(b:aw):mE b b=0:=by unfold mE;rw[bev,bev];rfl
def W2(f:aE)(b:aw):sW.jF f.dM f.iz (mE b):=⟨λ x y _=>by have:=f.Y (c:=y);omega,aln b,λ x y a=>by
 have:=abJ b (Ro.1 a).1;have:=f.Y (c:=y);omega⟩
def aeW(f:aE):sW.jF f.dM f.iz (λ _=>0):=⟨λ x y _=>by have:=f.Y (c:=y);omega,λ _=>bbI 0,λ x y a=>by have:=f.Y (c:=y);omega⟩
theorem Z6(g:f.br=0)(n:f.dF c=true)(o:f.dF d=true)(h:f.d9 c=f.d9 d):c=d:=by
 obtain⟨r,u,i,j,s,t⟩:=idx g n;obtain⟨x,v,m,p,w,q⟩:=idx g o;unfold d9 at h;have e:c.y*f.O+c.x=d.y*f.O+d.x:=GE
 have k:(c.y*f.O+c.x) % f.O=c.x:=by rw[bex,bdu,bew i j]
 have l:(d.y*f.O+d.x) % f.O=d.x:=by rw[bex,bdu,bew m p]
 have b:c.x=d.x:=by rw[<-k,<-l,e]
 have a:c.y*f.O=d.y*f.O:=GE
 have a:c.y=d.y:=Int.eq_of_mul_eq_mul_right GE a;cases c;cases d;simp at b a;rw[b,a]
def rV(b:f.br=0)(a:f.dF c=true):f.d9 c<f.G.length/\((f.d9 c:Nat):Int)=c.y*f.O+c.x:=by
 obtain⟨d,e,_⟩:=idx b a;unfold d9;omega
def yR(a:f.dF c=true):f.aD far c=far.getD (f.d9 c) (-1):=by unfold aD;rw[bap a]
def PH(a:f.dF c=false):f.aD far c= -1:=by unfold aD;rw[ban (by rw[a];decide)]
def UW(h:0<=f.aD far c):f.dF c=true:=by
 cases a:f.dF c with
 | true=>rfl
 | false=>rw[PH a]at h;omega
def Md(d:f.br=0)(b:far.length=f.G.length)(a:f.dF c=true):f.aD (far.set (f.d9 c) v) c=v:=by
 rw[yR a,baa,baw (by rw[b];exact(rV d a).1)];rfl
def Jb(h:f.br=0)(g:f.dF c=true)(b:d≠c):f.aD (far.set (f.d9 c) v) d=f.aD far d:=by
 cases a:f.dF d with
 | false=>rw[PH a,PH a]
 | true=>rw[yR a,yR a,baa,baa,baH (λ e=>b (Z6 h a g e.symm))]
end
end aE
def und:List Int->Nat
 | []=>0
 | x::r=>(if x<0 then 1 else 0)+und r
def atD:∀ l:List Int,und l<=l.length
 | []=>bao _
 | x::r=>by have:=atD r;rw[und,baj];split<;>omega
def XX{v:Int}(b:0<=v):∀(l:List Int) (i:Nat),i<l.length->l.getD i (-1)<0->und (l.set i v)+1=und l
 | [],i,h,_=>by simp at h
 | x::r,0,_,h=>by
  have h:x<0:=h;rw[bbJ,und,und,ban GE,bap h];omega
 | x::r,i+1,h,a=>by
  have:=XX b r i (by simpa using h) (by simpa using a);rw[bbW,und,und];omega
def XW{n:Nat}:und (List.replicate n (-1))=n:=by
 induction n with
 | zero=>rfl
 | succ n a=>rw[beb,und,a];simp;omega
structure kx{β:Type}[Inhabited β](iv:β->aw)(aj kV:β->Int)(f:aE)(h:aw->Int)(src:aw->Prop)(far:List Int)(l:List β)(eb:aw)(rest:List aw):Prop where
 len:far.length=f.G.length
 inv:sW.Inv f.dM f.iz h src (f.aD far) (l.map λ n=>(iv n,aj n)) eb rest
 hp:dh.Heap kV l.length l
 all:∀ n∈l,kV n=aj n+h (iv n)/\f.ground (iv n)=true
 kg:∀ c,f.aD far c+3*(und far:Int)<=3*(f.G.length:Int)
 Y:∀ c,0<=f.aD far c->f.ground c=true
section
variable{β:Type}[Inhabited β]{iv:β->aw}{aj kV:β->Int}{f:aE}{h:aw->Int}{src:aw->Prop}{far:List Int}{l:List β}{eb y:aw}{rest:List aw}{n:β}{j:Nat}
theorem kx.alp(s:kx iv aj kV f h src far l eb rest)(o:sW.jF f.dM f.iz h)(e:n∈l):0<=aj n/\aj n+3*(und far:Int)<=3*(f.G.length:Int)+3:=by
 have d:(iv n,aj n)∈l.map λ n=>(iv n,aj n):=baV.2 ⟨n,e,rfl⟩;have g:=s.inv.arZ d;refine⟨g.uW o,?_⟩;have j:=atD far;have:=s.len;rcases s.inv.q _ d with⟨_,a⟩|⟨p,i,a,b⟩
 .have a:aj n=0:=a;omega
 .have b:aj n=f.aD far p+f.iz (iv n):=b;have:=s.kg p;have:=f.Y (c:=iv n);omega
def kx.arp(a:0<l.length):(l.map λ n=>(iv n,aj n)).Perm ((iv (l.getD 0 default),aj (l.getD 0 default))::(dh.qU kV l).map λ n=>(iv n,aj n)):=
 ((dh.arz (key:=kV) a).symm.map _)
def kx.least(s:kx iv aj kV f h src far l eb rest)(c:0<l.length):∀ e∈l.map λ n=>(iv n,aj n),aj (l.getD 0 default)+h (iv (l.getD 0 default))<=e.2+h e.1:=by
 intro e d;obtain⟨n,b,rfl⟩:=baV.1 d;have a:=s.hp.least n b;rw[(s.all n b).1,(s.all _ (gZ c)).1]at a;exact a
def kx.sub(a:0<l.length)(b:n∈dh.qU kV l):n∈l:=(dh.arz (key:=kV) a).subset (bav _ b)
def kx.aO7(s:kx iv aj kV f h src far l eb [])(a:0<l.length)(b:0<=f.aD far (iv (l.getD 0 default))):kx iv aj kV f h src far (dh.qU kV l) eb [] :=
 ⟨s.len,s.inv.aMF (kx.arp a) b,dh.ary s.hp a,λ n c=>s.all n (kx.sub a c),s.kg,s.Y⟩
theorem kx.new(s:kx iv aj kV f h src far l eb [])(g:f.br=0)(o:sW.jF f.dM f.iz h)(b:0<l.length)(i:f.aD far (iv (l.getD 0 default))<0):
  kx iv aj kV f h src (far.set (f.d9 (iv (l.getD 0 default))) (aj (l.getD 0 default))) (dh.qU kV l) (iv (l.getD 0 default)) (f.dM (iv (l.getD 0 default)))/\und (far.set (f.d9 (iv (l.getD 0 default))) (aj (l.getD 0 default)))+1=und far:=by
 have j:=(s.all _ (gZ b (d:=default))).2;have a:=aE.K j;have m:=s.alp o (gZ b (d:=default));have r:und (far.set (f.d9 (iv (l.getD 0 default))) (aj (l.getD 0 default)))+1=und far:=XX m.1 far _ (by rw[s.len];exact(aE.rV g a).1) (by rw[aE.yR a]at i;exact i);refine⟨⟨by rw[bak];exact s.len,(s.inv.aME o (kx.arp b) i (s.least b) (aE.Md g s.len a) (λ z p=>aE.Jb g a p)).1,dh.ary s.hp b,λ n q=>s.all n (kx.sub b q),λ c=>?_,λ c k=>?_⟩,r⟩
 .by_cases e:c=iv (l.getD 0 default)
  .rw[e,aE.Md g s.len a];omega
  .rw[aE.Jb g a e];have:=s.kg c;omega
 .by_cases e:c=iv (l.getD 0 default)
  .rw[e];exact j
  .rw[aE.Jb g a e]at k;exact s.Y c k
theorem kx.push(s:kx iv aj kV f h src far l eb (y::rest))(o:sW.jF f.dM f.iz h)(c:f.ground y=true)(b:iv n=y)(d:aj n=f.aD far eb+f.iz y)(e:kV n=aj n+h y):kx iv aj kV f h src far (dh.push kV l n) eb rest:=by
 refine⟨s.len,s.inv.push o ?_,dh.aMV s.hp,λ m a=>?_,s.kg,s.Y⟩
 .have:=(dh.arG (key:=kV) (l:=l) (x:=n)).map λ n=>(iv n,aj n);rw[ba5,b,d]at this;exact this
 .rcases baB.1 ((dh.arG (key:=kV)).subset a)with rfl|a
  .rw[b];exact⟨e,c⟩
  .exact s.all m a
def kx.pass(s:kx iv aj kV f h src far l eb (y::rest))(a:0<=f.aD far y):kx iv aj kV f h src far l eb rest:=⟨s.len,s.inv.skip a,s.hp,s.all,s.kg,s.Y⟩
def afE{f:aE}{x:aw}{j:Nat}(a:j<4):((dG x).drop j).filter f.ground=if f.ground ((dG x).getD j default)then(dG x).getD j default::((dG x).drop (j+1)).filter f.ground else((dG x).drop (j+1)).filter f.ground:=by
 have b:(dG x).length=4:=rfl;rw[bcg GE,bbN,p6 GE]
def kx.aKu(s:kx iv aj kV f h src far l eb (((dG eb).drop j).filter f.ground))(a:j<4)(b:f.ground ((dG eb).getD j default)=false):kx iv aj kV f h src far l eb (((dG eb).drop (j+1)).filter f.ground):=by
 rw[afE a,ban (by rw[b];decide)]at s;exact s
def kx.aKs(s:kx iv aj kV f h src far l eb (((dG eb).drop j).filter f.ground))(a:j<4)(b:0<=f.aD far ((dG eb).getD j default))(c:f.ground ((dG eb).getD j default)=true):kx iv aj kV f h src far l eb (((dG eb).drop (j+1)).filter f.ground):=by
 rw[afE a,bap c]at s;exact s.pass b
theorem kx.aKt(s:kx iv aj kV f h src far l eb (((dG eb).drop j).filter f.ground))(o:sW.jF f.dM f.iz h)(b:j<4)(a:f.ground ((dG eb).getD j default)=true)(c:iv n=(dG eb).getD j default)(d:aj n=f.aD far eb+f.iz ((dG eb).getD j default))(e:kV n=aj n+h ((dG eb).getD j default)):
  kx iv aj kV f h src far (dh.push kV l n) eb (((dG eb).drop (j+1)).filter f.ground):=by
 rw[afE b,bap a]at s;exact s.push o a c d e
end
end
section
def hz(a b:Int):Int:=max (a-b) (b-a)
def mM(p:Int):Int:=([2,-1,3,2]:List Int).getD p.toNat 0
def Xo{p:Int}(h:0<=p/\p<=3):(p=1/\mM p= -1)\/(p≠1/\2<=mM p/\mM p<=3):=by
 rcases(show p=0\/p=1\/p=2\/p=3 by omega)with rfl|rfl|rfl|rfl<;>decide
def aE.Kg{f:aE}{c:aw}(a:f.br=0)(d:f.dF c=true):0<=f.H c/\f.H c<=3:=by
 obtain⟨_,_,_,_,_,h⟩:=aE.hB a;obtain⟨b,e⟩:=aE.rV a d;unfold aE.H;exact h _ (gZ b)
def nv(f:aE)(c:aw):List aw:=(dG c).filter f.dF
def jo(f:aE)(i:Nat):aw:=⟨(i:Int) % f.O,(i:Int) / f.O⟩
theorem IW{f:aE}(e:f.br=0){i:Nat}(g:i<f.G.length):f.dF (jo f i)=true/\f.d9 (jo f i)=i:=by
 obtain⟨g1,g2,g3,g4,g5,g6⟩:=aE.hB e;have a:=Int.emod_nonneg (i:Int) (show f.O≠0 by omega);have b:=bfE (i:Int) (show 0<f.O by omega);have c:0<=(i:Int) / f.O:=beO GE GE;have d:(i:Int) / f.O<f.high:=Int.ediv_lt_of_lt_mul GE (by rw[bdt];omega);have h:=Int.mul_ediv_add_emod (i:Int) f.O;refine⟨aE.ad3 a b c d,?_⟩;unfold aE.d9 jo;dsimp only;rw[bdt];omega
def aAi{f:aE}(a:f.br=0){c:aw}(b:f.dF c=true):jo f (f.d9 c)=c:=by
 obtain⟨d,h⟩:=aE.rV a b;obtain⟨e,g⟩:=IW a d;exact aE.Z6 a e b g
def atE{v:Int}(a:0<=v):∀(l:List Int) (i:Nat),und (l.set i v)<=und l
 | [],i=>Kx
 | x::r,0=>by rw[bbJ,und,und,ban GE];omega
 | x::r,i+1=>by have:=atE a r i;rw[bbW,und,und];omega
def tI:List Int->Nat
 | []=>0
 | x::r=>(if x<0 then 5000 else x.toNat)+tI r
def arA{v:Int}(a:0<=v)(b:v<5000):∀(l:List Int) (i:Nat),i<l.length->(l.getD i (-1)<0\/v<l.getD i (-1))->tI (l.set i v)<tI l
 | [],i,h,_=>by simp at h
 | x::r,0,_,h=>by
  have h:x<0\/v<x:=h;rw[bbJ,tI,tI,ban GE];split<;>omega
 | x::r,i+1,h,c=>by
  have:=arA a b r i (by simpa using h) (by simpa using c);rw[bbW,tI,tI];omega
structure vB(f:aE)(a:aw)(F:List Int):Prop where
 len:F.length=f.G.length
 st:f.aD F a=0
 ao:∀ c,f.aD F c+3*(und F:Int)<=3*(f.G.length:Int)-3
 lo:∀ x∈F,-1<=x
 auc:∀ c,0<=f.aD F c->c=a\/(0<mM (f.H c)/\∃ n∈dG c,0<=f.aD F n/\f.aD F n+mM (f.H c)<=f.aD F c)
section
variable{f:aE}{a b c n:aw}{F BR:List Int}{i j:Nat}{la:Bool}
theorem vB.start(g:f.br=0)(b:f.dF a=true):vB f a ((List.replicate f.G.length (-1)).set (f.d9 a) 0):=by
 have i:(List.replicate f.G.length (-1:Int)).length=f.G.length:=baK;obtain⟨l,_⟩:=aE.rV g b;have j:∀ c,f.aD (List.replicate f.G.length (-1)) c= -1:=λ c=>by
  cases d:f.dF c with
  | false=>exact aE.PH d
  | true =>
   rw[aE.yR d,baa,bbn,bap (aE.rV g d).1];rfl
 have n:und ((List.replicate f.G.length (-1)).set (f.d9 a) 0)+1=f.G.length:=by
  rw[XX (bbI 0) _ _ (by rw[i];exact l) (by rw[<-aE.yR b,j];decide),XW]
 have k:=aE.Md (v:=0) g i b;refine⟨by rw[bak,i],k,λ c=>?_,λ x m=>?_,λ c d=>?_⟩
 .by_cases e:c=a
  .subst e;rw[k];omega
  .rw[aE.Jb g b e,j];omega
 .rcases bbs m with h|h
  .rw[be6 h];decide
  .omega
 .by_cases e:c=a
  .exact .inl e
  .rw[aE.Jb g b e,j]at d;omega
def vB.kg(h:vB f a F)(b:f.br=0)(c:aw):f.aD F c<=4800:=by
 have:=h.ao c;have:=aE.M b;omega
def vB.low(h:vB f a F)(d:f.dF c=true): -1<=f.aD F c:=by
 rw[aE.yR d];rcases ba2 (f.d9 c) F.length with b|b
 .exact h.lo _ (gZ b)
 .rw[baa,baX b];decide
theorem vB.step(h:vB f a F)(j:f.br=0)(i:f.dF c=true)(k:n∈dG c)(y:0<mM (f.H c))(A:0<=f.aD F n)(q:f.aD F c<0\/f.aD F n+mM (f.H c)<f.aD F c):
  vB f a (F.set (f.d9 c) (f.aD F n+mM (f.H c)))/\tI (F.set (f.d9 c) (f.aD F n+mM (f.H c)))<tI F:=by
 obtain⟨v,C⟩:∃ v,f.aD F n+mM (f.H c)=v:=⟨_,rfl⟩;have G:mM (f.H c)<=3:=by rcases Xo (aE.Kg j i)with h|h<;>omega
 have t:c≠a:=λ e=>by subst e;have:=h.st;omega
 rw[C]at q ⊢;have l:=aE.Md (v:=v) j h.len i;have g:∀ d,d≠c->f.aD (F.set (f.d9 c) v) d=f.aD F d:=λ d e=>aE.Jb j i e;obtain⟨p,_⟩:=aE.rV j i;have H:=atE (v:=v) GE F (f.d9 c);have s:=aE.yR (far:=F) i;have E:=h.ao n;have K:=h.ao c;have L:=aE.M j;refine⟨⟨by rw[bak];exact h.len,by rw[g a (bdg t)];exact h.st,λ d=>?_,λ x D=>?_,λ d o=>?_⟩,arA GE GE F _ (by rw[h.len];exact p) (by rw[<-s];exact q)⟩
 .by_cases e:d=c
  .subst e;rw[l];by_cases u:f.aD F d<0
   .have:=XX (v:=v) GE F (f.d9 d) (by rw[h.len];exact p) (by rw[<-s];exact u);omega
   .omega
  .rw[g d e];have:=h.ao d;omega
 .rcases bbs D with b|b
  .exact h.lo x b
  .omega
 .by_cases e:d=c
  .subst e;exact .inr ⟨y,n,k,by rw[g n (aE.afF k)];exact A,by rw[g n (aE.afF k),l];omega⟩
  .rw[g d e]at o ⊢;rcases h.auc d o with b|⟨b,m,B,w,z⟩
   .exact .inl b
   .refine .inr ⟨b,m,B,?_⟩;by_cases r:m=c
    .subst r;rw[l];constructor<;>omega
    .rw[g m r];exact⟨w,z⟩
def TG(f:aE)(F:List Int)(c n:aw):Prop:=0<mM (f.H c)->0<=f.aD F n->0<=f.aD F c/\f.aD F c<=f.aD F n+mM (f.H c)
def avD(f:aE)(F:List Int)(i:Nat):Prop:=∀ c,f.dF c=true->f.d9 c<i->∀ n∈dG c,TG f F c n
structure s0(f:aE)(a:aw)(BR F:List Int)(la:Bool)(i j:Nat):Prop where
 oK:vB f a F
 up:la=true->tI F<tI BR
 no:la=false->F=BR/\avD f F i/\∀ n∈(nv f (jo f i)).take j,TG f F (jo f i) n
def s0.start(h:vB f a F):s0 f a F F false 0 0:=⟨h,(λ e=>nomatch e),λ _=>⟨rfl,λ c _ h=>GE,λ n b=>by simp at b⟩⟩
def s0.next(h:s0 f a BR F la i j)(s:f.br=0)(u:i<f.G.length)(o:(nv f (jo f i)).length<=j):s0 f a BR F la (i+1) 0 :=
 ⟨h.oK,h.up,λ e=>by
  obtain⟨p,q,k⟩:=h.no e;rw[baE o]at k;refine⟨p,λ c m t n b=>?_,λ n b=>by simp at b⟩;rcases bcS.1 t with d|d
  .exact q c m d n b
  .have l:=aAi s m;rw[d]at l;subst l;intro r g;exact k n (bbT.2 ⟨b,aE.UW g⟩) r g⟩
def s0.skip(h:s0 f a BR F la i j)(c:j<(nv f (jo f i)).length)(l:TG f F (jo f i) ((nv f (jo f i)).getD j default)):s0 f a BR F la i (j+1):=
 ⟨h.oK,h.up,λ e=>by
  obtain⟨d,g,k⟩:=h.no e;refine⟨d,g,λ n b=>?_⟩;rw[baI c,bas,bah]at b;rcases b with b|rfl
  .exact k n b
  .rwa [baa,bac c]at l⟩
theorem s0.aPW(h:s0 f a BR F la i j)(d:f.br=0)(m:i<f.G.length)(q:n∈dG (jo f i))(o:0<mM (f.H (jo f i)))(p:0<=f.aD F n)(l:f.aD F (jo f i)<0\/f.aD F n+mM (f.H (jo f i))<f.aD F (jo f i)):
  s0 f a BR (F.set i (f.aD F n+mM (f.H (jo f i)))) true i (j+1):=by
 obtain⟨g,k⟩:=IW d m;obtain⟨c,b⟩:=h.oK.step d g q o p l;rw[k]at c b;refine⟨c,λ _=>?_,λ e=>nomatch e⟩;cases la with
 | true=>have:=h.up rfl;omega
 | false=>rw[(h.no rfl).1]at b ⊢;exact b
structure Du(f:aE)(a:aw)(F:List Int):Prop where
 oK:vB f a F
 all:∀ c,f.dF c=true->∀ n∈dG c,TG f F c n
def s0.fin(h:s0 f a BR F false i j)(g:f.G.length<=i)(d:f.br=0):Du f a F:=⟨h.oK,λ c b n e=>(h.no rfl).2.1 c b (by have:=(aE.rV d b).1;omega) n e⟩
def Du.back(h:Du f a F)(m:f.br=0)(i:0<=f.aD F c)(l:c≠a):f.dF c=true/\2<=mM (f.H c)/\∃ n∈nv f c,0<=f.aD F n/\f.aD F n+mM (f.H c)=f.aD F c:=by
 have d:=aE.UW i;rcases h.oK.auc c i with e|⟨k,n,j,b,o⟩
 .exact absurd e l
 .have p:=h.all c d n j k b;refine⟨d,by rcases Xo (aE.Kg m d)with g|g<;>omega,n,bbT.2 ⟨j,aE.UW b⟩,b,GE⟩
def Du.ground(h:Du f a F)(k:f.br=0)(j:0<=f.aD F c)(i:f.ground a=true):f.ground c=true:=by
 by_cases e:c=a
 .rw[e];exact i
 .obtain⟨d,b,_⟩:=h.back k j e;refine aE.PS d λ g=>?_;rw[g]at b;revert b;decide
end
end
def jS{a b:Bool}(h:a=b):Ending.returned (.bool a)=.returned (.bool b):=by rw[h]
def nL(w:World)(o:Obj):Below w.heap.size w (w.alloc o):=(baL _ w).alloc (bao _) o
open Tryz

def aE.D(p:Int):Bool:= !aE.W9 p
def ayU{p:Int}:(p<0->aE.D p=true)/\(4<=p->aE.D p=true)/\(0<=p->p<4->aE.D p=false):=by
 unfold aE.D aE.W9;refine⟨λ h=>by rw[sw (.inl h)];rfl,λ h=>by rw[sw (.inr GE)];rfl,λ a b=>by rw[kj a GE];rfl⟩
theorem aEk(p:Int)(w:World):Calls prog 153 #[.int .i64 p] w λ e w'=>e=.returned (.bool (aE.D p))/\Below w.heap.size w w':=by
 obtain⟨hh,eZ,ig⟩:=ayU (p:=p);rcases bb6 p 0 with h|h
 .have ae:=hh h;have hd:decide (p<0)=true:=by simpa using h
  rw[ae];clear hh eZ ig ae;go_enter func153,ntmps153;go_wp2
  go_ret;exact⟨Z,baL _ _⟩
 .rcases bb6 p 4 with ba|ba
  .have ae:=ig h ba;have hd:decide (p<0)=false:=by simpa using h
   rw[ae];clear hh eZ ig ae;go_enter func153,ntmps153;go_wp2
   go_ret;exact⟨jS (by simp<;>omega),baL _ _⟩
  .have ae:=eZ ba;have hd:decide (p<0)=false:=by simpa using h
   rw[ae];clear hh eZ ig ae;go_enter func153,ntmps153;go_wp2
   go_ret;exact⟨jS (by simp<;>omega),baL _ _⟩
theorem aIW(A:Option Addr)(c:Nat)(l:List Int)(w:World)(az:bN.aF 8 w A c l):
  Calls prog 188 #[.slice A l.length c,.func (.func 153) #[] #[]] w λ e w'=>e=.returned (.int .i64 (fK (aE.D) l))/\Below w.heap.size w w':=by
 obtain⟨n,hn⟩:∃ n,l.length=n:=⟨_,rfl⟩;have hle:n<=9223372036854775807:=by have:=az.1;have:=az.2.1;omega
 rw[hn];have qE:=bag az;have gx:=bag hn;clear az hn;go_enter func188,ntmps188;go_wp2_with fail
 go_loopw [5,8] (λ _ dp wr=>∃ k:Nat,k<=n/\dp=.int .i64 (k:Int)/\Hid (∀ j (aB:j<k) (p9:j<l.length),(aE.D) l[j]=false)/\Below w.heap.size w wr) (λ _ dp _=>n-(intOf dp).toNat)
 case atStart=>exact⟨0,ba1 _,rfl,(λ j aB=>GE),baL _ _⟩
 case round =>
  obtain⟨k,au,rfl,jM,ae⟩:=hrel;by_cases bW:k<n
  .have js:k<l.length:=by rw[gx.out];exact bW
   obtain⟨b,o,rfl,lh⟩:=Km (qE.out.be ae) GE;obtain⟨x,su⟩:∃ x,l[k]'js=x:=⟨_,rfl⟩;have qV:=lh k x (by rw[bac js,su]);have zO:=bag su

   have hc:=aEk x wr;clear lh su;cases lg:(aE.D) x with
   | true =>
    have nk:fK (aE.D) l=(k:Int):=JL js (by rw[zO.out];exact lg) λ j aB=>jM.out j aB GE;rw[lg]at hc;have ua:=bag nk;clear nk lg;go_wp2_with (go_at_call 153;refine hc.mono ?_;rintro e w' ⟨rfl,bQ⟩)
    go_ret;exact⟨by rw[ua.out];rfl,ae.trans (bQ.mono ae.size)⟩
   | false =>
    rw[lg]at hc;have rP:Hid (∀ j (aB:j<k+1) (p9:j<l.length),(aE.D) l[j]=false):=by
     intro j aB p9;by_cases h:j<k
     .exact jM.out j h p9
     .obtain rfl:j=k:=GE
      rw[zO.out];exact lg
    clear lg;go_wp2_with (go_at_call 153;refine hc.mono ?_;rintro e w' ⟨rfl,bQ⟩)
    go_roundw
    case rel=>exact⟨k+1,GE,by go_num,rP,ae.trans (bQ.mono ae.size)⟩
    case measure=>simp[intOf];omega
  .have nk:fK (aE.D) l= -1:=JK λ j aB=>jM.out j (by have:=gx.out;omega) aB;have ua:=bag nk;clear nk;go_wp2_with fail
   go_ret;exact⟨by rw[ua.out];rfl,ae⟩
theorem aGi(A:Option Addr)(c:Nat)(l:List Int)(w:World)(az:bN.aF 8 w A c l):
  Calls prog 152 #[.slice A l.length c,.func (.func 153) #[] #[]] w λ e w'=>e=.returned (.bool (l.any (aE.D)))/\Below w.heap.size w w':=by
 have hc:=aIW  A c l w az ;rw[<-MW];generalize fK (aE.D) l=r at *
 generalize l.length=n at *
 clear az ;go_enter func152,ntmps152;go_wp2_with (go_at_call 188;refine hc.mono ?_;rintro e w' ⟨rfl,bQ⟩)
 go_ret;exact⟨Z,bQ⟩
theorem Yc(n lo ao:Int)(w:World):Calls prog 156 #[.int .i64 n,.int .i64 lo,.int .i64 ao] w λ e w'=>e=.returned (.bool (bA n lo ao))/\w=w':=by
 rcases bb6 n lo with h|h
 .rw[sw (.inl h)];go_enter func156,ntmps156;go_wp2
  go_ret;exact⟨Z,Z⟩
 .rcases bb6 ao n with ba|ba
  .rw[sw (.inr ba)];go_enter func156,ntmps156;go_wp2
   go_ret;exact⟨jS (by simp<;>omega),Z⟩
  .rw[kj h ba];go_enter func156,ntmps156;go_wp2
   go_ret;exact⟨jS (by simp<;>omega),Z⟩
theorem asH(n:Int)(w:World):Calls prog 151 #[.int .i64 n] w λ e w'=>e=.returned (.bool (bA n 1 40))/\w=w':=by
 rcases bb6 n 1 with h|h
 .rw[sw (.inl h)];go_enter func151,ntmps151;go_wp2
  go_ret;exact⟨Z,Z⟩
 .rcases bb6 40 n with ba|ba
  .rw[sw (.inr ba)];go_enter func151,ntmps151;go_wp2
   go_ret;exact⟨jS (by simp<;>omega),Z⟩
  .rw[kj h ba];go_enter func151,ntmps151;go_wp2
   go_ret;exact⟨jS (by simp<;>omega),Z⟩
open Tryz

def aE.aAz{f:aE}(a:bA f.O 1 40=true)(b:bA f.high 1 40=true)(c:¬(f.G.length:Int)=f.O*f.high):f.br=4:=by
 unfold aE.br;rw[a,b,baA c];rfl
def aE.aAw{f:aE}(a:bA f.O 1 40=true)(b:bA f.high 1 40=true)(c:(f.G.length:Int)=f.O*f.high):f.br=if f.G.any aE.D then 4 else 0:=by
 unfold aE.br;rw[a,b,baG c];have:f.G.all aE.W9= !f.G.any aE.D:=by
  rw[List.all_eq_not_any_not];rfl
 rw[this];cases f.G.any aE.D<;>rfl
theorem alz(f:aE)(A:Option Addr)(c:Nat)(w:World)(cp:bN.aF 8 w A c f.G):
  Calls prog 124 #[.agg #[.int .i64 f.O,.int .i64 f.high,.slice A f.G.length c]] w λ e w'=>e=.returned (.int .i64 f.br)/\Below w.heap.size w w':=by
 have ae:=nL w (.cells #[.int .i64 f.O,.int .i64 f.high,.slice A f.G.length c] 24);have iL:=asH f.O;have ju:=asH f.high;cases aa:bA f.O 1 40 with
 | false =>
  rw[aa]at iL;rw[aE.ajf (by rw[aa];rfl)];clear aa ju cp;go_enter func124,ntmps124;go_wp2_with (go_at_call 151;refine(iL _).mono ?_;rintro e w' ⟨rfl,rfl⟩)
  go_ret;exact⟨Z,ae⟩
 | true =>
  rw[aa]at iL;cases ab:bA f.high 1 40 with
  | false =>
   rw[ab]at ju;rw[aE.ajf (by rw[aa,ab];rfl)];clear aa ab cp;go_enter func124,ntmps124;go_wp2_with fail
   refine(iL _).mono ?_;rintro e w' ⟨rfl,rfl⟩;go_wp2_with fail
   refine(ju _).mono ?_;rintro e w' ⟨rfl,rfl⟩;go_wp2_with fail
   go_ret;exact⟨Z,ae⟩
  | true =>
   rw[ab]at ju;have hw:=j4 aa;have fV:=j4 ab;have AH:0<=f.O*f.high:=bca GE GE;have MK:f.O*f.high<=40*40:=bbP hw.2 fV.2 GE GE;by_cases ay:(f.G.length:Int)=f.O*f.high
   .have hc:=aGi A c f.G _ (cp.be ae);have hd:((f.G.length:Int)== f.O*f.high)=true:=by simpa using ay
    have ED:((f.G.length:Int) != f.O*f.high)=false:=by simpa using ay
    rw[aE.aAw aa ab ay];clear aa ab ay cp;generalize f.G.any aE.D=r at *
    generalize f.G.length=n at *
    cases r with
    | true =>
     go_enter func124,ntmps124;go_wp2_with fail
     refine(iL _).mono ?_;rintro e w' ⟨rfl,rfl⟩;go_wp2_with fail
     refine(ju _).mono ?_;rintro e w' ⟨rfl,rfl⟩;go_wp2_with fail
     refine hc.mono ?_;rintro e w' ⟨rfl,bQ⟩;go_wp2_with fail
     go_ret;exact⟨Z,ae.trans (bQ.mono ae.size)⟩
    | false =>
     go_enter func124,ntmps124;go_wp2_with fail
     refine(iL _).mono ?_;rintro e w' ⟨rfl,rfl⟩;go_wp2_with fail
     refine(ju _).mono ?_;rintro e w' ⟨rfl,rfl⟩;go_wp2_with fail
     refine hc.mono ?_;rintro e w' ⟨rfl,bQ⟩;go_wp2_with fail
     go_ret;exact⟨Z,ae.trans (bQ.mono ae.size)⟩
   .have hd:((f.G.length:Int)== f.O*f.high)=false:=by simpa using ay
    have ED:((f.G.length:Int) != f.O*f.high)=true:=by simpa using ay
    rw[aE.aAz aa ab ay];clear aa ab ay cp;generalize f.G.length=n at *
    go_enter func124,ntmps124;go_wp2_with fail
    refine(iL _).mono ?_;rintro e w' ⟨rfl,rfl⟩;go_wp2_with fail
    refine(ju _).mono ?_;rintro e w' ⟨rfl,rfl⟩;go_wp2_with fail
    go_ret;exact⟨Z,ae⟩
def apJ(w:World):Calls prog 123 #[.int .i64 1] w λ e w'=>e=.returned (.tuple #[.agg #[.int .i64 10,.int .i64 1,.int .i64 1,.int .i64 5],.int .i64 0])/\Below w.heap.size w w':=by
 go_enter func123,ntmps123;go_wp2
 refine beH (v:=.tuple #[.agg #[.int .i64 10,.int .i64 1,.int .i64 1,.int .i64 5],.int .i64 0]) (by simp[results,results123,go_sem]) Z ⟨Z,(baL _ _).alloc (bao _) _⟩
def apK(w:World):Calls prog 123 #[.int .i64 2] w λ e w'=>e=.returned (.tuple #[.agg #[.int .i64 20,.int .i64 2,.int .i64 4,.int .i64 12],.int .i64 0])/\Below w.heap.size w w':=by
 go_enter func123,ntmps123;go_wp2
 refine beH (v:=.tuple #[.agg #[.int .i64 20,.int .i64 2,.int .i64 4,.int .i64 12],.int .i64 0]) (by simp[results,results123,go_sem]) Z ⟨Z,(baL _ _).alloc (bao _) _⟩
theorem apL(k:Int)(w:World)(h:bA k 1 2=false):Calls prog 123 #[.int .i64 k] w λ e w'=>e=.returned (.tuple #[.agg #[.int .i64 0,.int .i64 0,.int .i64 0,.int .i64 0],.int .i64 1])/\Below w.heap.size w w':=by
 have dt:=aI1 h;have aa:(k == 1)=false:=by simp;omega
 have ab:(k == 2)=false:=by simp;omega
 clear h dt;go_enter func123,ntmps123;go_wp2
 refine beH (v:=.tuple #[.agg #[.int .i64 0,.int .i64 0,.int .i64 0,.int .i64 0],.int .i64 1]) (by simp[results,results123,go_sem]) Z ⟨Z,(baL _ _).alloc (bao _) _⟩
open Tryz

def afp{k d:IntKind}{a b c e:Int}(f:a=c)(g:b=e):Ending.returned (.tuple #[.int k a,.int d b])=.returned (.tuple #[.int k c,.int d e]):=by rw[f,g]
def ag3(f:aE)(c:aw)(w:World)(e:Ending)(w':World):Prop:=e=.returned (.tuple #[.int .i64 (f.p1 c),.int .i64 (f.eS c)])/\Below w.heap.size w w'
theorem abQ(f:aE)(p:aw)(A:Option Addr)(c:Nat)(w:World)(cp:bN.aF 8 w A c f.G):
  Calls prog 166 #[.agg #[.int .i64 f.O,.int .i64 f.high,.slice A f.G.length c],.agg #[.int .i64 p.x,.int .i64 p.y]] w (ag3 f p w):=by
 have hA:=aO.new w (ag.L9 A c f) 24 (0,0);have ae:=nL w (.cells (ag.L9 A c f).toArray 24 (0,0));have bB:=aO.new (w.alloc (.cells (ag.L9 A c f).toArray 24 (0,0))) p.cells 41 (0,0);have dx:=nL (w.alloc (.cells (ag.L9 A c f).toArray 24 (0,0))) (.cells p.cells.toArray 41 (0,0));have mF:=hA.O dx;have px:=ae.trans (dx.mono ae.size);have hc:=alz f A c _ (cp.be px);have PZ:=cp.be px;obtain⟨a8,rQ⟩:∃ a8,Hid ((w.alloc (.cells (ag.L9 A c f).toArray 24 (0,0))).alloc (.cells p.cells.toArray 41 (0,0))=a8):=⟨_,bag rfl⟩;rw[rQ.out]at mF bB hc px PZ;rw[World.size_alloc]at bB;clear hA ae dx cp;have ij:∀ K:World->Prop,K a8->K ((w.alloc (.cells #[.int .i64 f.O,.int .i64 f.high,.slice A f.G.length c] 24)).alloc (.cells #[.int .i64 p.x,.int .i64 p.y] 41)):=λ K h=>by
  have:=rQ.out;rw[<-this]at h;exact h
 by_cases aN:f.br=0
 .have oL:=aE.M aN;obtain⟨g1,g2,g3,g4,_,_⟩:=aE.hB aN;rw[aN]at hc;by_cases eU:0<=p.x/\p.x<f.O/\0<=p.y/\p.y<f.high
  .obtain⟨i1,i2,i3,i4⟩:=eU;have hIn:=aE.ad3 i1 i2 i3 i4;obtain⟨bm,bw⟩:=aE.C aN hIn;obtain⟨fo,fY,_⟩:=aE.idx aN hIn;have rM:0<=p.y*f.O:=bca i3 GE;have Sr:p.y*f.O<=1600:=GE
   obtain⟨b,o,rfl,lh⟩:=Km PZ GE;have hce:=lh (p.y*f.O+p.x).toNat (f.H p) (by
    unfold aE.H;rw[baa,bac (show(p.y*f.O+p.x).toNat<f.G.length by omega)];rfl)
   have awc:=bag hce;have k7:=bag (And.intro bm bw);have xa:=bag mF;have bg:=bag bB;have d1:decide (p.x<0)=false:=by simpa using i1
   have d2:decide (p.y<0)=false:=by simpa using i3
   clear aN hIn bm bw lh hce PZ mF bB;go_enter func166,ntmps166;go_wp2_with fail
   refine ij (λ W=>Calls _ _ _ W _) ?_;refine hc.mono ?_;rintro e dn ⟨rfl,bQ⟩;obtain⟨qV,kH,lH⟩:=ag.alq (xa.out.O bQ);obtain⟨Kl,r1⟩:=aw.iI (bg.out.O bQ);have aW8:=cell_later bQ awc.out;go_wp2_with fail
   go_ret2
   exact⟨afp k7.out.2.symm k7.out.1.symm,px.trans (bQ.mono px.size)⟩
  .have MO:p.x<0\/f.O<=p.x\/p.y<0\/f.high<=p.y:=GE
   have k7:=bag (aE.O5 aN (aE.aJa MO));have xa:=bag mF;have bg:=bag bB;clear aN PZ mF bB eU;have awr:=bag MO;clear MO;go_enter func166,ntmps166;go_wp2_with fail
   refine ij (λ W=>Calls _ _ _ W _) ?_;refine hc.mono ?_;rintro e dn ⟨rfl,bQ⟩;obtain⟨qV,kH,lH⟩:=ag.alq (xa.out.O bQ);obtain⟨Kl,r1⟩:=aw.iI (bg.out.O bQ);have key:decide (p.x<0)=true\/(decide (p.x<0)=false/\decide (f.O<=p.x)=true)\/(decide (p.x<0)=false/\decide (f.O<=p.x)=false/\decide (p.y<0)=true)\/(decide (p.x<0)=false/\decide (f.O<=p.x)=false/\decide (p.y<0)=false/\decide (f.high<=p.y)=true):=by
    have:=awr.out;by_cases eo:p.x<0
    .simp[eo]
    by_cases eE:f.O<=p.x
    .simp[eo,eE]
    by_cases jf:p.y<0
    .simp[eo,eE,jf]
    .simp[eo,eE,jf];omega
   rcases key with h|⟨h,ab⟩|⟨h,ab,ay⟩|⟨h,ab,ay,ba⟩
   all_goals
    go_wp2_with fail
    go_ret2
    exact⟨afp k7.out.2.symm k7.out.1.symm,px.trans (bQ.mono px.size)⟩
 .obtain⟨bm,bw⟩:=aE.Z5 (c:=p) aN;have k7:=bag (And.intro bm bw);have aX0:(f.br != 0)=true:=by simpa using aN
  clear bm bw aN PZ mF bB;generalize f.br=k at *
  go_enter func166,ntmps166;go_wp2_with fail
  refine ij (λ W=>Calls _ _ _ W _) ?_;refine hc.mono ?_;rintro e dn ⟨rfl,bQ⟩;go_wp2_with fail
  go_ret2
  exact⟨afp k7.out.2.symm k7.out.1.symm,px.trans (bQ.mono px.size)⟩
theorem PR(f:aE)(p:aw)(A:Option Addr)(c:Nat)(w:World)(cp:bN.aF 8 w A c f.G)(aN:f.br=0):
  Calls prog 154 #[.agg #[.int .i64 f.O,.int .i64 f.high,.slice A f.G.length c],.agg #[.int .i64 p.x,.int .i64 p.y]] w λ e w'=>e=.returned (.bool (f.ground p))/\Below w.heap.size w w':=by
 have ae:=nL w (.cells #[.int .i64 f.O,.int .i64 f.high,.slice A f.G.length c] 24);have dx:=nL (w.alloc (.cells #[.int .i64 f.O,.int .i64 f.high,.slice A f.G.length c] 24)) (.cells #[.int .i64 p.x,.int .i64 p.y] 41);have px:=ae.trans (dx.mono ae.size);have hc:=abQ f p A c _ (cp.be px);unfold ag3 at hc;clear ae dx cp;cases eU:f.dF p with
 | true =>
  obtain⟨bm,bw⟩:=aE.C aN eU;rw[bm,bw]at hc;have aW:f.ground p=(f.H p != 1):=by unfold aE.ground;rw[eU];rfl
  rw[aW];clear bm bw eU aW aN;generalize f.H p=v at *
  generalize f.G.length=n at *
  cases hv:v != 1 with
  | true =>
   go_enter func154,ntmps154;go_wp2_with fail
   refine hc.mono ?_;rintro e dn ⟨rfl,bQ⟩;go_wp2_with fail
   go_ret;exact⟨jS Kx,px.trans (bQ.mono px.size)⟩
  | false =>
   go_enter func154,ntmps154;go_wp2_with fail
   refine hc.mono ?_;rintro e dn ⟨rfl,bQ⟩;go_wp2_with fail
   go_ret;exact⟨jS Kx,px.trans (bQ.mono px.size)⟩
 | false =>
  obtain⟨bm,bw⟩:=aE.O5 aN eU;rw[bm,bw]at hc;have aW:f.ground p=false:=by unfold aE.ground;rw[eU];rfl
  rw[aW];clear bm bw eU aW aN;generalize f.G.length=n at *
  go_enter func154,ntmps154;go_wp2_with fail
  refine hc.mono ?_;rintro e dn ⟨rfl,bQ⟩;go_wp2_with fail
  go_ret;exact⟨Z,px.trans (bQ.mono px.size)⟩
open Tryz

def aw.O(p x:aw):Bool:=decide (x=p)
def aw.aJc{p x:aw}(h:aw.O p x=true):x=p:=by simpa[aw.O]using h
def aw.aJb{p x:aw}(h:aw.O p x=false):((p.x == x.x)=false)\/((p.x == x.x)=true/\(p.y == x.y)=false):=by
 have:¬x=p:=by simpa[aw.O]using h
 obtain⟨a,b⟩:=p;obtain⟨c,d⟩:=x;simp at this ⊢;omega
theorem aIR(p:aw)(A:Option Addr)(c:Nat)(l:List aw)(w:World)(az:aw.ce.aF 16 w A c l):
  Calls prog 189 #[.slice A l.length c,.agg #[.int .i64 p.x,.int .i64 p.y]] w λ e w'=>e=.returned (.int .i64 (fK (aw.O p) l))/\Below w.heap.size w w':=by
 obtain⟨n,hn⟩:∃ n,l.length=n:=⟨_,rfl⟩;have hle:n<=9223372036854775807:=by have:=az.1;have:=az.2.1;omega
 rw[hn];have du:=nL w (.cells #[.int .i64 p.x,.int .i64 p.y] 41);have bg:=bag (aO.new w p.cells 41 (0,0));have qE:=bag (az.be du);have gx:=bag hn;clear az hn;go_enter func189,ntmps189;go_wp2_with fail
 obtain⟨w0,k8⟩:∃ w0,Hid (w0=w.alloc (.cells #[.int .i64 p.x,.int .i64 p.y] 41)):=⟨_,bag rfl⟩;rw[<-k8.out]at du ⊢;have bg:Hid (aO w0 w.heap.size p.cells 41 (0,0)):=by rw[k8.out];exact bg
 have qE:Hid (aw.ce.aF 16 w0 A c l):=by rw[k8.out];exact qE
 go_loopw [5,8] (λ _ dp wr=>∃ k m:Nat,k<=n/\dp=.int .i64 (k:Int)/\Hid (∀ j (aB:j<k) (p9:j<l.length),(aw.O p) l[j]=false)/\Hid (wr=w0.drewN m)) (λ _ dp _=>n-(intOf dp).toNat)
 case atStart=>exact⟨0,0,ba1 _,rfl,(λ j aB=>GE),rfl⟩
 case round =>
  obtain⟨k,m,au,rfl,jM,F3⟩:=hrel;by_cases bW:k<n
  .have js:k<l.length:=by rw[gx.out];exact bW
   have amb:aw.ce.aF 16 wr A c l:=by rw[F3.out];exact qE.out.drewN m
   have al1:aO wr w.heap.size p.cells 41 (0,0):=by rw[F3.out];exact bg.out.drewN m
   have Jq:Below w.heap.size w wr:=by rw[F3.out];exact below_drewN du m
   obtain⟨b,o,rfl,lh⟩:=aw.d9 amb GE;obtain⟨x,su⟩:∃ x,l[k]'js=x:=⟨_,rfl⟩;obtain⟨qV,kH⟩:=lh k x (by rw[bac js,su]);obtain⟨Kl,r1⟩:=aw.iI al1;have zO:=bag su;have sm:(k:Int)<(n:Int):=GE
   have si:(0:Int)<=(k:Int):=GE
   clear lh su amb al1;cases lg:(aw.O p) x with
   | true =>
    have nk:fK (aw.O p) l=(k:Int):=JL js (by rw[zO.out];exact lg) λ j aB=>jM.out j aB GE;have ua:=bag nk;have aIx:=aw.aJc lg;subst aIx;clear nk lg;go_wp2_with fail
    go_quiet (fail)
    go_wp2_with fail
    go_ret;exact⟨by rw[ua.out];rfl,below_drewN Jq _⟩
   | false =>
    have rP:Hid (∀ j (aB:j<k+1) (p9:j<l.length),(aw.O p) l[j]=false):=by
     intro j aB p9;by_cases h:j<k
     .exact jM.out j h p9
     .obtain rfl:j=k:=GE
      rw[zO.out];exact lg
    have eV:=aw.aJb lg;clear lg;rcases eV with aa|⟨aa,ab⟩
    all_goals
     go_wp2_with fail
     go_quiet (fail)
     go_wp2_with fail
     go_roundw
     case rel=>exact⟨k+1,_,GE,by go_num,rP,by show _=_;rw[F3.out];simp;rfl⟩
     case measure=>simp[intOf];omega
  .have nk:fK (aw.O p) l= -1:=JK λ j aB=>jM.out j (by have:=gx.out;omega) aB;have ua:=bag nk;have aIt:=F3.out;subst aIt;clear nk;go_wp2_with fail
   go_ret;exact⟨by rw[ua.out];rfl,below_drewN du _⟩
theorem aGg(p:aw)(A:Option Addr)(c:Nat)(l:List aw)(w:World)(az:aw.ce.aF 16 w A c l):
  Calls prog 155 #[.slice A l.length c,.agg #[.int .i64 p.x,.int .i64 p.y]] w λ e w'=>e=.returned (.bool (l.contains p))/\Below w.heap.size w w':=by
 have du:=nL w (.cells #[.int .i64 p.x,.int .i64 p.y] 41);have hc:=aIR p A c l _ (az.be du);have sa:l.contains p=decide (0<=fK (aw.O p) l):=by
  rw[MW,List.contains_eq_any_beq];congr 1
  funext x
  unfold aw.O;by_cases h:x=p
  .simp[h]
  .simp[h,bdg h]
 rw[sa];generalize fK (aw.O p) l=r at *
 generalize l.length=n at *
 clear az sa;go_enter func155,ntmps155;go_wp2_with (go_at_call 189;refine hc.mono ?_;rintro e w' ⟨rfl,bQ⟩)
 go_ret;exact⟨Z,du.trans (bQ.mono du.size)⟩
open Tryz
section
variable{w a8:World}{aQ q c:Nat}{a:ag.cS}{A:Option Addr}
theorem bF.Uo{W:ag}(h:bF w aQ a W):
  (∀ x∈τ.ai a.M,x∉τ.ai a.P/\x∉τ.ai a.B/\x∉τ.ai a.S/\x∉τ.ai a.T)/\
  (∀ x∈τ.ai a.T,x∉τ.ai a.P/\x∉τ.ai a.B/\x∉τ.ai a.S/\x∉τ.ai a.M)/\
  (∀ x∈τ.ai a.S,x∉τ.ai a.P/\x∉τ.ai a.B/\x∉τ.ai a.M/\x∉τ.ai a.T):=by
 have f:=h.apart;rw[bbb,bbb,bbb,bbb]at f;obtain⟨⟨⟨⟨_,_,i⟩,_,g⟩,_,e⟩,_,d⟩:=f;refine⟨λ x c=>⟨λ b=>?_,λ b=>?_,λ b=>?_,λ b=>?_⟩,λ x c=>⟨λ b=>?_,λ b=>?_,λ b=>?_,λ b=>?_⟩,λ x c=>⟨λ b=>?_,λ b=>?_,λ b=>?_,λ b=>?_⟩⟩
 .exact e x (by simp[b]) x c Z
 .exact e x (by simp[b]) x c Z
 .exact e x (by simp[b]) x c Z
 .exact d x (by simp[c]) x b Z
 .exact d x (by simp[b]) x c Z
 .exact d x (by simp[b]) x c Z
 .exact d x (by simp[b]) x c Z
 .exact d x (by simp[b]) x c Z
 .exact g x (by simp[b]) x c Z
 .exact g x (by simp[b]) x c Z
 .exact e x (by simp[c]) x b Z
 .exact d x (by simp[c]) x b Z
def yP{g:Nat}:g∈bF.G a↔g∈τ.ai a.P\/g∈τ.ai a.B\/g∈τ.ai a.S\/g∈τ.ai a.M\/g∈τ.ai a.T:=by
 unfold bF.G;simp only[bas];constructor
 .rintro((((h|h)|h)|h)|h)<;>simp[h]
 .rintro(h|h|h|h|h)<;>simp[h]
namespace ag
def kp(k:Int):Int:=if k=1 then 5 else if k=2 then 12 else 0
end ag
def bF.H{W:ag}{S:List Nat}(h:bF w aQ a W)(m:Mod S w a8)(c:∀ x∈bF.G a,x∉S):bF a8 aQ a W :=
 ⟨h.P.H m λ x b=>c x (yP.2 (.inl b)),h.B.H m λ x b=>c x (yP.2 (.inr (.inl b))),h.S.H m λ x b=>c x (yP.2 (.inr (.inr (.inl b)))),h.M.H m λ x b=>c x (yP.2 (.inr (.inr (.inr (.inl b))))),h.T.H m λ x b=>c x (yP.2 (.inr (.inr (.inr (.inr b))))),h.apart,h.nums⟩
def th(h:q∈τ.ai a.T):q∈bF.G a:=yP.2 (.inr (.inr (.inr (.inr h))))
def GR(h:q∈τ.ai a.S):q∈bF.G a:=yP.2 (.inr (.inr (.inl h)))
def Ja(h:q∈τ.ai a.M):q∈bF.G a:=yP.2 (.inr (.inr (.inr (.inl h))))
def UQ(h:q∈τ.ai a.B):q∈bF.G a:=yP.2 (.inr (.inl h))
def UR(h:q∈τ.ai a.P):q∈bF.G a:=yP.2 (.inl h)
def bF.asC{W:ag}{l:List Int}(h:bF w aQ a W)(m:Mod (τ.ai a.S) w a8)(d:bN.aM 3 8 a8 aQ (τ.ai a.S) a.S a.s l):bF a8 aQ a {W with bl:=l}:=by
 obtain⟨d1,d2,d3⟩:=h.Uo;exact⟨h.P.H m λ x c b=>(d3 x b).1 c,h.B.H m λ x c b=>(d3 x b).2.1 c,d,h.M.H m λ x c b=>(d3 x b).2.2.1 c,h.T.H m λ x c b=>(d3 x b).2.2.2 c,h.apart,h.nums⟩
theorem bF.swapT{W:ag}{l:List bb}(h:bF w aQ a W)(m:Mod (τ.ai a.T) w a8)(i:bb.ce.aM 68 56 a8 aQ (τ.ai A) A c l)(I:∀ q∈τ.ai A,q∈τ.ai a.T\/w.heap.size<=q):
  bF a8 aQ {a with T:=A,t:=c} {W with ah:=l}:=by
 obtain⟨d1,d2,d3⟩:=h.Uo;refine⟨h.P.H m λ x b d=>(d2 x d).1 b,h.B.H m λ x b d=>(d2 x d).2.1 b,h.S.H m λ x b d=>(d2 x d).2.2.1 b,h.M.H m λ x b d=>(d2 x d).2.2.2 b,i,?_,h.nums⟩;have g:=h.apart;rw[bbb]at g ⊢;refine⟨g.1,yC A,λ x b y f e=>?_⟩;subst e;rcases I x f with f|f
 .exact g.2.2 x b x f Z
 .have j:x∈bF.G a:=by unfold bF.G;rw[bas];exact .inl b
  have:=(h.lt x j).2;omega
def bF.asB{W V:ag}(h:bF w aQ a W)(b:V.am.G=W.am.G)(c:V.aT=W.aT)(d:V.bl=W.bl)(f:V.bE=W.bE)(e:V.ah=W.ah)(g:gg V.am.O/\gg V.am.high/\gg V.next/\gg V.db):bF w aQ a V :=
 ⟨by rw[b];exact h.P,by rw[c];exact h.B,by rw[d];exact h.S,by rw[f];exact h.M,by rw[e];exact h.T,h.apart,g⟩
def alC{w:World}{aQ:Nat}{W:ag}(h:q∈bF.G {a with T:=A,t:=c}):q∈bF.G a\/q∈τ.ai A:=by
 rcases yP.1 h with h|h|h|h|h
 .exact .inl (UR h)
 .exact .inl (UQ h)
 .exact .inl (GR h)
 .exact .inl (Ja h)
 .exact .inr h
def E_(k:Int):Int:=if k=1 then 1 else if k=2 then 2 else 0
def pw(k:Int):Int:=if k=1 then 1 else if k=2 then 4 else 0
def MY(k:Int):Int:=if k=1 then 0 else if k=2 then 0 else 1
def aeb(k:Int)(w:World):Calls prog 123 #[.int .i64 k] w λ e w'=>e=.returned (.tuple #[.agg #[.int .i64 (ag.gT k),.int .i64 (E_ k),.int .i64 (pw k),.int .i64 (ag.kp k)],.int .i64 (MY k)])/\Ext w w':=by
 by_cases a:k=1
 .subst a;exact apJ w
 .by_cases b:k=2
  .subst b;exact apK w
  .have:=apL k w (sw GE);simpa[ag.gT,E_,pw,ag.kp,MY,a,b]using this
def bF.dq{c:Nat}{W:ag}(h:bF w aQ a W)(b:c<=aQ):bF w c a W:=⟨h.P.dq b,h.B.dq b,h.S.dq b,h.M.dq b,h.T.dq b,h.apart,h.nums⟩
def ag.zero:ag:=⟨⟨0,0,[]⟩,[],[],[],[],0,0⟩
def bF.zero(w:World)(aQ:Nat):bF w aQ ⟨none,none,none,none,none,0,0,0,0,0⟩ ag.zero:=⟨τ.aM.nil w,τ.aM.nil w,τ.aM.nil w,τ.aM.nil w,τ.aM.nil w,by simp[τ.ai],b7.2 GP,b7.2 GP,b7.2 GP,b7.2 GP⟩
def Z4{f:aE}{c:aw}(h:f.br=0)(b:f.eS c=0):f.dF c=true:=by
 cases a:f.dF c with
 | true=>rfl
 | false=>rw[(aE.O5 h a).1]at b;omega
def vW(f:aE)(p:aw)(A:Option Addr)(c:Nat)(w:World)(a:bN.aF 8 w A c f.G):
  Calls prog 166 #[.agg #[.int .i64 f.O,.int .i64 f.high,.slice A f.G.length c],.agg #[.int .i64 p.x,.int .i64 p.y]] w λ e w'=>e=.returned (.tuple #[.int .i64 (f.p1 p),.int .i64 (f.eS p)])/\Below w.heap.size w w':=abQ f p A c w a
theorem bF.aeR{P B S M T:Option Addr}{p b s m t:Nat}{W:ag}(d:bN.aM 3 8 w aQ (τ.ai P) P p W.am.G)(a:aw.ce.aM 41 16 w aQ (τ.ai B) B b W.aT)(e:bN.aM 3 8 w aQ (τ.ai S) S s W.bl)(g:bN.aM 3 8 w aQ (τ.ai M) M m W.bE)(c:bb.ce.aM 68 56 w aQ (τ.ai T) T t W.ah)
  (j:∀ q∈τ.ai B,q∈τ.ai P->False)(k:∀ q∈τ.ai S,q∈τ.ai P->False)(l:∀ q∈τ.ai S,q∈τ.ai B->False)(o:∀ q∈τ.ai M,q∈τ.ai P->False)(n:∀ q∈τ.ai M,q∈τ.ai B->False)(v:∀ q∈τ.ai M,q∈τ.ai S->False)
  (y:∀ q∈τ.ai T,q∈τ.ai P->False)(z:∀ q∈τ.ai T,q∈τ.ai B->False)(C:∀ q∈τ.ai T,q∈τ.ai S->False)(h:∀ q∈τ.ai T,q∈τ.ai M->False)(f:gg W.am.O/\gg W.am.high/\gg W.next/\gg W.db):
  bF w aQ ⟨P,B,S,M,T,p,b,s,m,t⟩ W:=by
 refine⟨d,a,e,g,c,?_,f⟩;have r:=yC P;have u:=yC B;have x:=yC S;have A:=yC M;have i:=yC T;simp only[bbb,bas]
 grind
theorem bF.aLx{W:ag}{p:List bb}(h:bF w aQ a W)(d:bb.ce.aM 68 56 w aQ (τ.ai A) A c p)(b:∀ q∈τ.ai A,q∈bF.G a->False):bF w aQ {a with T:=A,t:=c} {W with ah:=p}:=by
 refine⟨h.P,h.B,h.S,h.M,d,?_,h.nums⟩;have e:=h.apart;have f:=yC A;have g:∀ q∈τ.ai A,(q∈τ.ai a.P->False)/\(q∈τ.ai a.B->False)/\(q∈τ.ai a.S->False)/\(q∈τ.ai a.M->False):=λ q I=>⟨λ h=>b q I (UR h),λ h=>b q I (UQ h),λ h=>b q I (GR h),λ h=>b q I (Ja h)⟩;simp only[bbb,bas]at e ⊢
 grind
def aEI(h:q∈bF.G {a with T:=A,t:=c}):q∈bF.G a\/q∈τ.ai A:=by
 rcases yP.1 h with h|h|h|h|h
 .exact .inl (UR h)
 .exact .inl (UQ h)
 .exact .inl (GR h)
 .exact .inl (Ja h)
 .exact .inr h
structure aUC(a:ag.cS):Prop where
 vF:∀ q∈τ.ai a.P,q∈τ.ai a.S->False
 aUz:∀ q∈τ.ai a.P,q∈τ.ai a.M->False
 aUy:∀ q∈τ.ai a.P,q∈τ.ai a.B->False
 aUA:∀ q∈τ.ai a.P,q∈τ.ai a.T->False
 aUM:∀ q∈τ.ai a.S,q∈τ.ai a.M->False
 aUL:∀ q∈τ.ai a.S,q∈τ.ai a.B->False
 ST:∀ q∈τ.ai a.S,q∈τ.ai a.T->False
 aUi:∀ q∈τ.ai a.M,q∈τ.ai a.B->False
 ahV:∀ q∈τ.ai a.M,q∈τ.ai a.T->False
 aTf:∀ q∈τ.ai a.B,q∈τ.ai a.T->False
end
structure dm where
 O:Int
 H:Int
 an:aw
 Y:Int
 deriving DecidableEq,Inhabited
namespace dm
def cells(a:dm):List Value:=[.int .i64 (a.O),.int .i64 (a.H),.int .i64 (a.an.x),.int .i64 (a.an.y),.int .i64 (a.Y)]
def ok(a:dm):Prop:=(Lit.int .i64 a.O).wf=true/\(Lit.int .i64 a.H).wf=true/\(Lit.int .i64 a.an.x).wf=true/\(Lit.int .i64 a.an.y).wf=true/\(Lit.int .i64 a.Y).wf=true
def raw(j:Nat)(u:Value):Prop:=match j with
 | 0|1|2|3|4=>∃ n:Int,u=.int .i64 n
 | _=>True
def ui(a:dm):∀(j:Nat) u,a.cells[j]? =some u->raw j u:=by
 intro j u b
 match j,b with
 | 0,b|1,b|2,b|3,b|4,b=>exact⟨_,(bae b).symm⟩
 | j+5,b=>exact trivial
def cells_one(a:dm):∀ u∈a.cells,u.oneCell'=true:=by
 intro u b;unfold cells at b;simp only[baB,bbM,bcH]at b;rcases b with rfl|rfl|rfl|rfl|rfl<;>rfl
def ce:τ dm:=τ.flat 5 cells ok raw (λ _=>rfl) cells_one ui
def zero:Value:=.agg #[.int .i64 0,.int .i64 0,.int .i64 0,.int .i64 0,.int .i64 0]
def M:∀(j:Nat) u,zero.cells[j]? =some u->ce.raw j u:=by
 intro j u a;have a:(#[(.int .i64 0:Value),(.int .i64 0:Value),(.int .i64 0:Value),(.int .i64 0:Value),(.int .i64 0:Value)]:Array Value)[j]? =some u:=a
 match j,a with
 | 0,a|1,a|2,a|3,a|4,a=>exact⟨_,(bae a).symm⟩
 | j+5,a=>cases a
def G:(prog.info? 188).map (λ i=>(i.zero,i.size,i.bytes))=some (some zero,5,40):=GT
theorem d9{by_:Nat}{w:World}{A:Option Addr}{c:Nat}{l:List dm}(h:ce.aF by_ w A c l)(f:0<l.length):
  ∃ b o,A=some ⟨b,o,none⟩/\∀(i:Nat) (a:dm),l[i]? =some a->w.cell? ⟨b,o+i*5,none⟩=some (.int .i64 (a.O))/\w.cell? ⟨b,o+i*5+1,none⟩=some (.int .i64 (a.H))/\w.cell? ⟨b,o+i*5+2,none⟩=some (.int .i64 (a.an.x))/\w.cell? ⟨b,o+i*5+3,none⟩=some (.int .i64 (a.an.y))/\w.cell? ⟨b,o+i*5+4,none⟩=some (.int .i64 (a.Y)):=by
 obtain⟨b,o,e,j⟩:=h.d9 f;refine⟨b,o,e,λ i a g=>?_⟩;obtain⟨es,⟨rfl,_⟩,d⟩:=j i a g;exact⟨d 0 _ Z,d 1 _ Z,d 2 _ Z,d 3 _ Z,d 4 _ Z⟩
def sh:hg:=(.cons (.int .i64) (.cons (.int .i64) (.cons (.cons (.int .i64) (.cons (.int .i64) .nil)) (.cons (.int .i64) .nil))))
end dm
def amK{w:World}{cs:List Value}{a:dm}(h:dm.ce.bv w cs a):cs=a.cells:=bcs (show cs=a.cells/\a.ok from h)
end Go.Proofs.YtooonebcoaleiaaGreat
