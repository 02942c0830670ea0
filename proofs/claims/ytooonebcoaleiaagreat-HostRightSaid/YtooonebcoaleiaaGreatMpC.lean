import Derived.Test.YtooonebcoaleiaaGreatTroH
set_option linter.all false
set_option maxRecDepth 100000
set_option maxHeartbeats 4000000
open Go.RowKit
namespace Go.Proofs.YtooonebcoaleiaaGreat
open Tryz
abbrev bbh:=@congrArg
abbrev bbG:=@beq_eq_false_iff_ne
abbrev bbK:=@Bool.not_eq_false'
abbrev bcf:=@List.length_filter_le
abbrev bcN:=@List.mem_of_find?_eq_some
abbrev bdp:=@List.length_take_le
abbrev bdr:=@Nat.sub_self
abbrev bec:=@List.getElem_of_mem
abbrev beK:=@Int.mul_le_mul_of_nonneg_left
abbrev bfo:=@List.replicate_succ'
abbrev bfA:=@Int.mul_tdiv_cancel
def L_{P:Program}{E:List (Nat×Value)}{w:World}{d:Option Nat}{ty:TypeId}{pos:String}{af:Array Edge}{g:Option (Nat×Bool)}{x:Operand}{t:TypeId}{i:Nat}{u v:Value}(e:ev E x=some u)(c:(Instr.field t u i).run P w=.ok v w):dc P E ⟨d,.field t x i,ty,pos,af,g⟩ w v w:=λ n a b=>by
 simp only[execOp,b.ev e,bar,c,bal,bat]
def ml(n lo a:Int)(w:World):
  Calls prog 22 #[J n,J lo,J a] w (λ e w'=>e=.returned (.bool (bA n lo a))/\Ext w w'):=by
 refine bT (n:=15) func22 Z Z Z ?_;refine ar<|aG Z<|aC Z<|vm Z<|κ (ble Z Z)<|vm Z<|er Z Z<|er Z Z<|aR Z (λ b=>ble (gt b Z) (gt b Z))<|κ (cQ Z Z Z Z)<|bc Z<|b3 Z Z<|?_;exact⟨Z,(Ext.U w)⟩
theorem Nu(f:aE)(P:Option Addr)(j:Nat)(c:aw)(w:World)(p:f.br=0):
  Calls prog 136 #[.agg #[J f.O,J f.high,.slice P f.G.length j],.agg #[J c.x,J c.y]] w (λ e w'=>e=.returned (.bool (f.dF c))/\Ext w w'):=by
 obtain⟨g1,g2,g3,g4,g5,g6⟩:=aE.hB p;refine bT (n:=19) func136 Z Z Z ?_;refine cZ Z Z λ t q i s b=>?_;refine gz Z Z λ u r h v d=>?_;have k:=Φ i h;refine aG Z<|ar<|κ (aj fj Z)<|a1 Z d aH Z<|κ (aj s8 Z)<|?_;have b:=b.O h;refine a1 Z b aH Z<|κ (hi Z Z dK)<|cf l_ Z (ml c.x 0 (f.O-1) _) λ x g=>?_;have l:=Φ k g;refine vm Z<|aR Z (λ a=>aj fk Z)<|?_;have d:=d.O g;refine aR Z (λ a=>aq (gt a Z) (d.one aH Z))<|aR Z (λ a=>aj I5 Z)<|?_;have b:=b.O g;refine aR Z (λ a=>aq (gt a Z) (b.one aH Z))<|aR Z (λ a=>hi (gt a Z) Z (mb (by (try simp only[cb]at a);omega)))<|iD Z l_ (λ a=>b6 (gt a Z) (b6 Z (b6 (gt a Z) Z))) (λ a=>ml c.y 0 (f.high-1) _) λ y o=>?_;have m:=Φ l o;refine κ (cQ Z Z Z Z)<|bc Z<|b3 Z Z<|?_;exact⟨Z,m⟩
theorem Nw(f:aE)(P:Option Addr)(h:Nat)(c:aw)(w:World)(d:f.br=0)(j:bN.aF 8 w P h f.G)(m:f.dF c=true):
  Calls prog 137 #[.agg #[J f.O,J f.high,.slice P f.G.length h],.agg #[J c.x,J c.y]] w (λ e w'=>e=.returned (J (f.H c))/\Ext w w'):=by
 obtain⟨g1,g2,g3,g4,g5,g6⟩:=aE.hB d;have o:=aE.M d;obtain⟨x,y,z,A,B,C⟩:=aE.idx d m;have D:c.y*f.O<=40*40:=bbP GE GE GE GE;have E:0<=c.y*f.O:=bca GE GE;refine bT (n:=17) func137 Z Z Z ?_;refine cZ Z Z λ s p k r a=>?_;refine gz Z Z λ t q i v g=>?_;have b:=Φ k i;refine aG Z<|ar<|κ (aj qK Z)<|?_;have a:=a.O i;refine a1 Z a et Z<|κ (aj fk Z)<|a1 Z g aH Z<|κ (aj s8 Z)<|a1 Z a aH Z<|κ (mD Z Z dK)<|κ (aj fj Z)<|a1 Z g aH Z<|fb Z Z<|κ (bD (((c.y*f.O)+c.x).toNat) underlying22 cO Z Z ((j.be b).Y (aL (((c.y*f.O)+c.x).toNat))) GE GE)<|κ (aq Z (τ.aF.H ew ((j.be b).O (aL (((c.y*f.O)+c.x).toNat))) (cg (l:=f.G) (u:=0) GE) Z aH))<|bc Z<|b3 Z Z<|?_;exact⟨Z,b⟩
theorem afr(f:aE)(P:Option Addr)(h:Nat)(c:aw)(w:World)(k:f.br=0)(o:bN.aF 8 w P h f.G):
  Calls prog 107 #[.agg #[J f.O,J f.high,.slice P f.G.length h],.agg #[J c.x,J c.y]] w (λ e w'=>e=.returned (.bool (f.ground c))/\Ext w w'):=by
 refine bT (n:=14) func107 Z Z Z ?_;refine cZ Z Z λ u r l t b=>?_;refine gz Z Z λ v s i x d=>?_;have m:=Φ l i;refine aG Z<|ar<|?_;have b:=b.O i;refine κ (aq Z (b.all gA gB))<|κ (aq Z (d.all bS bq))<|cf L2 Z (Nu f _ _ c _ k) λ y g=>?_;have j:=Φ m g;refine vm Z<|?_;have b:=b.O g;refine aR Z (λ a=>aq Z (b.all gA gB))<|?_;have d:=d.O g;refine aR Z (λ a=>aq Z (d.all bS bq))<|iD Z L4 (λ a=>b6 (gt a Z) (b6 (gt a Z) Z)) (λ a=>Nw f _ _ c _ k (o.be j) (by simpa using a)) λ z q=>?_;have p:=Φ j q;refine aR Z (λ a=>bne (gt a Z) Z)<|κ (cQ Z Z Z Z)<|bc Z<|b3 Z Z<|?_;exact⟨Z,p⟩
theorem afq(f:aE)(P:Option Addr)(g:Nat)(w:World)(m:f.br=0)(j:bN.aF 8 w P g f.G):
  Calls prog 106 #[.agg #[J f.O,J f.high,.slice P f.G.length g]] w (λ e w'=>e=.returned (J 0)/\Ext w w'):=by
 obtain⟨g1,g2,g3,g4,g5,g6⟩:=aE.hB m;have D:=aE.M m;refine bT (n:=35) func106 Z Z Z ?_;refine cZ Z Z λ K E r H a=>?_;refine aG Z<|av<|ar<|κ (aj s8 Z)<|a1 Z a aH Z<|cf l_ Z (ml f.O 1 40 _) λ L i=>?_;have x:=Φ r i;refine κ (dj Z)<|vm Z<|aR Z (λ b=>aj I5 Z)<|?_;have a:=a.O i;refine aR Z (λ b=>aq (gt b Z) (a.one aH Z))<|iD Z l_ (λ b=>b6 (gt b Z) (b6 Z (b6 Z Z))) (λ b=>ml f.high 1 40 _) λ N o=>?_;have B:=Φ x o;refine aR Z (λ b=>dj (gt b Z))<|κ (dS Z Z Z Z)<|ax<|?_;have s:((!(bA f.O 1 40)) || (!(bA f.high 1 40)))=false:=by rw[kj g1 g2,kj g3 g4];rfl
 refine ef (by rw[<-s];rfl)<|bf<|av<|ar<|κ (aj qK Z)<|?_;have a:=a.O o;refine a1 Z a et Z<|κ (bY underlying22 Z)<|κ (aj s8 Z)<|a1 Z a aH Z<|κ (aj I5 Z)<|a1 Z a aH Z<|κ (mD Z Z (mb (by rw[<-g5];omega)))<|cV Z Z<|ax<|?_;have y:((f.G.length:Int) != (f.O*f.high))=false:=by rw[g5];simp
 refine ef (by rw[<-y];rfl)<|bf<|av<|ar<|κ (aj qK Z)<|a1 Z a et Z<|κ (bY underlying22 Z)<|vm Z<|ax<|bp<|?_;refine di (λ v t q=>∃ k:Nat,t=[(25,.slice P f.G.length g),(26,J (f.G.length:Int)),(27,J (k:Int))]/\v=f.G.length-k/\Ext w q/\(k<=f.G.length)) _ _ ⟨0,Z,Z,B,GE⟩ (c' Z Z Z) ?_;rintro Q G M ⟨k,rfl,rfl,c,F⟩;refine ar<|cF Z Z<|ax<|av<|?_;refine c7 Z (λ C=>?_) (λ C=>?_)
 .refine bf<|av<|bp<|ar<|κ (bD k underlying22 cO Z Z ((j.be c).Y (aL k)) Z GE)<|κ (aq Z (τ.aF.H ew ((j.be c).O (aL k)) (cg (l:=f.G) (u:=0) GE) Z aH))<|aG Z<|aC Z<|cf l_ Z (ml (f.G.getD k 0) 0 3 _) λ O z=>?_;have A:=Φ c z;refine κ (dj Z)<|ax<|?_;have p:(!(bA (f.G.getD k 0) 0 3))=false:=by have h:=g6 _ (gZ (d:=0) (l:=f.G) (k:=k) GE);rw[kj h.1 h.2];rfl
  refine ef (by rw[<-p];rfl)<|dP<|bK<|cW Z Z Z<|?_;exact cM ⟨k+1,Z,Z,A,GE⟩
 .refine cI<|cH<|cU<|cG<|a7<|ar<|bc Z<|b3 Z Z<|?_;exact⟨Z,c⟩
theorem aN2(w:World):
  Calls prog 108 #[J 1] w (λ e w'=>e=.returned (.agg #[J (ag.gT 1),J (E_ 1),J (pw 1),J (ag.kp 1)])/\Ext w w'):=by
 refine bT (n:=10) func108 Z Z Z ?_;refine ar<|cy Pw Z λ l i d k a=>?_;refine ax<|ar<|κ (v:=.agg #[J 0,J 0,J 0,J 0]) (ee Z)<|κ (v:=.agg #[J 10,J 1,J 1,J 5]) (ee Z)<|κ (v:=.agg #[J 20,J 2,J 4,J 12]) (ee Z)<|cT (e:=193) (cs:=[J 0,J 0,J 0,J 0,J 10,J 1,J 1,J 5,J 20,J 2,J 4,J 12]) Z (λ _=>GT) Z λ m j b o f=>?_;have g:=Φ d b;refine vm Z<|κ (bD 1 underlying225 Ap Z Z Z Z GP)<|κ (aq Z (f.Y [J 10,J 1,J 1,J 5] Uv Ap Z))<|?_;have a:=a.O b;refine ck Z Z a Z Ap Z Z λ p c a=>?_;have h:=Ext.H g c bn;refine tC<|cJ (.cell Z (a.all Uv Ap) .nil)<|?_;exact⟨Z,h⟩
theorem aN3(w:World):
  Calls prog 108 #[J 2] w (λ e w'=>e=.returned (.agg #[J (ag.gT 2),J (E_ 2),J (pw 2),J (ag.kp 2)])/\Ext w w'):=by
 refine bT (n:=10) func108 Z Z Z ?_;refine ar<|cy Pw Z λ l i d k a=>?_;refine ax<|ar<|κ (v:=.agg #[J 0,J 0,J 0,J 0]) (ee Z)<|κ (v:=.agg #[J 10,J 1,J 1,J 5]) (ee Z)<|κ (v:=.agg #[J 20,J 2,J 4,J 12]) (ee Z)<|cT (e:=193) (cs:=[J 0,J 0,J 0,J 0,J 10,J 1,J 1,J 5,J 20,J 2,J 4,J 12]) Z (λ _=>GT) Z λ m j b o f=>?_;have g:=Φ d b;refine vm Z<|κ (bD 2 underlying225 Ap Z Z Z Z GP)<|κ (aq Z (f.Y [J 20,J 2,J 4,J 12] Uv Ap Z))<|?_;have a:=a.O b;refine ck Z Z a Z Ap Z Z λ p c a=>?_;have h:=Ext.H g c bn;refine tC<|cJ (.cell Z (a.all Uv Ap) .nil)<|?_;exact⟨Z,h⟩
theorem ar0(p:Int)(w:World)(h:0<=p/\p<=3):
  Calls prog 180 #[J p] w (λ e w'=>e=.returned (J (mM p))/\Ext w w'):=by
 refine bT (n:=7) func180 Z Z Z ?_;refine ar<|aG Z<|ar<|cT (e:=3) (cs:=[J 2,J (-1),J 3,J 2]) Z (λ _=>GT) Z λ g d b f c=>?_;refine vm Z<|?_;have a:=aO.K (R:=bN) (by_:=8) (B:=w.heap.size) (k:=[2,-1,3,2]) c [[J 2],[J (-1)],[J 3],[J 2]] rfl (⟨⟨rfl,b7.2 GP⟩,⟨⟨rfl,b7.2 GP⟩,⟨⟨rfl,b7.2 GP⟩,⟨⟨rfl,b7.2 GP⟩,trivial⟩⟩⟩⟩) Kx Kx GP GE;refine κ (bD p.toNat underlying22 cO Z Z (a.bv.Y (aL p.toNat (by show _<4;omega))) GE (by show _<4;omega))<|κ (aq Z (τ.aF.H ew (a.bv.O (aL p.toNat (by show _<4;omega))) (cg (l:=[2,-1,3,2]) (u:=0) (by show _<4;omega)) Z aH))<|bc Z<|b3 Z Z<|?_;exact⟨Z,b⟩
def HL(a b:Int)(w:World)(h: -9000000000000000<=a-b/\a-b<=9000000000000000):
  Calls prog 197 #[J a,J b] w (λ e w'=>e=.returned (J (hz a b))/\Ext w w'):=by
 refine bT (n:=12) func197 Z Z Z ?_;refine ar<|aG Z<|aC Z<|vm Z<|κ (hi Z Z dK)<|vm Z<|vm Z<|κ (hi Z Z dK)<|κ (mx Z Z)<|bc Z<|b3 Z Z<|?_;exact⟨Z,(Ext.U w)⟩
theorem ar8(c d:aw)(w:World)(h: -1000<=c.x/\c.x<=1000/\-1000<=c.y/\c.y<=1000):
  Calls prog 183 #[.agg #[J c.x,J c.y],.agg #[J d.x,J d.y]] w (λ e w'=>e=.returned (.bool (beside c d))/\Ext w w'):=by
 refine bT (n:=25) func183 Z Z Z ?_;refine cZ Z Z λ s p j r b=>?_;refine gz Z Z λ t q i u f=>?_;have k:=Φ j i;refine aG Z<|ar<|κ (aj fj Z)<|a1 Z f aH Z<|κ (aj fj Z)<|?_;have b:=b.O i;refine a1 Z b aH Z<|κ (hi Z Z dK)<|κ (aj fj Z)<|a1 Z b aH Z<|fb Z Z<|cf l_ Z (ml d.x (c.x-1) (c.x+1) _) λ v g=>?_;have l:=Φ k g;refine vm Z<|aR Z (λ a=>aj fk Z)<|?_;have f:=f.O g;refine aR Z (λ a=>aq (gt a Z) (f.one aH Z))<|aR Z (λ a=>aj fk Z)<|?_;have b:=b.O g;refine aR Z (λ a=>aq (gt a Z) (b.one aH Z))<|aR Z (λ a=>hi (gt a Z) Z (mb (by (try simp only[cb]at a);omega)))<|aR Z (λ a=>aj fk Z)<|aR Z (λ a=>aq (gt a Z) (b.one aH Z))<|aR Z (λ a=>bad (gt a Z) Z (mb (by (try simp only[cb]at a);omega)))<|iD Z l_ (λ a=>b6 (gt a Z) (b6 (gt a Z) (b6 (gt a Z) Z))) (λ a=>ml d.y (c.y-1) (c.y+1) _) λ x o=>?_;have m:=Φ l o;refine κ (cQ Z Z Z Z)<|bc Z<|b3 Z Z<|?_;exact⟨Z,m⟩
def Nv(k:Int)(w:World)(h:1<=k/\k<=2):Calls prog 108 #[J k] w (λ e w'=>e=.returned (.agg #[J (ag.gT k),J (E_ k),J (pw k),J (ag.kp k)])/\Ext w w'):=by
 rcases(show k=1\/k=2 by omega)with rfl|rfl
 .exact aN2 w
 .exact aN3 w
section
variable{f:FuncId}{name:String}{ts:Array TypeId}{args:List Value}
section
variable{P:Program}{n:Nat}{E:List (Nat×Value)}{w w':World}{Q:Exit->Act->World->Prop}{ops:Array Oper}{ty:TypeId}{pos:String}{af:Array Edge}{rest:List Oper}{x y z:Operand}{t u:TypeId}{v l6:Value}{d:Option Nat}{g:Option (Nat×Bool)}
def F6(P:Program)(w:World)(t:TypeId)(v:Value)(b:String)(f:FuncId)(a:Value):Prop:=(Go.method (P.types.size+Made.depth) t v b).run P w=.ok (f,a) w
theorem asi(m:Enters P f){xs:Array Operand}{a:Act}(b:fz n E a)(p:ev E x=some (.iface t v))(l:hV E xs.toList=some args)(c:F6 P w t v name f l6):
  (execOp a.eval ⟨d,.call {callee:=.invoke x name,args:=xs,argTypes:=ts},ty,pos,af,g⟩).run P w=.ok (.enter f (l6::args).toArray) w:=by
 obtain⟨fn,e,h,i⟩:=m;have q:xs.map a.eval=args.toArray:=by rw[<-b.hV l];apply bbQ;simp
 unfold F6 at c;have e0:(#[(Value.iface t v)]++args.toArray)[0]? =some (.iface t v):=Kx
 have j:(#[(Value.iface t v)]++args.toArray).extract 1 (#[(Value.iface t v)]++args.toArray).size=args.toArray:=Kx
 have k:#[l6]++args.toArray=(l6::args).toArray:=Kx
 have o:Sem.run P program w=.ok P w:=rfl;simp only[execOp,resolve,q,b.ev p,bar,bat,bal,invoke,e0,j,callMethod,callFunc,o,c,e,h,i,k,ba0,bbE]
theorem dp{d:Nat}(j:Enters P f){xs:Array Operand}(l:ev E x=some (.iface t v))(i:hV E xs.toList=some args)(k:F6 P w t v name f l6)(g:Nat.blt d n=true)
  (h:Calls P f (l6::args).toArray w λ e w'=>∃ v,e=.returned v/\cx P n ops Q rest ((d,v)::E) w'):cx P n ops Q (⟨some d,.call {callee:=.invoke x name,args:=xs,argTypes:=ts},ty,pos,af,none⟩::rest) E w:=λ a b=>by
 refine LH Z ?_;unfold Oper.wp;rw[asi j b l i k];refine beC h λ e w' c=>?_;obtain⟨v,rfl,h⟩:=c;exact h _ (b.put g v)
theorem aon{d:Nat}{xs:Array Operand}{j:Nat}{q b c:Bool}{k:Oper}{m:Nat}{p:Value}(r:ops[j]? =some k)(F:k.dst=some m)(y:look E m=some (.bool b))(g:(b == q)=c)
  (A:Enters P f)(D:c=true->ev E x=some (.iface t p))(z:c=true->hV E xs.toList=some args)(B:F6 P w t p name f l6)(C:c=true->Calls P f (l6::args).toArray w λ e w'=>e=.returned v/\Ext w w')(l:Nat.blt d n=true)
  (h:∀ w',Ext w w'->cx P n ops Q rest ((d,cP c v)::E) w'):cx P n ops Q (⟨some d,.call {callee:=.invoke x name,args:=xs,argTypes:=ts},ty,pos,af,some (j,q)⟩::rest) E w :=
 Sg (c:=c) (λ a i=>by rw[Da (o:=⟨some d,_,ty,pos,af,some (j,q)⟩) rfl r F y i,g])
  (λ g a i=>by unfold Oper.wp;rw[asi A i (D g) (z g) B];exact(C g).mono λ e w' ⟨u,s⟩=>by subst u;subst g;exact h w' s _ (i.put l v)) (λ g a i=>by subst g;exact h w (Ext.U w) _ (i.put l undef))
def WR(c:∀ w,(Instr.makeInterface t v).run P w=.ok (.iface t v) w)(e:ev E x=some v):dc P E ⟨d,.makeInterface t x,ty,pos,af,g⟩ w (.iface t v) w:=λ n a b=>by
 simp only[execOp,b.ev e,bar,c w,bal,bat]
def atp{b:TypeId}(e:∀ w,(Instr.typeAssert (.iface t v) b t false).run P w=.ok v w)(f:ev E x=some (.iface t v)):dc P E ⟨d,.typeAssert x b t false,ty,pos,af,g⟩ w v w:=λ n a c=>by
 simp only[execOp,c.ev f,bar,e w,bal,bat]
def CV{e:TypeId}{p:Addr}(h:(Go.method (P.types.size+Made.depth) t (.pointer (some p)) name).run P w=(loadVar e p >>= λ x=>pure (f,x)).run P w)(a:nJ P w e p v):F6 P w t (.pointer (some p)) name f v:=by
 unfold F6;unfold nJ at a;rw[h];simp only[bar,a,bal,bat]
end
end
section
variable{j:Nat}
namespace dh
section
variable{α:Type}[Inhabited α]{key:α->Int}{lm l:List α}{m N n:Nat}
def aQy(h:(((((m-1) / 2:Nat):Int)== (m:Int)) || !decide (key (lm.getD m default)<key (lm.getD ((m-1) / 2) default)))=true):sL key lm m=lm:=by
 unfold sL;rw[ban];rintro⟨b,a⟩;simp only[baY,ba9,ba3,baT]at h;rcases h with h|h
 .omega
 .exact h a
def aQz(h:(((((m-1) / 2:Nat):Int)== (m:Int)) || !decide (key (lm.getD m default)<key (lm.getD ((m-1) / 2) default)))=false):0<m/\sL key lm m=sL key (swp lm ((m-1) / 2) m) ((m-1) / 2):=by
 simp only[baN,bbG,bbK,baF]at h;have b:0<m:=by
  rcases bdw m with a|a
  .subst a;exact absurd Z h.1
  .exact a
 refine⟨b,?_⟩
 conv=>lhs;unfold sL
 rw[bap ⟨b,h.2⟩]
def aBk(h:(decide ((N:Int)<=2*(m:Int)+1) || decide (2*(m:Int)+1<0))=true):lX key N l m=l:=by
 unfold lX;rw[ban];simp only[baY,baF]at h;omega
def aBl(h:(decide ((N:Int)<=2*(m:Int)+1) || decide (2*(m:Int)+1<0))=false):2*m+1<N:=by
 simp only[baN,baT]at h;omega
def aKy(h:(decide (2*(m:Int)+1+1<(N:Int)) && decide (key (l.getD (2*m+1+1) default)<key (l.getD (2*m+1) default)))=true):qP key N l m=2*m+2:=by
 simp only[bai,baF]at h;unfold qP;rw[bap ⟨GE,h.2⟩]
def aKw{q:Bool}(h:(decide (2*(m:Int)+1+1<(N:Int)) && q)=true):2*m+2<N:=by
 simp only[bai,baF]at h;omega
def aKx(h:(decide (2*(m:Int)+1+1<(N:Int)) && decide (key (l.getD (2*m+1+1) default)<key (l.getD (2*m+1) default)))=false):qP key N l m=2*m+1:=by
 unfold qP;rw[ban];rintro⟨b,a⟩;rw[baG (show 2*(m:Int)+1+1<(N:Int) by omega),baG (show key (l.getD (2*m+1+1) default)<key (l.getD (2*m+1) default)from a)]at h;cases h
def akb(c:2*m+1<N)(b:qP key N l m=j)(h:(!decide (key (l.getD j default)<key (l.getD m default)))=true):lX key N l m=l:=by
 unfold lX;rw[ban];rw[b];rintro⟨_,a⟩;rw[baG a]at h;cases h
def akc(a:2*m+1<N)(b:qP key N l m=j)(h:(!decide (key (l.getD j default)<key (l.getD m default)))=false):lX key N l m=lX key N (swp l m j) j:=by
 conv=>lhs;unfold lX
 rw[b,bap ⟨a,by simpa using h⟩]
end
end dh
def aPJ(m:Nat):Int.tdiv ((m:Int)-1) 2=(((m-1) / 2:Nat):Int):=by
 cases m with
 | zero=>rfl
 | succ m =>
  rw[show((m+1:Nat):Int)-1=(m:Int) by omega,bdy GE];simp
section
variable{P:Program}{n:Nat}{E:List (Nat×Value)}{w:World}{ty:TypeId}{pos:String}{af:Array Edge}{x y:Operand}{t u:TypeId}{d:Option Nat}{g:Option (Nat×Bool)}
def aal{k:IntKind}{i j r:Int}(f:ev E x=some (.int k i))(a:ev E y=some (.int k j))(b:j≠0)(c:Int.tdiv i j=r)(e:k.wrap r=r):dc P E ⟨d,.binOp .quo t x y u,ty,pos,af,g⟩ w (.int k r) w:=ot f a (binOp_quo t k i j) (by
 subst c;have:Op.intDiv .quo k i j=pure (.int k (Int.tdiv i j)):=by simp[Op.intDiv,b,e]
 rw[this];rfl)
end
end
theorem uu{P:Program}{n:Nat}{b:Array Oper}{Q:Exit->Act->World->Prop}{c:Nat->Nat}{l:List Nat}{E:List (Nat×Value)}{t:World}{i d:Nat}{s:Op}{ty:TypeId}{pos:String}{af:Array Edge}{j:Nat}{q:Bool}{u:Value}{m:Oper}{r:Nat}(g:b[i]? =some ⟨some d,s,ty,pos,af,some (j,q)⟩)(k:Nat.ble (c i) 1=true)(v:b[j]? =some m)(y:m.dst=some r)(x:look E r=some (cP false u))(o:Nat.blt d n=true)
  (h:gN P n b Q c l ((d,undef)::E) t):gN P n b Q c (i::l) E t:=λ a e=>by
 have f:=e.g _ _ x;simp only[cP,ba0,bbE]at f;have p:Region.wanted ⟨some d,s,ty,pos,af,some (j,q)⟩ (yielded b a.tmps)=false:=by simp[Region.wanted,yielded,v,y,f,undef]
 have k:=bcc k;rcases ba2 0 (c i)with w|w
 .exact⟨_,g,.inr (.inl ⟨GE,undef,.inr ⟨p,rfl⟩,h _ (e.put o _)⟩)⟩
 .exact⟨_,g,.inl ⟨GE,undef,.inr ⟨p,rfl⟩,h _ (e.put o _)⟩⟩
section
variable{j jq:Nat}{q c cl k:Bool}{dN:Oper}
section
variable{P:Program}{n:Nat}{ops:Array Oper}{Q:Exit->Act->World->Prop}{E:List (Nat×Value)}{w:World}{v:Value}{ty:TypeId}{pos:String}{af:Array Edge}{x y z:Operand}{t:TypeId}{g:Option (Nat×Bool)}{rest:List Oper}{d:Option Nat}
theorem dV{d:Nat}{g:Op}{b:Bool}(i:ops[j]? =some dN)(p:dN.dst=some jq)(l:look E jq=some (cP cl (.bool b)))(f:(cl && (b == q))=c)
  (r:c=true->dc P E ⟨some d,g,ty,pos,af,some (j,q)⟩ w v w)(m:Nat.blt d n=true)(h:cx P n ops Q rest ((d,cP c v)::E) w):cx P n ops Q (⟨some d,g,ty,pos,af,some (j,q)⟩::rest) E w :=
 Sg (c:=c) (λ a e=>by
  have k:=e.g _ _ l;subst f;cases cl with
  | true=>exact Da (o:=⟨some d,g,ty,pos,af,some (j,q)⟩) rfl i p (b:=b) l e
  | false =>
   simp only[cP,ba0,bbE]at k;simp[Region.wanted,yielded,i,p,k,undef])
  (λ f a e=>by unfold Oper.wp;rw[r f n a e];subst f;exact h _ (e.put m v)) (λ f a e=>by subst f;exact h _ (e.put m undef))
theorem af7{d:Nat}{f:FuncId}{xs:Array Operand}{y:Array TypeId}{args:List Value}{b:Bool}(l:ops[j]? =some dN)(r:dN.dst=some jq)(m:look E jq=some (cP cl (.bool b)))(i:(cl && (b == q))=c)
  (t:Enters P f)(s:c=true->hV E xs.toList=some args)(u:c=true->Calls P f args.toArray w λ e w'=>e=.returned v/\Ext w w')(p:Nat.blt d n=true)
  (h:∀ w',Ext w w'->cx P n ops Q rest ((d,cP c v)::E) w'):cx P n ops Q (⟨some d,.call {callee:=.value (.func f),args:=xs,argTypes:=y},ty,pos,af,some (j,q)⟩::rest) E w :=
 Sg (c:=c) (λ a g=>by
  have k:=g.g _ _ m;subst i;cases cl with
  | true=>exact Da (o:=⟨some d,_,ty,pos,af,some (j,q)⟩) rfl l r (b:=b) m g
  | false =>
   simp only[cP,ba0,bbE]at k;simp[Region.wanted,yielded,l,r,k,undef])
  (λ i a g=>by unfold Oper.wp;rw[Nx t g (s i)];exact(u i).mono λ e w' ⟨k,x⟩=>by subst k;subst i;exact h w' x _ (g.put p v)) (λ i a g=>by subst i;exact h w (Ext.U w) _ (g.put p undef))
def Rw{b:Bool}(e:k=true)(h:ev E x=some (.bool b))(a:ev E y=some (.bool true))(f:ev E z=some (cP (k && (b == false)) (.bool c))):dc P E ⟨d,.pick x y z,ty,pos,af,g⟩ w (.bool (b || c)) w:=by
 subst e;exact dS h a Z f
def E7{b:Bool}(e:k=true)(h:ev E x=some (.bool b))(f:ev E z=some (.bool false))(a:ev E y=some (cP (k && (b == true)) (.bool c))):dc P E ⟨d,.pick x y z,ty,pos,af,g⟩ w (.bool (b && c)) w:=by
 subst e;exact cQ h f Z a
end
end
section
variable{a c:aw}{k n y:Int}{f:aE}
def ah5:dU prog aw.ce 25 41 16:=dU.O (z:=aw.zero) (k:=2) underlying25 aw.G rfl rfl GP aw.M
def ah7:yp prog aw.cells 41 :=by
 intro a b w;obtain⟨a0,dQ⟩:=a;obtain⟨z8,hh⟩:=b;simp only[aw.cells,aw.mk.injEq];constructor
 .go_simp
  repeat' split
  all_goals simp_all
 .go_simp
  repeat' split
  all_goals simp_all
def ah6:(prog).eqGuardType (prog).depth 41 =false:=GT
def UM{a b c:Int}(h: -c<=a-b/\a-b<=c):0<=hz a b/\hz a b<=c/\(a-b=hz a b\/b-a=hz a b):=by unfold hz;omega
def TO(k n a b y t:Int):Bool:=decide (hz (n*y) (n*a+k*(b-a))<hz (n*t) (n*a+k*(b-a))) || ((hz (n*y) (n*a+k*(b-a))== hz (n*t) (n*a+k*(b-a))) && decide (hz y b<hz t b))
def z7(k n a b:Int):Nat->Int
 | 0=>a
 | j+1=>if TO k n a b (min a b+j) (z7 k n a b j)then min a b+j else z7 k n a b j
def xl(k n a b:Int):Int:=z7 k n a b (max a b+1-min a b).toNat
def Z3(k n a b:Int):∀ j:Nat,(j:Int)<=max a b+1-min a b->min a b<=z7 k n a b j/\z7 k n a b j<=max a b
 | 0,_=>by rw[z7];omega
 | j+1,h=>by
  have:=Z3 k n a b j GE;rw[z7];split<;>omega
def ait(k n a b:Int):min a b<=xl k n a b/\xl k n a b<=max a b:=Z3 k n a b _ GE
def aiu{a b t:Int}(c:t=z7 k n a b (y-min a b).toNat)(d:min a b<=y):z7 k n a b (y+1-min a b).toNat=if TO k n a b y t then y else t:=by
 rw[show(y+1-min a b).toNat=(y-min a b).toNat+1 by omega,z7,<-c,show min a b+((y-min a b).toNat:Int)=y by omega]
def Ni(a:0<=n)(e:n<=40)(b: -40<=y)(c:y<=40): -1600<=n*y/\n*y<=1600:=by
 have f:=beK c a;have d:=beK b a;omega
def rD(d:Int):Int:=if d<0 then -1 else 1
def atf{d x:Int}(a:0<x)(h:d=x\/d= -x):(k*d).tdiv x=k*rD d:=by
 rcases h with rfl|rfl
 .rw[bfA _ GE];unfold rD;rw[ban GE,Int.mul_one]
 .rw[Int.mul_neg,Int.neg_tdiv,bfA _ GE];unfold rD;rw[bap GE];omega
def xD(a b:aw)(k:Int):aw:=if hz a.y b.y<=hz a.x b.x then⟨a.x+k*rD (b.x-a.x),xl k (hz a.x b.x) a.y b.y⟩else⟨xl k (hz a.y b.y) a.x b.x,a.y+k*rD (b.y-a.y)⟩
def Ht(a b:aw)(k:Nat):List aw:=a::(List.range (k-1)).map λ(i:Nat)=>xD a b ((i:Int)+1)
def mf(a b:aw):List aw:=Ht a b (max (hz a.x b.x) (hz a.y b.y)+1).toNat
def ap9(a b:aw){k:Nat}(c:1<=k):Ht a b (k+1)=Ht a b k++ [xD a b k]:=by
 unfold Ht;obtain⟨j,rfl⟩:∃ j,k=j+1:=⟨k-1,GE⟩;rw[show j+1+1-1=j+1 by omega,show j+1-1=j by omega,bbS,baJ];rfl
def Ra(a b:aw){k:Nat}(c:1<=k):(Ht a b k).length=k:=by unfold Ht;simp;omega
theorem ap8{b:aw}(e:0<=k)(f:k<=max (hz a.x b.x) (hz a.y b.y)):min a.x b.x<=(xD a b k).x/\(xD a b k).x<=max a.x b.x/\min a.y b.y<=(xD a b k).y/\(xD a b k).y<=max a.y b.y:=by
 have c:=ait k (hz a.x b.x) a.y b.y;have d:=ait k (hz a.y b.y) a.x b.x;have g:∀ u v:Int,k<=hz u v->min u v<=u+k*rD (v-u)/\u+k*rD (v-u)<=max u v:=λ u v h=>by
  unfold hz at h;unfold rD;split<;>(rw[show ∀ z:Int,k*z=z*k from λ z=>bdt _ _];omega)
 unfold xD;split
 .have:=g a.x b.x GE;exact⟨this.1,this.2,c.1,c.2⟩
 .have:=g a.y b.y GE;exact⟨d.1,d.2,this.1,this.2⟩
def tA(c:aw):Prop:=0<=c.x/\c.x<=40/\0<=c.y/\c.y<=40
def aKj{b:aw}(d:c∈mf a b):min a.x b.x<=c.x/\c.x<=max a.x b.x/\min a.y b.y<=c.y/\c.y<=max a.y b.y:=by
 unfold mf Ht at d;rcases baB.1 d with rfl|d
 .omega
 .obtain⟨i,e,rfl⟩:=baV.1 d;have:=baW.1 e;exact ap8 GE GE
def aE.EL(a:f.br=0)(b:f.dF c=true):tA c:=by
 obtain⟨g1,g2,g3,g4,_,_⟩:=aE.hB a;obtain⟨_,_,d,e,g,h⟩:=aE.idx a b;exact⟨GE,GE,GE,GE⟩
def aKk{b:aw}(d:f.br=0)(g:f.dF a=true)(e:f.dF b=true)(h:c∈mf a b):f.dF c=true:=by
 obtain⟨_,_,m,n,o,p⟩:=aE.idx d g;obtain⟨_,_,j,i,k,l⟩:=aE.idx d e;have:=aKj h;exact aE.ad3 GE GE GE GE
def Kv(f:aE)(a b c:aw):Bool:=(!decide (c=a) && !decide (c=b)) && (f.H c % 3 != 0)
def Ke(f:aE)(a b:aw):Bool:=(mf a b).all λ c=> !Kv f a b c
def aqi(f:aE)(a b:aw):Bool:=Ke f a b || Ke f b a
def aLZ{b:aw}{k:Nat}(c:k<(mf a b).length)(h:Kv f a b ((mf a b).getD k default)=true):Ke f a b=false:=by
 unfold Ke;rw[bc9];exact⟨_,gZ c,by rw[h];decide⟩
def aL2{b:aw}(h:∀ i,i<(mf a b).length->Kv f a b ((mf a b).getD i default)=false):Ke f a b=true:=by
 unfold Ke;rw[ba8];intro c e;obtain⟨i,d,rfl⟩:=bec e;have:=h i d;rw[baa,bac d]at this;rw[show Kv f a b (mf a b)[i]=false from this];rfl
def aKh{b:aw}(h:hz a.y b.y<=hz a.x b.x):xD a b k=⟨a.x+k*rD (b.x-a.x),xl k (hz a.x b.x) a.y b.y⟩:=bap h
def aKi{b:aw}(h:¬hz a.y b.y<=hz a.x b.x):xD a b k=⟨xl k (hz a.y b.y) a.x b.x,a.y+k*rD (b.y-a.y)⟩:=ban h
theorem arX(k n a b:Int)(w:World)(D:0<=k/\k<=n/\n<=40)(E:0<=a/\a<=40/\0<=b/\b<=40):
  Calls prog 210 #[J k,J n,J a,J b] w (λ e w'=>e=.returned (J (xl k n a b))/\Ext w w'):=by
 refine bT (n:=69) func210 Z Z Z ?_;refine ar<|aG Z<|aC Z<|aG Z<|av<|aC Z<|vm Z<|κ (qh Z Z)<|aG Z<|bp<|?_;refine di (λ o m j=>∃ y:Int,∃ t:Int,m=[(0,J k),(1,J n),(2,J a),(3,J b),(8,J 0),(9,J t),(10,J y)]/\o=(max a b+1-y).toNat/\Ext w j/\(min a b<=y/\y<=max a b+1)/\(t=z7 k n a b (y-min a b).toNat)) _ _ ⟨min a b,a,Z,Z,(Ext.U w),GE,by rw[show(min a b-min a b).toNat=0 by omega];rfl⟩ (c' Z Z Z) ?_;rintro C A F ⟨y,t,rfl,rfl,i,g,d⟩;refine av<|aC Z<|vm Z<|vm Z<|κ (mx Z Z)<|κ (ble Z Z)<|ax<|?_;refine xp Z (λ v=>?_) (λ v=>?_)
 .have l:=Z3 k n a b (y-min a b).toNat GE;rw[<-d]at l;have H:=Ni (n:=n) (y:=y) GE GE GE GE;have K:=Ni (n:=n) (y:=a) GE GE GE GE;have L:=Ni (n:=n) (y:=t) GE GE GE GE;have M:=Ni (n:=k) (y:=(b-a)) GE GE GE GE;refine bf<|av<|bp<|aC Z<|vm Z<|κ (mD Z Z dK)<|vm Z<|vm Z<|κ (mD Z Z dK)<|vm Z<|vm Z<|vm Z<|κ (hi Z Z dK)<|κ (mD Z Z dK)<|fb Z Z<|cf GO Z (HL (n*y) ((n*a)+(k*(b-a))) _ GE) λ B z=>?_;have u:=Φ i z;refine vm Z<|vm Z<|κ (mD Z Z dK)<|vm Z<|vm Z<|κ (mD Z Z dK)<|vm Z<|vm Z<|vm Z<|κ (hi Z Z dK)<|κ (mD Z Z dK)<|fb Z Z<|cf GO Z (HL (n*t) ((n*a)+(k*(b-a))) _ GE) λ N p=>?_;have s:=Φ u p;refine va Z<|aG Z<|aC Z<|vm Z<|cF Z Z<|vm Z<|er Z Z<|er Z Z<|aR Z (λ c=>beq (gt c Z) (gt c Z))<|Bk Z (λ c=>(gt c Z))<|dV Z Z Z Z (λ c=>fW Z) Z<|dV Z Z Z Z (λ c=>fW Z) Z<|af7 Z Z Z Z GO (λ c=>b6 (gt c Z) (b6 (gt c Z) Z)) (λ c=>HL y b _ GE) Z λ O r=>?_;have x:=Φ s r;refine dV Z Z Z Z (λ c=>fW Z) Z<|dV Z Z Z Z (λ c=>fW Z) Z<|af7 Z Z Z Z GO (λ c=>b6 (gt c Z) (b6 (gt c Z) Z)) (λ c=>HL t b _ GE) Z λ G q=>?_;have h:=Φ x q;refine dV Z Z Z Z (λ c=>blt (gt c Z) (gt c Z)) Z<|aR Z (λ c=>E7 c (gt c Z) Z Z)<|κ (dS Z Z Z Z)<|ax<|?_;refine dB Z (λ f=>?_) (λ f=>?_)
  .refine rg<|vm Z<|va Z<|nl<|bK<|a7<|rg<|vm Z<|fb Z Z<|va Z<|nl<|?_;exact cM ⟨y+1,y,Z,Z,h,GE,by rw[aiu d g.1];exact(bap (by unfold TO;simpa using f)).symm⟩
  .refine dP<|bK<|a7<|rg<|vm Z<|fb Z Z<|va Z<|nl<|?_;exact cM ⟨y+1,t,Z,Z,h,GE,by rw[aiu d g.1];exact(ban (by unfold TO;simpa using f)).symm⟩
 .refine cI<|cH<|cU<|cG<|a7<|aC Z<|bc Z<|b3 Z Z<|?_;exact⟨by rw[d,show y=max a b+1 by omega];rfl,i⟩
theorem aN4(a b:aw)(w:World)(ha:tA a)(W:tA b):
  Calls prog 209 #[.agg #[J a.x,J a.y],.agg #[J b.x,J b.y]] w (λ e w'=>∃ A c,e=.returned (.slice A (mf a b).length c)/\aw.ce.aM 41 16 w' w.heap.size (τ.ai A) A c (mf a b)/\Ext w w'):=by
 obtain⟨dQ,a2,a3,a4⟩:=ha;obtain⟨hh,eZ,ig,yA⟩:=W;have fO:=UM (a:=a.x) (b:=b.x) (c:=40) GE;have au:=UM (a:=a.y) (b:=b.y) (c:=40) GE;refine bT (n:=80) func209 Z Z Z ?_;refine cZ Z Z λ ch V aV cY d=>?_;have gp:=d.lt;refine gz Z Z λ dr Y bh fl f=>?_;have bo:=Φ aV bh;have j8:=f.lt;refine aG Z<|av<|?_;refine c_ [(1,0),(3,0),(4,0),(6,0),(8,0),(9,0)] [0,1,2,3,4,5,6,7,8,9,10,11] ?_;refine aA Z (λ _=>aj fj Z)<|?_;have d:=d.O bh;refine cr Z Z d aH Z<|aA Z (λ _=>aj fj Z)<|cr Z Z f aH Z<|nQ Z Z GO Z (λ _ x=>HL a.x b.x _ GE) Z<|aA Z (λ _=>aj fk Z)<|cr Z Z d aH Z<|aA Z (λ _=>aj fk Z)<|cr Z Z f aH Z<|nQ Z Z GO Z (λ _ x=>HL a.y b.y _ GE) Z<|aA Z (λ _=>fh Z)<|aA Z (λ _=>fh Z)<|fn λ fx N=>?_;have:=N.size;have cj:=Φ bo N;refine a7<|ar<|?_;have d:=d.O N;refine κ (aq Z (d.all bS bq))<|cT (e:=41) (cs:=[J a.x,J a.y]) Z (λ _=>GT) Z λ nY U oz aP sT=>?_;have fF:=Φ cj oz;refine aG Z<|av<|ar<|aG Z<|bp<|?_;have DY:=aO.K (R:=aw.ce) (by_:=16) (B:=w.heap.size) (k:=[a]) sT [[J a.x,J a.y]] rfl (⟨⟨rfl,b7.2 GE,b7.2 GE⟩,trivial⟩) Kx Kx GP GE;have M5:∀ q∈τ.ai (bd U),U<=q:=λ q I=>bbz (bah.1 I).symm;have d:=d.O oz;have f:=f.O (Φ N oz);refine di (λ bJ bH M=>∃ k:Nat,∃ A:Option Addr,∃ c:Nat,∃ L:List aw,bH=[(2,.pointer (bd V)),(3,.pointer (bd Y)),(4,.slice none 0 0),(5,J (hz a.x b.x)),(6,J (hz a.y b.y)),(7,.slice A L.length c),(8,J (k:Int))]/\bJ=42-k/\Ext w M/\aO M V [J a.x,J a.y] 41 (0,0)/\aO M Y [J b.x,J b.y] 41 (0,0)/\aw.ce.aM 41 16 M w.heap.size (τ.ai A) A c (L)/\(1<=k/\(k:Int)<=max (hz a.x b.x) (hz a.y b.y)+1)/\(L=Ht a b k)/\(∀ q∈τ.ai A,q=V->False)/\(∀ q∈τ.ai A,q=Y->False)) _ _ ⟨1,some ⟨U,0,none⟩,1,[a],Z,Z,fF,d,f,DY,GE,rfl,(λ q I W=>by (have:=M5 q I;omega)),(λ q I W=>by (have:=M5 q I;omega))⟩ (c' Z Z Z) ?_;rintro za aS zq ⟨k,A,c,L,rfl,rfl,mr,d,f,h,m,j,O,H⟩;have aQ:=d.lt;have aN:=f.lt;have z:=b4 h.lt;refine av<|aC Z<|vm Z<|vm Z<|κ (mx Z Z)<|κ (ble Z Z)<|ax<|?_;refine xp Z (λ ae=>?_) (λ ae=>?_)
 .have mx:=Ni (n:=(k:Int)) (y:=b.x-a.x) GE GE GE GE;have aK:=Ni (n:=(k:Int)) (y:=b.y-a.y) GE GE GE GE;have hc:=ap8 (a:=a) (b:=b) (k:=k) GE GE;refine bf<|av<|bp<|ar<|κ (v:=.agg #[J 0,J 0]) (ee Z)<|cy pk Z λ xY aF l aL g=>?_;have n5:=Φ mr l;have ay:=g.lt;refine ck Z Z g Z bq Z Z λ H5 i g=>?_;have:=i.size;have rN:=Ext.H n5 i bn;refine ax<|av<|aC Z<|vm Z<|κ (iV Z Z)<|ax<|?_;refine xp Z (λ S=>?_) (λ S=>?_)
  .have e0:=aKh S (k:=(k:Int));have ex:(xD a b k).x=_:=bbh aw.x e0;have T:(xD a b k).y=_:=bbh aw.y e0;dsimp only at ex T;refine av<|?_;refine c_ [(1,0),(4,0),(6,0),(13,3)] [0,1,2,3,4,5,6,7,8,9,10,11,12,13] ?_;refine aA Z (λ _=>aj fj Z)<|?_;have d:=(d.O l).H i aJ;refine cr Z Z d aH Z<|bt Z Z<|aA Z (λ _=>aj fj Z)<|?_;have f:=(f.O l).H i aJ;refine cr Z Z f aH Z<|aA Z (λ _=>aj fj Z)<|cr Z Z d aH Z<|aA Z (λ _=>hi Z Z dK)<|aA Z (λ _=>mD Z Z dK)<|bt Z Z<|aA Z (λ _=>aal (r:=(k:Int)*rD (b.x-a.x)) Z Z GE (atf GE GE) dK)<|aA Z (λ _=>bad Z Z dK)<|aA Z (λ _=>aj fj Z)<|en Z Z Z λ xZ p Q hK=>ep Z Z (g.O p) Z cO Z Z λ Bq E g=>hK _ _ ?_;have:=p.size;have jX:=Φ rN p;have:=E.size;have mT:=Ext.H jX E bn;refine fn λ qq o=>?_;have:=o.size;have hQ:=Φ mT o;refine a7<|rg<|vm Z<|vm Z<|κ (aj fk Z)<|?_;have d:=((d.O p).H E aJ).O o;refine a1 Z d aH Z<|κ (aj fk Z)<|?_;have f:=((f.O p).H E aJ).O o;refine a1 Z f aH Z<|cf akK Z (arX (k:Int) (hz a.x b.x) a.y b.y _ GE GE) λ KJ s=>?_;have:=s.size;have vv:=Φ hQ s;refine κ (aj fk Z)<|?_;have g:=g.O (Φ o s);refine ep Z Z g Z cO Z Z λ C9 D g=>?_;have:=D.size;have mU:=Ext.H vv D bn;refine ax<|rg<|vm Z<|κ (aq Z (g.all bS bq))<|cT (e:=41) (cs:=[J (a.x+((k:Int)*rD (b.x-a.x))),J (xl (k:Int) (hz a.x b.x) a.y b.y)]) Z (λ _=>GT) Z λ X9 aE P aM aa=>?_;have yj:=Φ mU P;have az:=aa.lt;have h:=((((((h.O l).H i (bV z)).O p).H E (bV z)).O (Φ o s)).H D (bV z)).O P;refine ap ah5 τ.O h (aO.G (R:=aw.ce) (by_:=16) (q:=(⟨a.x+((k:Int)*rD (b.x-a.x)),xl (k:Int) (hz a.x b.x) a.y b.y⟩:aw)) aa ⟨Z,ea,ea⟩ GP) Z Z (by have:=Ra a b m.1;rw[<-j]at this;simp;omega) (by have:=Ra a b m.1;rw[<-j]at this;simp;omega) yj.size Z λ Fp ag ak oh ai ad am=>?_;have pS:=Ext.H yj oh (λ q I=>(h.lt q I).1);refine va Z<|nl<|bK<|a7<|rg<|vm Z<|fb Z Z<|va Z<|nl<|?_;have d:=(((d.O s).H D aJ).O P).H oh (λ I=>O _ I rfl);have f:=(((f.O s).H D aJ).O P).H oh (λ I=>H _ I rfl);exact cM ⟨k+1,ag,ak,L++ [(⟨a.x+((k:Int)*rD (b.x-a.x)),xl (k:Int) (hz a.x b.x) a.y b.y⟩:aw)],Z,Z,pS,d,f,ai,GE,by rw[ap9 a b m.1,e0,j],(eh ad O),(eh ad H)⟩
  .have e0:=aKi S (k:=(k:Int));have ex:(xD a b k).x=_:=bbh aw.x e0;have T:(xD a b k).y=_:=bbh aw.y e0;dsimp only at ex T;refine av<|?_;refine c_ [(1,0),(4,0),(6,0),(13,3)] [0,1,2,3,4,5,6,7,8,9,10,11,12,13] ?_;refine aA Z (λ _=>aj fk Z)<|?_;have d:=(d.O l).H i aJ;refine cr Z Z d aH Z<|bt Z Z<|aA Z (λ _=>aj fk Z)<|?_;have f:=(f.O l).H i aJ;refine cr Z Z f aH Z<|aA Z (λ _=>aj fk Z)<|cr Z Z d aH Z<|aA Z (λ _=>hi Z Z dK)<|aA Z (λ _=>mD Z Z dK)<|bt Z Z<|aA Z (λ _=>aal (r:=(k:Int)*rD (b.y-a.y)) Z Z GE (atf GE GE) dK)<|aA Z (λ _=>bad Z Z dK)<|aA Z (λ _=>aj fk Z)<|en Z Z Z λ NY u Q hK=>ep Z Z (g.O u) Z cO Z Z λ Sb F g=>hK _ _ ?_;have:=u.size;have tT:=Φ rN u;have:=F.size;have BD:=Ext.H tT F bn;refine fn λ Se t=>?_;have:=t.size;have BG:=Φ BD t;refine a7<|rg<|vm Z<|vm Z<|κ (aj fj Z)<|?_;have d:=((d.O u).H F aJ).O t;refine a1 Z d aH Z<|κ (aj fj Z)<|?_;have f:=((f.O u).H F aJ).O t;refine a1 Z f aH Z<|cf akK Z (arX (k:Int) (hz a.y b.y) a.x b.x _ GE GE) λ Ya C=>?_;have:=C.size;have FK:=Φ BG C;refine κ (aj fj Z)<|?_;have g:=g.O (Φ t C);refine ep Z Z g Z cO Z Z λ KL G g=>?_;have:=G.size;have oC:=Ext.H FK G bn;refine ax<|rg<|vm Z<|κ (aq Z (g.all bS bq))<|cT (e:=41) (cs:=[J (xl (k:Int) (hz a.y b.y) a.x b.x),J (a.y+((k:Int)*rD (b.y-a.y)))]) Z (λ _=>GT) Z λ aB aD K aI SK=>?_;have Yp:=Φ oC K;have ao:=SK.lt;have h:=((((((h.O l).H i (bV z)).O u).H F (bV z)).O (Φ t C)).H G (bV z)).O K;refine ap ah5 τ.O h (aO.G (R:=aw.ce) (by_:=16) (q:=(⟨xl (k:Int) (hz a.y b.y) a.x b.x,a.y+((k:Int)*rD (b.y-a.y))⟩:aw)) SK ⟨Z,ea,ea⟩ GP) Z Z (by have:=Ra a b m.1;rw[<-j]at this;simp;omega) (by have:=Ra a b m.1;rw[<-j]at this;simp;omega) Yp.size Z λ aR af al X ah ab an=>?_;have St:=Ext.H Yp X (λ q I=>(h.lt q I).1);refine va Z<|nl<|bK<|a7<|rg<|vm Z<|fb Z Z<|va Z<|nl<|?_;have d:=(((d.O C).H G aJ).O K).H X (λ I=>O _ I rfl);have f:=(((f.O C).H G aJ).O K).H X (λ I=>H _ I rfl);exact cM ⟨k+1,af,al,L++ [(⟨xl (k:Int) (hz a.y b.y) a.x b.x,a.y+((k:Int)*rD (b.y-a.y))⟩:aw)],Z,Z,St,d,f,ah,GE,by rw[ap9 a b m.1,e0,j],(eh ab O),(eh ab H)⟩
 .refine cI<|cH<|cU<|cG<|a7<|aC Z<|bc Z<|b3 Z Z<|?_;have nP:mf a b=L:=by rw[j];unfold mf;rw[show(max (hz a.x b.x) (hz a.y b.y)+1).toNat=k by omega]
  exact⟨A,c,by rw[nP];rfl,by rw[nP];exact h,mr⟩
theorem ar9(f:aE)(P:Option Addr)(B:Nat)(a b:aw)(w:World)(o:f.br=0)(cp:bN.aF 8 w P B f.G)(D:f.dF a=true)(A:f.dF b=true):
  Calls prog 204 #[.agg #[J f.O,J f.high,.slice P f.G.length B],.agg #[J a.x,J a.y],.agg #[J b.x,J b.y]] w (λ e w'=>e=.returned (.bool (Ke f a b))/\Ext w w'):=by
 have nS:(mf a b).length<=100:=by have:=aE.EL o D;have:=aE.EL o A;unfold tA at *;have fO:=UM (a:=a.x) (b:=b.x) (c:=40) GE;have ab:=UM (a:=a.y) (b:=b.y) (c:=40) GE;unfold mf;rw[Ra _ _ GE];omega
 refine bT (n:=35) func204 Z Z Z ?_;refine cZ Z Z λ ch F U cY g=>?_;have gp:=g.lt;refine gz Z Z λ dr K L fl d=>?_;have Y:=Φ U L;have j8:=d.lt;refine gz Z Z λ fx M C oM h=>?_;have cj:=Φ Y C;refine aG Z<|av<|ar<|?_;have d:=d.O C;refine κ (aq Z (d.all bS bq))<|κ (aq Z (h.all bS bq))<|ca aCM Z Z ((aN4 a b _ (aE.EL o D) (aE.EL o A)).mono ?_);rintro e ow ⟨z,H,rfl,m,y⟩;refine cR ?_;have fP:=Φ cj y;have HW:=b4 m.lt;refine κ (bY underlying25 Z)<|vm Z<|ax<|bp<|?_;have g:=g.O (Φ L (Φ C y));have d:=d.O y;have h:=h.O y;refine di (λ X W t=>∃ k:Nat,W=[(3,.pointer (bd F)),(4,.pointer (bd K)),(5,.pointer (bd M)),(12,.slice z ((mf a b).length) H),(13,J ((((mf a b).length:Nat):Int))),(14,J (k:Int))]/\X=(mf a b).length-k/\Ext w t/\aO t F [J f.O,J f.high,.slice P f.G.length B] 24 (0,0)/\aO t K [J a.x,J a.y] 41 (0,0)/\aO t M [J b.x,J b.y] 41 (0,0)/\aw.ce.aM 41 16 t fx.heap.size (τ.ai z) z H (mf a b)/\(k<=(mf a b).length)/\(∀ i,i<k->Kv f a b ((mf a b).getD i default)=false)) _ _ ⟨0,Z,Z,fP,g,d,h,m,GE,λ i V=>GE⟩ (c' Z Z Z) ?_;rintro oP ah vk ⟨k,rfl,rfl,N,g,d,h,m,au,G⟩;have aa:=g.lt;have ae:=d.lt;have ag:=h.lt;have T:=b4 m.lt;refine ar<|cF Z Z<|ax<|av<|?_;refine c7 Z (λ S=>?_) (λ S=>?_)
 .have hm:(mf a b).getD k default∈mf a b:=gZ GE;have R:=aKk o D A hm;have af:=aE.Kg o R;refine bf<|av<|bp<|ar<|κ (bD k underlying25 bq Z Z (m.bv.Y (aL k)) Z GE)<|κ (aq Z (τ.aF.G ng (m.bv.O (aL k)) (cg (l:=mf a b) (u:=default) GE) bS bq))<|cy pk Z λ wN ai v ad r=>?_;have jD:=Φ N v;refine ck Z Z r Z bq Z Z λ KG x r=>?_;have O:=Ext.H jD x bn;refine ax<|ar<|?_;have g:=(g.O v).H x aJ;refine κ (aq Z (g.all gA gB))<|κ (aq Z (r.all bS bq))<|cf L4 Z (Nw f _ _ ((mf a b).getD k default) _ o (cp.be O) R) λ KI s=>?_;have Q:=Φ O s;refine aG Z<|ar<|?_;have r:=r.O s;refine κ (aq Z (r.all bS bq))<|?_;have d:=((d.O v).H x aJ).O s;refine κ (aq Z (d.all bS bq))<|κ (Cb ah7 ah6 (p:=(mf a b).getD k default) (q:=a) Z Z)<|vm Z<|aR Z (λ j=>aq Z (r.all bS bq))<|?_;have h:=((h.O v).H x aJ).O s;refine aR Z (λ j=>aq Z (h.all bS bq))<|aR Z (λ j=>Cb ah7 ah6 (p:=(mf a b).getD k default) (q:=b) (gt j Z) (gt j Z))<|κ (cQ Z Z Z Z)<|vm Z<|er Z Z<|aR Z (λ j=>Cc (gt j Z) Z (by (try simp only[cb]at j);omega) (by (try simp only[cb]at j);omega))<|aR Z (λ j=>bne (gt j Z) Z)<|κ (cQ Z Z Z Z)<|ax<|?_;refine dB Z (λ E=>?_) (λ E=>?_)
  .refine ar<|bc Z<|dO<|bR<|k1<|dO<|bR<|b3 Z Z<|?_;exact⟨by rw[aLZ (k:=k) GE (by simpa[Kv]using E)];rfl,Q⟩
  .refine dP<|bK<|cW Z Z Z<|?_;have g:=g.O s;have m:=((m.O v).H x (bV T)).O s;exact cM ⟨k+1,Z,Z,Q,g,d,h,m,GE,pC G (by simpa[Kv]using E)⟩
 .refine cI<|cH<|cU<|cG<|a7<|ar<|bc Z<|b3 Z Z<|?_;exact⟨by rw[aL2 λ i V=>G i GE];rfl,N⟩
theorem aN5(f:aE)(P:Option Addr)(l:Nat)(a b:aw)(w:World)(s:f.br=0)(p:bN.aF 8 w P l f.G)(r:f.dF a=true)(k:f.dF b=true):
  Calls prog 198 #[.agg #[J f.O,J f.high,.slice P f.G.length l],.agg #[J a.x,J a.y],.agg #[J b.x,J b.y]] w (λ e w'=>e=.returned (.bool (aqi f a b))/\Ext w w'):=by
 refine bT (n:=17) func198 Z Z Z ?_;refine cZ Z Z λ B y t A g=>?_;refine gz Z Z λ C z m E d=>?_;have u:=Φ t m;refine gz Z Z λ F D j H h=>?_;have o:=Φ u j;refine aG Z<|ar<|?_;have g:=g.O (Φ m j);refine κ (aq Z (g.all gA gB))<|?_;have d:=d.O j;refine κ (aq Z (d.all bS bq))<|κ (aq Z (h.all bS bq))<|cf akM Z (ar9 f _ _ a b _ s (p.be o) r k) λ G i=>?_;have q:=Φ o i;refine vm Z<|?_;have g:=g.O i;refine aR Z (λ c=>aq Z (g.all gA gB))<|?_;have h:=h.O i;refine aR Z (λ c=>aq Z (h.all bS bq))<|?_;have d:=d.O i;refine aR Z (λ c=>aq Z (d.all bS bq))<|iD Z akM (λ c=>b6 (gt c Z) (b6 (gt c Z) (b6 (gt c Z) Z))) (λ c=>ar9 f _ _ b a _ s (p.be q) k r) λ K v=>?_;have x:=Φ q v;refine κ (dS Z Z Z Z)<|bc Z<|b3 Z Z<|?_;exact⟨Z,x⟩
end
section
variable{α:Type}
def axI:dU prog aw.ce 25 41 16:=dU.O (z:=aw.zero) (k:=2) underlying25 aw.G rfl rfl GP aw.M
section
variable{f:aE}{a b c n:aw}{F:List Int}{i j k:Nat}
def alr{p:α->Bool}{l:List α}{d:α}(a:k<l.length):(l.take (k+1)).filter p=(l.take k).filter p++if p (l.getD k d)then[l.getD k d]else[]:=by
 rw[baI a,bb8,baa,bac a];congr 1;show List.filter p [l[k]]=if p l[k]then[l[k]]else[]
 cases h:p l[k]<;>simp[h]
def aO6{d:aw}(a:d∈dG c):c.x-1<=d.x/\d.x<=c.x+1/\c.y-1<=d.y/\d.y<=c.y+1:=by
 rcases aE.WL.1 a with rfl|rfl|rfl|rfl<;>(dsimp only;omega)
def aO5:(nv f c).length<=4:=bay (bcf _ _) (bao 4)
def asG(a:j<(nv f c).length)(h:(nv f c).getD j default=n):n∈dG c/\f.dF n=true:=by
 have:=gZ (d:=default) a;rw[h]at this;exact bbT.1 this
def alE(d:f.br=0)(b:F.length=f.G.length)(a:f.dF c=true):F[(c.y*f.O+c.x).toNat]? =some (f.aD F c):=by
 rw[aE.yR a];exact cg (u:=-1) (show f.d9 c<F.length by rw[b];exact(aE.rV d a).1)
def abT(d:f.br=0)(e:F.length=f.G.length)(c:i<f.G.length):F[i]? =some (f.aD F (jo f i)):=by
 obtain⟨a,b⟩:=IW d c;rw[aE.yR a,b];exact cg GE
def aMy(c:f.br=0)(a:i<f.G.length):f.G[i]? =some (f.H (jo f i)):=by
 obtain⟨d,b⟩:=IW c a;have e:f.H (jo f i)=f.G.getD (f.d9 (jo f i)) 0:=rfl;rw[e,b];exact cg a
def aEn{n i:Nat}{a b:Int}(h:i<n):(List.replicate i a++List.replicate (n-i) b).set i a=List.replicate (i+1) a++List.replicate (n-(i+1)) b:=by
 rw[bdc _ _ Kx,baK,bdr,show n-i=(n-(i+1))+1 by omega,beb,bbJ,bfo,baO];rfl
def aIS{p:α->Bool}{l:List α}{x d:α}(f:x∈l)(b:p x=true):∃ k,k<l.length/\fK p l=(k:Int)/\p (l.getD k d)=true:=by
 rcases JJ p l with⟨_,h⟩|⟨k,a,c,e,_⟩
 .rw[h x f]at b;cases b
 .exact⟨k,a,c,by rw[baa,bac a];exact e⟩
def LN(f:aE)(F:List Int)(c n:aw):Bool:=decide (0<=f.aD F n) && ((f.aD F n)+(mM (f.H c))== f.aD F c)
def Du.O(h:Du f a F)(q:f.br=0)(o:0<=f.aD F c)(l:c≠a):2<=mM (f.H c)/\∃ k,k<(nv f c).length/\fK (LN f F c) (nv f c)=(k:Int)/\0<=f.aD F ((nv f c).getD k default)/\f.aD F ((nv f c).getD k default)+mM (f.H c)=f.aD F c:=by
 obtain⟨s,e,n,r,g,i⟩:=h.back q o l;obtain⟨k,m,j,b⟩:=aIS (p:=LN f F c) (d:=default) r (by unfold LN;simp[g,i]);unfold LN at b;simp only[bai,baF,ba9]at b;exact⟨e,k,m,j,b.1,b.2⟩
end
def aLg{F b:List Int}{a c:Bool}(f:c=true)(d:a=true->tI b<tI F)(e:a=false->b=F):2*tI b+(if a=true then 1 else 0)<2*tI F+(if c=true then 1 else 0):=by
 subst f;cases a with
 | true=>have:=d rfl;simp;omega
 | false=>rw[e rfl];simp
theorem arY(f:aE)(P:Option Addr)(N:Nat)(c:aw)(w:World)(E:f.br=0)(hc:f.dF c=true):
  Calls prog 177 #[.agg #[J f.O,J f.high,.slice P f.G.length N],.agg #[J c.x,J c.y]] w (λ e w'=>∃ A d,e=.returned (.slice A (nv f c).length d)/\aw.ce.aM 41 16 w' w.heap.size (τ.ai A) A d (nv f c)/\Ext w w'):=by
 obtain⟨g1,g2,g3,g4,g5,g6⟩:=aE.hB E;obtain⟨i1,i2,i3,i4,i5,i6⟩:=aE.idx E hc;refine bT (n:=47) func177 Z Z Z ?_;refine cZ Z Z λ ch C W cY a=>?_;have gp:=a.lt;refine gz Z Z λ dr b_ O fl g=>?_;have bo:=Φ W O;have j8:=g.lt;refine aG Z<|ar<|aG Z<|av<|ar<|κ (aj fj Z)<|a1 Z g aH Z<|κ (aj fk Z)<|a1 Z g aH Z<|κ (hi Z Z dK)<|κ (v:=.agg #[J c.x,J (c.y-1)]) (ee Z)<|κ (aj fj Z)<|a1 Z g aH Z<|κ (hi Z Z dK)<|κ (aj fk Z)<|a1 Z g aH Z<|κ (v:=.agg #[J (c.x-1),J c.y]) (ee Z)<|κ (aj fj Z)<|?_;refine a1 Z g aH Z<|fb Z Z<|κ (aj fk Z)<|a1 Z g aH Z<|κ (v:=.agg #[J (c.x+1),J c.y]) (ee Z)<|κ (aj fj Z)<|a1 Z g aH Z<|κ (aj fk Z)<|a1 Z g aH Z<|fb Z Z<|κ (v:=.agg #[J c.x,J (c.y+1)]) (ee Z)<|cT (e:=41) (cs:=[J c.x,J (c.y-1),J (c.x-1),J c.y,J (c.x+1),J c.y,J c.x,J (c.y+1)]) Z (λ _=>GT) Z λ fx o Q oM X=>?_;have cj:=Φ bo Q;refine κ (bY underlying25 Z)<|vm Z<|ax<|bp<|?_;have G:=aO.K (R:=aw.ce) (by_:=16) (B:=w.heap.size) (k:=[(⟨c.x,c.y-1⟩:aw),(⟨c.x-1,c.y⟩:aw),(⟨c.x+1,c.y⟩:aw),(⟨c.x,c.y+1⟩:aw)]) X [[J c.x,J (c.y-1)],[J (c.x-1),J c.y],[J (c.x+1),J c.y],[J c.x,J (c.y+1)]] rfl (⟨⟨rfl,ea,ea⟩,⟨⟨rfl,ea,ea⟩,⟨⟨rfl,ea,ea⟩,⟨⟨rfl,ea,ea⟩,trivial⟩⟩⟩⟩) Kx Kx GP GE;have HW:=b4 G.lt;have b:aw.ce.aM 41 16 fx w.heap.size (τ.ai (bd o)) (bd o) 4 (dG c):=G;have a:=a.O (Φ O Q);refine di (λ bJ bH s=>∃ k:Nat,∃ L:List aw,∃ A:Option Addr,∃ d:Nat,bH=[(2,.pointer (bd C)),(4,.slice none 0 0),(5,.slice A L.length d),(32,.slice (bd o) 4 4),(33,J (4:Int)),(34,J (k:Int))]/\bJ=4-k/\Ext w s/\aO s C [J f.O,J f.high,.slice P f.G.length N] 24 (0,0)/\aw.ce.aM 41 16 s w.heap.size (τ.ai (bd o)) (bd o) 4 (dG c)/\aw.ce.aM 41 16 s w.heap.size (τ.ai A) A d (L)/\(k<=4)/\(L=((dG c).take k).filter f.dF)/\(∀ q∈τ.ai A,q=C->False)/\(∀ q∈τ.ai A,q∈τ.ai (bd o)->False)) _ _ ⟨0,[],none,0,Z,Z,cj,a,b,(τ.aM.nil _),GE,rfl,(λ q I Y=>by (simp[τ.ai]at I)),(λ q I Y=>by (simp[τ.ai]at I))⟩ (c' Z Z Z) ?_;rintro ag af Bn ⟨k,L,A,d,rfl,rfl,S,a,b,h,au,t,y,z⟩;have ai:=a.lt;have D:=b4 b.lt;have M:=b4 h.lt;have ah:L.length<=4:=by rw[t];have Jf:=bcf f.dF ((dG c).take k);have rq:=bdp k (dG c);omega
 refine ar<|cF Z Z<|ax<|av<|?_;refine c7 Z (λ p7=>?_) (λ p7=>?_)
 .have JE:=aO6 (gZ (d:=default) (show k<(dG c).length from by show k<4;omega));refine bf<|av<|bp<|ar<|κ (bD k underlying25 bq Z Z (b.bv.Y (aL k (by show k<4;omega))) Z (by show k<4;omega))<|κ (aq Z (τ.aF.G ng (b.bv.O (aL k (by show k<4;omega))) (cg (l:=dG c) (u:=default) (by show k<4;omega)) bS bq))<|cy pk Z λ H3 TV p ae j=>?_;have mS:=Φ S p;have ak:=j.lt;refine ck Z Z j Z bq Z Z λ H4 m j=>?_;have:=m.size;have qw:=Ext.H mS m bn;refine ax<|ar<|?_;have a:=(a.O p).H m aJ;refine κ (aq Z (a.all gA gB))<|κ (aq Z (j.all bS bq))<|cf L2 Z (Nu f _ _ ((dG c).getD k default) _ E) λ KH i=>?_;have:=i.size;have T:=Φ qw i;refine ax<|?_;refine dB Z (λ x=>?_) (λ x=>?_)
  .refine rg<|vm Z<|?_;have j:=j.O i;refine κ (aq Z (j.all bS bq))<|cT (e:=41) (cs:=[J (((dG c).getD k default).x),J (((dG c).getD k default).y)]) Z (λ _=>GT) Z λ xZ vL r Q_ U=>?_;have:=r.size;have jX:=Φ T r;have Kj:=U.lt;have h:=((h.O p).H m (bV M)).O (Φ i r);refine ap axI τ.O h (aO.G (R:=aw.ce) (by_:=16) (q:=(dG c).getD k default) U ⟨Z,ea,ea⟩ GP) Z Z (by simp;omega) (by simp;omega) GE Z λ qq aa ab F V H ad=>?_;have hQ:=Ext.H jX F (λ q I=>bay GE (h.lt q I).1);refine va Z<|nl<|bK<|cW Z Z Z<|?_;have a:=(a.O (Φ i r)).H F (λ I=>y _ I rfl);have b:=(((b.O p).H m (bV D)).O (Φ i r)).H F (fa z);exact cM ⟨k+1,L++ [(dG c).getD k default],aa,ab,Z,Z,hQ,a,b,V,GE,by rw[alr (d:=default) (show k<(dG c).length from by show k<4;omega),bap x,<-t],(eh H y),(oq H z D)⟩
  .refine dP<|bK<|cW Z Z Z<|?_;have a:=a.O i;have b:=((b.O p).H m (bV D)).O i;have h:=((h.O p).H m (bV M)).O i;exact cM ⟨k+1,L,A,d,Z,Z,T,a,b,h,GE,by rw[alr (d:=default) (show k<(dG c).length from by show k<4;omega),ban (by simpa using x),<-t];simp,y,z⟩
 .refine cI<|cH<|cU<|cG<|a7<|aC Z<|bc Z<|b3 Z Z<|?_;have K:nv f c=L:=by rw[t,show k=4 by omega];rfl
  exact⟨A,d,by rw[K];rfl,by rw[K];exact h,S⟩
theorem aNV(f:aE)(P:Option Addr)(E:Nat)(a:aw)(A:Option Addr)(c:Nat)(w:World)(g:f.br=0)(cp:bN.aF 8 w P E f.G)(az:aw.ce.aF 16 w A c [a])(ha:f.dF a=true)(aW:f.H a≠1):
  Calls prog 175 #[.agg #[J f.O,J f.high,.slice P f.G.length E],.slice A 1 c] w (λ e w'=>∃ b' cn F,e=.returned (.tuple #[.slice b' F.length cn,J 0])/\bN.aM 3 8 w' w.heap.size (τ.ai b') b' cn F/\Du f a F/\Ext w w'):=by
 obtain⟨g1,g2,g3,g4,g5,g6⟩:=aE.hB g;have AG:=aE.M g;obtain⟨dQ,a2,a3,a4,a5,Gj⟩:=aE.idx g ha;have O1:a.y*f.O<=40*40:=bbP GE GE GE GE;have TK:0<=a.y*f.O:=bca GE GE;refine bT (n:=134) func175 Z Z Z ?_;refine cZ Z Z λ ch o aV cY b=>?_;have gp:=b.lt;refine va Z<|aG Z<|av<|ar<|κ (aq Z (b.all gA gB))<|cf abm Z (afq f _ _ _ g (cp.be aV)) λ dr c0=>?_;have:=c0.size;have bo:=Φ aV c0;refine aG Z<|aC Z<|cV Z Z<|ax<|ef Z<|bf<|av<|aC Z<|κ (bY underlying25 Z)<|κ (gy Z Z)<|ax<|ef Z<|bf<|av<|?_;refine rg<|κ (aj qK Z)<|?_;have b:=b.O c0;refine a1 Z b et Z<|κ (bY underlying22 Z)<|JY (R:=bN) (by_:=8) (B:=w.heap.size) (c:=f.G.length) (zv:=(J 0)) (q:=0) τ.nc underlying22 y5 Z Z (λ j u h=>CZ j u h) (λ _=>⟨Z,b7.2 GP⟩) Z Z Z GE GE GE λ sM k eW M0 Tp=>?_;have jk:=Φ bo eW;have Wp:∀ q∈τ.ai (bd k),k<=q:=λ q I=>bbz (bah.1 I).symm;refine aG Z<|av<|aC Z<|κ (bY underlying22 Z)<|vm Z<|ax<|bp<|?_;have b:=b.O eW;refine di (λ L K m=>∃ i:Nat,∃ D:List Int,K=[(1,.slice A 1 c),(2,.pointer (bd o)),(4,.slice none 0 0),(5,J 0),(7,.slice (bd k) f.G.length f.G.length),(30,J (f.G.length:Int)),(31,J (i:Int))]/\L=f.G.length-i/\Ext w m/\aO m o [J f.O,J f.high,.slice P f.G.length E] 24 (0,0)/\bN.aM 3 8 m w.heap.size (τ.ai (bd k)) (bd k) f.G.length (D)/\(i<=f.G.length)/\(D=List.replicate i (-1)++List.replicate (f.G.length-i) 0)/\(∀ q∈τ.ai (bd k),q=o->False)) _ _ ⟨0,List.replicate f.G.length 0,Z,Z,jk,b,Tp,GE,Kx,(λ q I ae=>by (have:=Wp q I;omega))⟩ (c' Z Z Z) ?_;rintro xJ aU wL ⟨i,D,rfl,rfl,jW,b,C,ao,oL,X⟩;have aQ:=b.lt;have tM:=b4 C.lt;have ab:D.length=f.G.length:=by rw[oL,bam,baK,baK];omega
 refine ar<|cF Z Z<|ax<|av<|?_;refine c7 Z (λ uz=>?_) (λ uz=>?_)
 .refine bf<|av<|bp<|aC Z<|aG Z<|rg<|vm Z<|vm Z<|κ (bD i underlying22 cO Z Z (C.bv.Y (aL i)) Z GE)<|so (q':=-1) (j:=0) (i:=i) C τ.O (cg (l:=D) (u:=0) GE) Z Z Z Z (λ _ cs h=>by have mK:=(show _/\_ from h).2;obtain rfl:=ew h;exact⟨rfl,b7.2 GE⟩) Z Z cO λ Bn ad Tw=>?_;have lN:=Ext.H jW ad (λ q I=>bay GE (C.lt q I).1);refine nl<|bK<|cW Z Z Z<|?_;have b:=b.H ad (λ I=>X _ I rfl);exact cM ⟨i+1,(D).set i (-1),Z,Z,lN,b,Tw,GE,by rw[oL];exact aEn GE,X⟩
 .have ak:D=List.replicate f.G.length (-1):=by rw[oL,show i=f.G.length by omega,bdr];simp
  refine cI<|cH<|cU<|cG<|a7<|av<|aC Z<|κ (bY underlying25 Z)<|vm Z<|ax<|bp<|EU 2<|kC<|ar<|cF Z Z<|ax<|av<|fB Z<|dP<|?_;refine a7<|av<|bp<|ar<|κ (bD 0 underlying25 bq Z Z ((az.be jW).Y (aL 0 Kx)) Z Kx)<|κ (aq Z (τ.aF.G ng ((az.be jW).O (aL 0 Kx)) Z bS bq))<|cy pk Z λ xX Ab ks aS z=>?_;have lu:=Φ jW ks;refine ck Z Z z Z bq Z Z λ sN lG z=>?_;have ku:=Ext.H lu lG bn;refine ax<|av<|ar<|?_;have b:=(b.O ks).H lG aJ;refine κ (aq Z (b.all gA gB))<|κ (aq Z (z.all bS bq))<|cf L2 Z (Nu f _ _ a _ g) λ rJ ek=>?_;have gU:=Φ ku ek;refine κ (dj Z)<|ax<|?_;have Jj:(!(f.dF a))=false:=by rw[ha];rfl
  refine ef (by rw[<-Jj];rfl)<|bf<|av<|ar<|?_;have b:=b.O ek;refine κ (aq Z (b.all gA gB))<|?_;have z:=z.O ek;refine κ (aq Z (z.all bS bq))<|cf L4 Z (Nw f _ _ a _ g (cp.be gU) ha) λ zr ff=>?_;have nB:=Φ gU ff;refine κ (beq Z Z)<|ax<|?_;have xz:((f.H a)== 1)=false:=by simpa using aW
  refine ef (by rw[<-xz];rfl)<|bf<|rg<|vm Z<|κ (aj fk Z)<|?_;have z:=z.O ff;refine a1 Z z aH Z<|κ (aj s8 Z)<|?_;have b:=b.O ff;refine a1 Z b aH Z<|κ (mD Z Z dK)<|κ (aj fj Z)<|a1 Z z aH Z<|fb Z Z<|?_;have C:=((C.O ks).H lG (bV tM)).O (Φ ek ff);refine κ (bD (((a.y*f.O)+a.x).toNat) underlying22 cO Z Z (C.bv.Y (aL (((a.y*f.O)+a.x).toNat) (by have bu:=ab;omega))) GE (by have bu:=ab;omega))<|so (q':=0) (j:=0) (i:=(((a.y*f.O)+a.x).toNat)) C τ.O (cg (l:=D) (u:=0) (by have bu:=ab;omega)) Z Z Z Z (λ _ cs h=>by have mK:=(show _/\_ from h).2;obtain rfl:=ew h;exact⟨rfl,b7.2 GE⟩) Z Z cO λ H6 j5 au=>?_;have sR:=Ext.H nB j5 (λ q I=>bay GE (C.lt q I).1);refine nl<|bK<|a7<|rg<|κ (oa (r:=1) Z Z GP GP)<|vm Z<|nl<|om<|kC<|ar<|cF Z Z<|ax<|av<|ef Z<|cI<|cH<|cU<|cG<|a7<|av<|ar<|?_;refine aG Z<|bp<|?_;have b:=b.H j5 (λ I=>X _ I rfl);refine di (λ L K m=>∃ F:List Int,∃ G:Bool,K=[(2,.pointer (bd o)),(4,.slice none 0 0),(5,J 0),(7,.slice (bd k) f.G.length f.G.length),(11,.bool G)]/\L=2*tI F+(if G=true then 1 else 0)/\Ext w m/\aO m o [J f.O,J f.high,.slice P f.G.length E] 24 (0,0)/\bN.aM 3 8 m w.heap.size (τ.ai (bd k)) (bd k) f.G.length (F)/\(vB f a F)/\(G=false->Du f a F)/\(∀ q∈τ.ai (bd k),q=o->False)) _ _ ⟨(D).set (((a.y*f.O)+a.x).toNat) 0,true,rfl,rfl,sR,b,au,(by rw[ak];exact vB.start g ha),(λ e=>nomatch e),X⟩ (qW rfl) ?_;rintro mh aY qq ⟨F,G,rfl,rfl,hQ,b,lx,ag,am,oH⟩;refine av<|aC Z<|ax<|?_;refine dB Z (λ aa=>?_) (λ aa=>?_)
  .have xB:G=true:=aa;refine bf<|bp<|ar<|aG Z<|aC Z<|κ (bY underlying22 Z)<|vm Z<|ax<|bp<|?_;refine di (λ L K m=>∃ i:Nat,∃ W:List Int,∃ O:Bool,K=[(2,.pointer (bd o)),(4,.slice none 0 0),(5,J 0),(7,.slice (bd k) f.G.length f.G.length),(11,.bool O),(63,.bool G),(64,.slice (bd k) f.G.length f.G.length),(65,J (f.G.length:Int)),(66,J (i:Int))]/\L=f.G.length-i/\Ext w m/\aO m o [J f.O,J f.high,.slice P f.G.length E] 24 (0,0)/\bN.aM 3 8 m w.heap.size (τ.ai (bd k)) (bd k) f.G.length (W)/\(i<=f.G.length)/\(s0 f a F W O i 0)/\(∀ q∈τ.ai (bd k),q=o->False)) _ _ ⟨0,F,false,Z,Z,hQ,b,lx,GE,s0.start ag,oH⟩ (c' Z Z Z) ?_;rintro kE aZ Fm ⟨i,W,O,rfl,rfl,nC,b,S,ao,M,af⟩;have R0:=b4 S.lt;refine ar<|cF Z Z<|ax<|av<|?_;refine c7 Z (λ Qb=>?_) (λ Qb=>?_)
   .obtain⟨qO,EC⟩:=IW g (show i<f.G.length by omega);have Qu:=Xo (aE.Kg g qO);refine bf<|av<|bp<|aC Z<|aG Z<|ar<|κ (aj qK Z)<|a1 Z b et Z<|vm Z<|κ (bD i underlying22 cO Z Z ((cp.be nC).Y (aL i)) Z GE)<|κ (aq Z (τ.aF.H ew ((cp.be nC).O (aL i)) (aMy g GE) Z aH))<|cf akO Z (ar0 ((f.H (jo f i))) _ (aE.Kg g (IW g GE).1)) λ R9 Y=>?_;have:=Y.size;have BA:=Φ nC Y;refine aG Z<|av<|?_;refine c_ [(0,0),(3,0),(7,0),(10,2)] [0,1,2,3,4,5,6,7,8,9,12,10,11] ?_;have b:=b.O Y;refine dE Z (λ _ x=>aq Z ((b.O x).all gA gB))<|bt Z Z<|aA Z (λ _=>aj s8 Z)<|cr Z Z b aH Z<|aA Z (λ _=>Cc Z Z GE GE)<|bt Z Z<|aA Z (λ _=>aj s8 Z)<|cr Z Z b aH Z<|aA Z (λ _=>aak Z Z GE GE (afi GE GE GE))<|p5 (v:=.agg #[J ((i:Int) % f.O),J ((i:Int) / f.O)]) Z Z (λ _=>kg Z GT) Z<|bt Z Z<|fO Z Z Z λ Fq U Q hK=>ca akR Z Z ((arY f _ _ (jo f i) _ g (IW g GE).1).mono ?_);rintro e C_ ⟨TF,ah,rfl,p,kM⟩;refine⟨_,Z,hK _ _ ⟨Φ U kM,?_⟩⟩;have:=U.size;have yl:=Φ BA U;have pT:=Φ yl kM;have KB:=b4 p.lt;have AU:=dZ p.lt;refine aA Z (λ _=>bY underlying25 Z)<|fn λ Sa mo=>?_;have BC:=Φ pT mo;refine a7<|bp<|?_;have S:=S.O (Φ Y (Φ U (Φ kM mo)));have b:=b.O (Φ U (Φ kM mo));have p:=p.O mo;refine di (λ L K m=>∃ j:Nat,∃ H:List Int,∃ N:Bool,K=[(2,.pointer (bd o)),(4,.slice none 0 0),(5,J 0),(7,.slice (bd k) f.G.length f.G.length),(11,.bool N),(12,J (i:Int)),(13,J (mM ((f.H (jo f i))))),(63,.bool G),(64,.slice (bd k) f.G.length f.G.length),(65,J (f.G.length:Int)),(66,J (i:Int)),(67,.bool (decide ((i:Int)<(f.G.length:Int)))),(68,J (i:Int)),(69,.pointer (some ⟨o,2,none⟩)),(70,.slice P f.G.length E),(71,J (i:Int)),(72,.pointer (some ⟨fv P,j7 P+i*1,none⟩)),(73,J ((f.H (jo f i)))),(74,J (mM ((f.H (jo f i))))),(75,.agg #[J f.O,J f.high,.slice P f.G.length E]),(76,J (i:Int)),(77,.pointer (bd o)),(78,J f.O),(79,J ((i:Int) % f.O)),(80,J (i:Int)),(81,.pointer (bd o)),(82,J f.O),(83,J ((i:Int) / f.O)),(84,.agg #[J ((i:Int) % f.O),J ((i:Int) / f.O)]),(85,.slice TF ((nv f (jo f i)).length) ah),(86,J ((((nv f (jo f i)).length:Nat):Int))),(87,J (j:Int))]/\L=(nv f (jo f i)).length-j/\Ext w m/\aO m o [J f.O,J f.high,.slice P f.G.length E] 24 (0,0)/\aw.ce.aM 41 16 m Fq.heap.size (τ.ai TF) TF ah (nv f (jo f i))/\bN.aM 3 8 m w.heap.size (τ.ai (bd k)) (bd k) f.G.length (H)/\(j<=(nv f (jo f i)).length)/\(s0 f a F H N i j)/\(∀ q∈τ.ai (bd k),q=o->False)/\(∀ q∈τ.ai (bd k),q∈τ.ai TF->False)) _ _ ⟨0,W,O,Z,Z,BC,b,p,S,GE,M,af,(λ q I ae=>by (have:=AU q ae;(have:=R0 q I;omega)))⟩ (c' Z Z Z) ?_;rintro aN aI aT ⟨j,H,N,rfl,rfl,FI,b,p,t,aB,y,GJ,Pr⟩;have aF:=b.lt;have ai:=b4 p.lt;have an:=b4 t.lt;refine ar<|cF Z Z<|ax<|av<|?_;refine c7 Z (λ al=>?_) (λ al=>?_)
    .obtain⟨s,jt⟩:∃ s,(nv f (jo f i)).getD j default=s:=⟨_,rfl⟩;have uL:=aO5 (f:=f) (c:=jo f i);obtain⟨ap,l2⟩:=asG (show j<(nv f (jo f i)).length by omega) jt;obtain⟨HE,tG,qi,tH,aK,n6⟩:=aE.idx g l2;have EB:=y.oK.kg g s;have aP:=y.oK.kg g (jo f i);have VH:=y.oK.low l2;have ay:=y.oK.low qO;have ni:=y.oK.len;have aM:s.y*f.O<=40*40:=bbP GE GE GE GE;have n8:0<=s.y*f.O:=bca GE GE;refine bf<|av<|bp<|ar<|κ (bD j underlying25 bq Z Z (p.bv.Y (aL j)) Z GE)<|κ (aq Z (τ.aF.G ng (p.bv.O (aL j)) (show(nv f (jo f i))[j]? =some s by rw[<-jt];exact cg GE) bS bq))<|cy pk Z λ Yb TX T aD Lc=>?_;have FL:=Φ FI T;refine ck Z Z Lc Z bq Z Z λ aX V Lc=>?_;have Ig:=Ext.H FL V bn;refine ax<|aC Z<|κ (aj fk Z)<|a1 Z Lc aH Z<|κ (aj s8 Z)<|?_;have b:=(b.O T).H V aJ;refine a1 Z b aH Z<|κ (mD Z Z dK)<|κ (aj fj Z)<|a1 Z Lc aH Z<|fb Z Z<|?_;have t:=(t.O T).H V (bV an);have Ew:=y.oK.len;refine κ (bD (((s.y*f.O)+s.x).toNat) underlying22 cO Z Z (t.bv.Y (aL (((s.y*f.O)+s.x).toNat) GE)) GE GE)<|κ (aq Z (τ.aF.H ew (t.bv.O (aL (((s.y*f.O)+s.x).toNat) GE)) (alE g y.oK.len l2) Z aH))<|aG Z<|aC Z<|κ (gy Z Z)<|vm Z<|er Z Z<|aR Z (λ d=>iV (gt d Z) Z)<|κ (cQ Z Z Z Z)<|vm Z<|er Z Z<|er Z Z<|aR Z (λ d=>bD i underlying22 cO (gt d Z) (gt d Z) (t.bv.Y (aL i GE)) Z GE)<|aR Z (λ d=>aq (gt d Z) (τ.aF.H ew (t.bv.O (aL i GE)) (abT g y.oK.len GE) Z aH))<|aR Z (λ d=>blt (gt d Z) Z)<|Bk Z (λ d=>(gt d Z))<|dV Z Z Z Z (λ d=>fW Z) Z<|dV Z Z Z Z (λ d=>fW Z) Z<|dV Z Z Z Z (λ d=>bad (gt d Z) (gt d Z) dK) Z<|dV Z Z Z Z (λ d=>fW Z) Z<|?_;refine dV Z Z Z Z (λ d=>fW Z) Z<|dV Z Z Z Z (λ d=>bD i underlying22 cO (gt d Z) (gt d Z) (t.bv.Y (aL i GE)) Z GE) Z<|dV Z Z Z Z (λ d=>aq (gt d Z) (τ.aF.H ew (t.bv.O (aL i GE)) (abT g y.oK.len GE) Z aH)) Z<|dV Z Z Z Z (λ d=>blt (gt d Z) (gt d Z)) Z<|aR Z (λ d=>Rw d (gt d Z) Z Z)<|κ (cQ Z Z Z Z)<|ax<|?_;refine dB Z (λ P5=>?_) (λ P5=>?_)
     .simp only[cb]at P5;refine rg<|vm Z<|vm Z<|vm Z<|vm Z<|fb Z Z<|κ (bD i underlying22 cO Z Z (t.bv.Y (aL i GE)) Z GE)<|so (q':=(f.aD H s)+(mM ((f.H (jo f i))))) (j:=0) (i:=i) t τ.O (abT g y.oK.len GE) Z Z Z Z (λ _ cs h=>by have mK:=(show _/\_ from h).2;obtain rfl:=ew h;exact⟨rfl,b7.2 GE⟩) Z Z cO λ Fk og B6=>?_;have Df:=Ext.H Ig og (λ q I=>bay GE (t.lt q I).1);refine va Z<|nl<|bK<|cW Z Z Z<|?_;have b:=b.H og (λ I=>GJ _ I rfl);have p:=((p.O T).H V (bV ai)).H og (fa Pr);exact cM ⟨j+1,(H).set i ((f.aD H s)+(mM ((f.H (jo f i))))),true,Z,Z,Df,b,p,B6,GE,y.aPW g GE ap GE GE GE,GJ,Pr⟩
     .simp only[cb]at P5;refine dP<|bK<|cW Z Z Z<|?_;have p:=(p.O T).H V (bV ai);exact cM ⟨j+1,H,N,Z,Z,Ig,b,p,t,GE,y.skip GE (by rw[jt];intro Jf rq;omega),GJ,Pr⟩
    .refine cI<|cH<|cU<|cG<|bK<|cW Z Z Z<|?_;exact cM ⟨i+1,H,N,Z,Z,FI,b,t,GE,y.next g GE GE,GJ⟩
   .refine cI<|cH<|cU<|cG<|bK<|?_;exact oR _ _ ⟨W,O,Z,Z,nC,b,S,M.oK,λ e=>by subst e;exact M.fin GE g,af⟩ (aLg xB M.up (λ e=>(M.no e).1)) (qW Z)
  .have xB:G=false:=aa;refine cI<|cH<|cU<|cG<|a7<|aC Z<|va Z<|bc Z<|hE Z Z Z<|?_;exact⟨some ⟨k,0,none⟩,f.G.length,F,by rw[ag.len];rfl,lx,am xB,hQ⟩
end
section
inductive eC where
 | last (i:Nat) (cd:List Nat)
 | two (i:Nat) (cd:List Nat) (t1 t2:eC)
def eC.hd:eC->Nat
 | .last i _=>i
 | .two i _ _ _=>i
section
variable{P:Program}{n:Nat}{E:List (Nat×Value)}{w:World}{Q:Exit->Act->World->Prop}{ops:Array Oper}{a_:Nat->Nat}
def KM(P:Program)(c:Array Oper)(Q:Exit->Act->World->Prop)(b:Nat->Nat):eC->Act->World->Prop
 | .last i d=>x_ P c (i_ (Q .normal)) b (i::d)
 | .two i d e f=>x_ P c (i_ (λ a w=>KM P c Q b e a w/\KM P c Q b f a w)) b (i::d)
def atm(b:Array Oper)(a:Nat->Nat):eC->Array Bool->Nat->Bool
 | .last i cd,l,m=>Nat.blt 1 (a i) && l1 b a cd (l.setIfInBounds i true) && Nat.beq (cd.length+1) m
 | .two i cd t1 t2,l,m=>Nat.blt 1 (a i) && I' b a cd (l.setIfInBounds i true) && (Region.ready .any b (C0 cd (l.setIfInBounds i true))== [t1.hd,t2.hd]) && Nat.ble (cd.length+2) m && atm b a t1 (C0 cd (l.setIfInBounds i true)) (m-1-cd.length) && atm b a t2 (C0 cd (l.setIfInBounds i true)) (m-1-cd.length)
def aS6(P:Program)(c:Array Oper)(Q:Exit->Act->World->Prop)(b:Nat->Nat)(d e:eC):Exit->Act->World->Prop:=i_ (λ a w=>KM P c Q b d a w/\KM P c Q b e a w)
end
end
section
section
variable{P:Program}{n:Nat}{E:List (Nat×Value)}{w w':World}{Q:Exit->Act->World->Prop}{ops:Array Oper}{v:Value}{d:Option Nat}{ty:TypeId}{pos:String}{af:Array Edge}{x:Operand}{rest:List Oper}{Ph:List PanicEntry}
def aUB(n:Nat)(Q:Exit->Act->World->Prop)(b:List PanicEntry)(E:List (Nat×Value))(w:World):Prop:=∀ a,fz n E a->Q (.panic b) a w
def aUm(cs:List Value)(k:Nat)(e:TypeId)(v:Value)(f:List Nat)(w:World):Prop:=∃ b,v=.slice (some ⟨b,0,none⟩) k k/\f=[b]/\aO w b cs e (0,0)
end
end
section
section
variable{P:Program}{n:Nat}{E:List (Nat×Value)}{w:World}{Q:Exit->Act->World->Prop}{ops:Array Oper}{a_:Nat->Nat}
def aS7(P:Program)(c:Array Oper)(Q:Exit->Act->World->Prop)(b:Nat->Nat)(d e f:eC):Exit->Act->World->Prop:=i_ (λ a w=>KM P c Q b d a w/\KM P c Q b e a w/\KM P c Q b f a w)
def ahT(n:Nat)(c:List (Nat×Value)->World->Prop):Act->World->Prop:=λ a w=>∃ b,c b w/\fz n b a
def aPj{x y:Code}(b:List (Nat×Value)->World->Prop)(c:W P n x (Exit.then (ahT n b) Q) E w)(d:∀ E w,b E w->W P n y Q E w):W P n (.seq x y) Q E w:=λ a i=>wp_seq (bft (c a i) λ e a w h=>by
 cases e with
 | normal=>obtain⟨f,j,g⟩:=h;exact d f w j a g
 | _=>exact h)
def aqM{c:List (Nat×Value)->World->Prop}(b:List (Nat×Value))(h:c b w)(e:Sub b E):N n (Exit.then (ahT n c) Q) E w:=λ a d=>⟨b,h,d.sub e⟩
def aAs(a:Array Oper)(c:Nat):List Nat->Array Bool->Bool
 | [],l=>Region.ready .any a l == [c]
 | i::r,l=>(Region.ready .any a l == [i,c]) && aAs a c r (l.setIfInBounds i true)
def RC(P:Program)(n:Nat)(b:Array Oper)(xs:List Operand)(args:List Value):List Nat->List (Nat×Value)->World->Prop
 | [],E,w0=>hV E xs=some args
 | i::r,E,w0=>hV E xs=some args/\∃ d a ty pos af v,b[i]? =some ⟨some d,a,ty,pos,af,none⟩/\Nat.blt d n=true/\(∀ w,Ext w0 w->dc P E ⟨some d,a,ty,pos,af,none⟩ w v w)/\RC P n b xs args r ((d,v)::E) w0
section
variable{f:FuncId}{xs:Array Operand}{ts:Array TypeId}{args:List Value}{Ph:List PanicEntry}{R:World->Prop}{c:Nat}{d:Option Nat}{ty:TypeId}{pos:String}{af:Array Edge}
end
end
end
structure cN where
 cell:aw
 far:Int
 all:Int
 deriving DecidableEq,Inhabited
namespace cN
def cells(a:cN):List Value:=[.int .i64 (a.cell.x),.int .i64 (a.cell.y),.int .i64 (a.far),.int .i64 (a.all)]
def ok(a:cN):Prop:=(Lit.int .i64 a.cell.x).wf=true/\(Lit.int .i64 a.cell.y).wf=true/\(Lit.int .i64 a.far).wf=true/\(Lit.int .i64 a.all).wf=true
def raw(j:Nat)(u:Value):Prop:=match j with
 | 0|1|2|3=>∃ n:Int,u=.int .i64 n
 | _=>True
def ui(a:cN):∀(j:Nat) u,a.cells[j]? =some u->raw j u:=by
 intro j u b
 match j,b with
 | 0,b|1,b|2,b|3,b=>exact⟨_,(bae b).symm⟩
 | j+4,b=>exact trivial
def cells_one(a:cN):∀ u∈a.cells,u.oneCell'=true:=by
 intro u b;unfold cells at b;simp only[baB,bbM,bcH]at b;rcases b with rfl|rfl|rfl|rfl<;>rfl
def ce:τ cN:=τ.flat 4 cells ok raw (λ _=>rfl) cells_one ui
def zero:Value:=.agg #[.int .i64 0,.int .i64 0,.int .i64 0,.int .i64 0]
def M:∀(j:Nat) u,zero.cells[j]? =some u->ce.raw j u:=by
 intro j u a;have a:(#[(.int .i64 0:Value),(.int .i64 0:Value),(.int .i64 0:Value),(.int .i64 0:Value)]:Array Value)[j]? =some u:=a
 match j,a with
 | 0,a|1,a|2,a|3,a=>exact⟨_,(bae a).symm⟩
 | j+4,a=>cases a
def G:(prog.info? 291).map (λ i=>(i.zero,i.size,i.bytes))=some (some zero,4,32):=GT
theorem d9{by_:Nat}{w:World}{A:Option Addr}{c:Nat}{l:List cN}(h:ce.aF by_ w A c l)(f:0<l.length):
  ∃ b o,A=some ⟨b,o,none⟩/\∀(i:Nat) (a:cN),l[i]? =some a->w.cell? ⟨b,o+i*4,none⟩=some (.int .i64 (a.cell.x))/\w.cell? ⟨b,o+i*4+1,none⟩=some (.int .i64 (a.cell.y))/\w.cell? ⟨b,o+i*4+2,none⟩=some (.int .i64 (a.far))/\w.cell? ⟨b,o+i*4+3,none⟩=some (.int .i64 (a.all)):=by
 obtain⟨b,o,e,j⟩:=h.d9 f;refine⟨b,o,e,λ i a g=>?_⟩;obtain⟨es,⟨rfl,_⟩,d⟩:=j i a g;exact⟨d 0 _ Z,d 1 _ Z,d 2 _ Z,d 3 _ Z⟩
def sh:hg:=(.cons (.cons (.int .i64) (.cons (.int .i64) .nil)) (.cons (.int .i64) (.cons (.int .i64) .nil)))
end cN
section
variable{c:aw}
abbrev vF(f:aE)(a b:aw)(far:List Int)(l:List cN)(d:aw)(rest:List aw):Prop:=kx cN.cell cN.far cN.all f (aE.mE b) (λ c=>c=a) far l d rest
def z1(f:aE)(b:aw)(far:List Int):Prop:=0<=f.aD far b->∀ x,0<=f.aD far x->f.aD far x+aE.mE b x<=f.aD far b
structure rT(f:aE)(a b:aw)(far:List Int):Prop where
 len:far.length=f.G.length
 spec:sW.Spec f.dM f.iz (aE.mE b) (λ c=>c=a) b (f.aD far)
 kg:∀ c,f.aD far c<=3*(f.G.length:Int)
 Y:∀ c,0<=f.aD far c->f.ground c=true
section
variable{f:aE}{a b eb:aw}{far:List Int}{l:List cN}{cw:cN}{rest:List aw}
theorem aQM(s:vF f a b far l eb [])(m:f.br=0)(o:0<l.length)(t:l.getD 0 default=cw)(x:f.aD far cw.cell<0)(r:z1 f b far)(w:f.aD far b<0\/cw.all<=f.aD far b):z1 f b (far.set (f.d9 cw.cell) cw.far):=by
 have n:cw∈l:=by rw[<-t];exact gZ o
 obtain⟨u,p⟩:=s.all cw n;have k:=aE.K p;have g:=aE.Md (v:=cw.far) m s.len k;have h:∀ z,z≠cw.cell->f.aD (far.set (f.d9 cw.cell) cw.far) z=f.aD far z:=λ z c=>aE.Jb m k c;have j:=λ z c=>s.inv.mono z c (cw.cell,cw.far) (baV.2 ⟨cw,n,rfl⟩);dsimp only at j;intro i z c;by_cases e:b=cw.cell
 .have q:f.aD (far.set (f.d9 cw.cell) cw.far) b=cw.far:=by rw[e];exact g
  rw[q];have e0:aE.mE b cw.cell=0:=by rw[<-e];exact aE.abI b
  by_cases d:z=cw.cell
  .rw[d,g];omega
  .rw[h z d]at c ⊢;have:=j z c;omega
 .rw[h b e]at i ⊢;by_cases d:z=cw.cell
  .rw[d,g];omega
  .rw[h z d]at c ⊢;exact r i z c
def aro(s:vF f a b far l eb [])(g:z1 f b far)(d:(0<=f.aD far b/\∀ e∈l.map λ n=>(n.cell,n.far),f.aD far b<e.2+aE.mE b e.1)\/(l.map λ n=>(n.cell,n.far))=[]):rT f a b far :=
 ⟨s.len,s.inv.ends (aE.W2 f b) (aE.abI b) g d,λ c=>by have:=s.kg c;omega,s.Y⟩
def aMt(s:vF f a b far l eb [])(c:z1 f b far)(h:l.length=0):rT f a b far:=aro s c (.inr (by rw[baM h];rfl))
def aMs(s:vF f a b far l eb [])(j:z1 f b far)(c:0<l.length)(g:0<=f.aD far b)(h:f.aD far b<(l.getD 0 default).all):rT f a b far :=
 aro s j (.inl ⟨g,λ e i=>by
  have d:=s.least c e i;rw[<- (s.all _ (gZ c)).1]at d;omega⟩)
theorem vF.node(s:vF f a b far l eb rest)(e:f.br=0)(m:f.dF b=true)(i:cw∈l):0<=cw.cell.x/\cw.cell.x<f.O/\0<=cw.cell.y/\cw.cell.y<f.high/\0<=cw.far/\cw.far<=4803/\0<=cw.all/\cw.all<=5000/\cw.ok:=by
 obtain⟨y,j⟩:=s.all cw i;obtain⟨_,_,n,o,p,q⟩:=aE.idx e (aE.K j);obtain⟨_,_,t,r,u,v⟩:=aE.idx e m;obtain⟨g1,g2,g3,g4,g5,g6⟩:=aE.hB e;obtain⟨k,w⟩:=s.alp (aE.W2 f b) i;have x:=aE.M e;have z:0<=aE.mE b cw.cell/\aE.mE b cw.cell<=160:=by
  refine⟨aE.aln _ _,?_⟩;unfold aE.mE;have g:=k0 (b.x-cw.cell.x);have d:=k0 (b.y-cw.cell.y);rcases(show b.x-cw.cell.x<0\/0<=b.x-cw.cell.x by omega)with h|h
  .have:=g.2.2.2 h;rcases(show b.y-cw.cell.y<0\/0<=b.y-cw.cell.y by omega)with c|c
   .have:=d.2.2.2 c;omega
   .have:=d.2.2.1 c;omega
  .have:=g.2.2.1 h;rcases(show b.y-cw.cell.y<0\/0<=b.y-cw.cell.y by omega)with c|c
   .have:=d.2.2.2 c;omega
   .have:=d.2.2.1 c;omega
 refine⟨n,o,p,q,k,GE,GE,GE,b7.2 GE,b7.2 GE,b7.2 GE,b7.2 GE⟩
def Ek(d:f.br=0)(b:far.length=f.G.length)(a:f.dF c=true):far[(c.y*f.O+c.x).toNat]? =some (f.aD far c):=by
 rw[aE.yR a];exact cg (u:=-1) (show f.d9 c<far.length by rw[b];exact(aE.rV d a).1)
def lC(a:f.br=0)(g:far.length=f.G.length)(b:f.dF c=true):(c.y*f.O+c.x).toNat<far.length/\0<=c.y*f.O+c.x/\c.y*f.O+c.x<=1600:=by
 have d:=aE.rV a b;obtain⟨e,h,_⟩:=aE.idx a b;have:=aE.M a;unfold aE.d9 at d;omega
def aiw(p q:Bool):p=false\/(p=true/\q=true)\/(p=true/\q=false):=by cases p<;>cases q<;>simp
end
end
section
section
variable{f:aE}{a b c:aw}{far UL:List Int}{aD:aw->Int}
noncomputable def dJ(f:aE)(a b:aw):aw->Int :=
 @dite _ (∃ far,rT f a b far) (Classical.propDecidable _) (λ h=>f.aD h.choose) λ _=>λ _=> -1
def rT.UT(h:rT f a b far):f.aD far=dJ f a b:=by
 have c:∃ far,rT f a b far:=⟨far,h⟩;unfold dJ;rw[dif_pos c]
 funext x
 exact h.spec.uniq c.choose_spec.spec x
def rT.get(h:rT f a b far)(e:f.br=0){c:aw}(d:f.dF c=true):far[(c.y*f.O+c.x).toNat]? =some (dJ f a b c):=by rw[<-h.UT];exact Ek e h.len d
def aMW{a:Type}[Inhabited a]{key:a->Int}{x:a}:dh.push key [] x=[x]:=by
 unfold dh.push dh.sL;rw[ban Kx];rfl
def UX{n:Nat}:f.aD (List.replicate n (-1)) c= -1:=by
 unfold aE.aD;split
 .rw[baa,bbn];split<;>rfl
 .rfl
theorem vF.start(p:f.br=0)(j:f.ground a=true)(h:aw):vF f a b (List.replicate f.G.length (-1)) (dh.push cN.all [] ⟨a,0,0+aE.mE b a⟩) h []:=by
 rw[aMW];refine⟨baK,sW.Inv.start (λ x=>UX) (λ e d=>?_) (λ s m=>?_),λ i o g=>by simp at g;omega,λ n l=>?_,λ c=>?_,λ c k=>by rw[UX]at k;omega⟩
 .rw[ba5,bcl,bah]at d;subst d;exact⟨Z,Z⟩
 .subst m;exact baZ
 .rw[bah.1 l];exact⟨Z,j⟩
 .rw[UX,XW];omega
def z1.start:z1 f b (List.replicate f.G.length (-1)):=λ h=>by rw[UX]at h;omega
def nX(f:aE)(a:aw->Int)(c:aw):aw:=((dG c).find? λ n=>f.ground n && decide (0<=a n) && decide (a n+f.iz c=a c)).getD c
def Ac(f:aE)(b:aw->Int)(a:aw):Nat->aw->List aw
 | 0,c=> [c]
 | n+1,c=>if c=a then[c]else c::Ac f b a n (nX f b c)
structure q6(f:aE)(a:aw)(aD:aw->Int):Prop where
 zero:aD a=0
 pos:∀ c,0<=aD c->c≠a->∃ p,0<=aD p/\c∈f.dM p/\aD c=aD p+f.iz c
 Y:∀ c,0<=aD c->f.ground c=true
theorem q6.O(h:q6 f a aD)(k:0<=aD c)(j:c≠a):nX f aD c∈dG c/\f.ground (nX f aD c)=true/\0<=aD (nX f aD c)/\aD (nX f aD c)+f.iz c=aD c:=by
 obtain⟨p,d,g,i⟩:=h.pos c k j;have l:p∈dG c:=aE.afG (aE.Ro.1 g).1;have e:(f.ground p && decide (0<=aD p) && decide (aD p+f.iz c=aD c))=true:=by
  rw[h.Y p d,baG d,baG i.symm];rfl
 unfold nX;cases b:(dG c).find? λ n=>f.ground n && decide (0<=aD n) && decide (aD n+f.iz c=aD c)with
 | none=>exact absurd e (bbu.1 b p l)
 | some q =>
  have I:=bdm b;simp only[bai,baF]at I;exact⟨bcN b,I.1.1,I.1.2,I.2⟩
theorem q6.fuel(h:q6 f a aD):∀(n:Nat) (c:aw),0<=aD c->(aD c).toNat<=n->Ac f aD a n c=Ac f aD a (aD c).toNat c:=by
 intro n;induction n using Nat.strongRecOn with
 | ind n e =>
  intro c j o;by_cases b:c=a
  .subst b;have:(aD c).toNat=0:=by rw[h.zero];rfl
   rw[this];cases n with
   | zero=>rfl
   | succ n=>unfold Ac;rw[bap rfl]
  .obtain⟨p,q,g,r⟩:=h.O j b;have l:=f.Y (c:=c);obtain⟨m,k⟩:∃ m,(aD c).toNat=m+1:=⟨(aD c).toNat-1,GE⟩;obtain⟨d,i⟩:∃ d,n=d+1:=⟨n-1,GE⟩;subst i;rw[k,Ac,Ac,ban b,ban b,e d GE _ g GE,e m GE _ g GE]
def hq(f:aE)(b:aw->Int)(a c:aw):List aw:=Ac f b a (b c).toNat c
def Fs(h:q6 f a aD):hq f aD a a=[a]:=by unfold hq;rw[h.zero];rfl
def Ft(h:q6 f a aD)(d:0<=aD c)(b:c≠a):hq f aD a c=c::hq f aD a (nX f aD c):=by
 obtain⟨j,k,g,l⟩:=h.O d b;have i:=f.Y (c:=c);unfold hq;obtain⟨m,e⟩:∃ m,(aD c).toNat=m+1:=⟨(aD c).toNat-1,GE⟩;rw[e,Ac,ban b,h.fuel m _ g GE]
theorem q6.of(h:rT f a b far)(i:0<=f.aD far b):q6 f a (f.aD far):=by
 have k:0<=f.aD far a->f.aD far a=0:=λ g=>by
  have:=(h.spec.O a g).1.2 0 (.start rfl);omega
 have key:∀ n:Nat,∀ c,0<=f.aD far c->(f.aD far c).toNat=n->0<=f.aD far a:=by
  intro n;induction n using Nat.strongRecOn with
  | ind n j =>
   intro c e r;rcases h.spec.pred c e with⟨d,_⟩|⟨p,d,o,q⟩
   .subst d;exact e
   .have:=f.Y (c:=c);exact j (f.aD far p).toNat GE p d Z
 have m:=key _ b i rfl;refine⟨k m,λ c e l=>?_,h.Y⟩;rcases h.spec.pred c e with⟨d,_⟩|d
 .exact absurd d l
 .exact d
def q6.Kb(h:rT f a b far)(c:0<=dJ f a b b):q6 f a (dJ f a b):=by rw[<-h.UT]at c ⊢;exact q6.of h c
def rT.ay2(h:rT f a b far)(c:aw):dJ f a b c<=3*(f.G.length:Int):=by rw[<-h.UT];exact h.kg c
noncomputable def jd(f:aE)(a b:aw):Int:=if f.eS a≠0 then f.eS a else if f.eS b≠0 then f.eS b else if f.H a=1\/f.H b=1 then 9 else if dJ f a b b<0 then 6 else 0
noncomputable def rp(f:aE)(a b:aw):Int:=if jd f a b=0 then dJ f a b b else 0
noncomputable def hW(f:aE)(a b:aw):List aw:=if jd f a b=0 then(hq f (dJ f a b) a b).reverse else[]
def aEp(h:f.eS a≠0):jd f a b=f.eS a:=by unfold jd;rw[bap h]
def aEq(h:f.eS a=0)(c:f.eS b≠0):jd f a b=f.eS b:=by unfold jd;rw[ban (by rw[h];simp),bap c]
theorem TP(h:f.eS a=0):f.br=0/\f.dF a=true:=by
 have hc:f.br=0:=by
  by_cases hc:f.br=0
  .exact hc
  .rw[(aE.Z5 hc).1]at h;exact h
 exact⟨hc,ayE hc h⟩
where
 ayE {f:aE} {c:aw} (h:f.br=0) (he:f.eS c=0):f.dF c=true:=by
  cases ao:f.dF c with
  | true=>rfl
  | false=>rw[(aE.O5 h ao).1]at he;omega
def aEt(h:f.eS a=0)(c:f.eS b=0)(d:f.H a=1\/f.H b=1):jd f a b=9:=by unfold jd;rw[ban (by rw[h];simp),ban (by rw[c];simp),bap d]
def aEr(g:f.br=0)(e:f.ground a=true)(d:f.ground b=true)(h:dJ f a b b<0):jd f a b=6:=by
 unfold jd;rw[ban (by rw[(aE.C g (aE.K e)).1];simp),ban (by rw[(aE.C g (aE.K d)).1];simp),ban (by rintro(c|c);exact aE.GX e c;exact aE.GX d c),bap h]
def abO(g:f.br=0)(e:f.ground a=true)(d:f.ground b=true)(h:0<=dJ f a b b):jd f a b=0:=by
 unfold jd;rw[ban (by rw[(aE.C g (aE.K e)).1];simp),ban (by rw[(aE.C g (aE.K d)).1];simp),ban (by rintro(c|c);exact aE.GX e c;exact aE.GX d c),ban GE]
theorem abM(f:aE)(a b:aw):(f.eS a≠0/\jd f a b=f.eS a)\/(f.eS a=0/\f.eS b≠0/\jd f a b=f.eS b)\/(f.eS a=0/\f.eS b=0/\(f.H a=1\/f.H b=1)/\jd f a b=9)\/(f.br=0/\f.ground a=true/\f.ground b=true/\((dJ f a b b<0/\jd f a b=6)\/(0<=dJ f a b b/\jd f a b=0))):=by
 by_cases c:f.eS a=0
 .by_cases d:f.eS b=0
  .obtain⟨i,l⟩:=TP c;obtain⟨_,m⟩:=TP d;by_cases e:f.H a=1\/f.H b=1
   .exact .inr (.inr (.inl ⟨c,d,e,aEt c d e⟩))
   .have g:=aE.PS l (λ h=>e (.inl h));have j:=aE.PS m (λ h=>e (.inr h));refine .inr (.inr (.inr ⟨i,g,j,?_⟩));by_cases k:dJ f a b b<0
    .exact .inl ⟨k,aEr i g j k⟩
    .exact .inr ⟨GE,abO i g j GE⟩
  .exact .inr (.inl ⟨c,d,aEq c d⟩)
 .exact .inl ⟨c,aEp c⟩
end
end
structure ed where
 id:Int
 bG:aw
 deriving DecidableEq,Inhabited
namespace ed
def cells(a:ed):List Value:=[.int .i64 (a.id),.int .i64 (a.bG.x),.int .i64 (a.bG.y)]
def ok(a:ed):Prop:=(Lit.int .i64 a.id).wf=true/\(Lit.int .i64 a.bG.x).wf=true/\(Lit.int .i64 a.bG.y).wf=true
def raw(j:Nat)(u:Value):Prop:=match j with
 | 0|1|2=>∃ n:Int,u=.int .i64 n
 | _=>True
def ui(a:ed):∀(j:Nat) u,a.cells[j]? =some u->raw j u:=by
 intro j u b
 match j,b with
 | 0,b|1,b|2,b=>exact⟨_,(bae b).symm⟩
 | j+3,b=>exact trivial
def cells_one(a:ed):∀ u∈a.cells,u.oneCell'=true:=by
 intro u b;unfold cells at b;simp only[baB,bbM,bcH]at b;rcases b with rfl|rfl|rfl<;>rfl
def ce:τ ed:=τ.flat 3 cells ok raw (λ _=>rfl) cells_one ui
def zero:Value:=.agg #[.int .i64 0,.int .i64 0,.int .i64 0]
def M:∀(j:Nat) u,zero.cells[j]? =some u->ce.raw j u:=by
 intro j u a;have a:(#[(.int .i64 0:Value),(.int .i64 0:Value),(.int .i64 0:Value)]:Array Value)[j]? =some u:=a
 match j,a with
 | 0,a|1,a|2,a=>exact⟨_,(bae a).symm⟩
 | j+3,a=>cases a
def G:(prog.info? 216).map (λ i=>(i.zero,i.size,i.bytes))=some (some zero,3,24):=GT
theorem d9{by_:Nat}{w:World}{A:Option Addr}{c:Nat}{l:List ed}(h:ce.aF by_ w A c l)(f:0<l.length):
  ∃ b o,A=some ⟨b,o,none⟩/\∀(i:Nat) (a:ed),l[i]? =some a->w.cell? ⟨b,o+i*3,none⟩=some (.int .i64 (a.id))/\w.cell? ⟨b,o+i*3+1,none⟩=some (.int .i64 (a.bG.x))/\w.cell? ⟨b,o+i*3+2,none⟩=some (.int .i64 (a.bG.y)):=by
 obtain⟨b,o,e,j⟩:=h.d9 f;refine⟨b,o,e,λ i a g=>?_⟩;obtain⟨es,⟨rfl,_⟩,d⟩:=j i a g;exact⟨d 0 _ Z,d 1 _ Z,d 2 _ Z⟩
def sh:hg:=(.cons (.int .i64) (.cons (.cons (.int .i64) (.cons (.int .i64) .nil)) .nil))
end ed
def ac7{w:World}{cs:List Value}{a:ed}(h:ed.ce.bv w cs a):cs=a.cells:=bcs (show cs=a.cells/\a.ok from h)
section
open Go.RowKit Go.Maps
section
variable{w w':World}{b:Nat}{g:aw->Int}{S:List Nat}{x:aw}{st:Nat}
def ID(w:World)(b:Nat)(l:List (aw×Int×Nat))(a:Nat)(g:aw->Int):Prop :=
 eO aw.key w b l a/\(∀ e∈l,e.1.ok)/\(l.map (·.1)).Nodup/\∀ y,(eO.get l y).getD 0=g y
def mA(w:World)(b:Nat)(g:aw->Int):Prop:=∃ l a,ID w b l a g
def vA(w:World)(b:Nat)(g:aw->Int)(x:aw)(c:Nat):Prop:=∃ l a,ID w b l a g/\∃(j:Nat) (v:Int),l[j]? =some (x,v,c)
def mA.lt(h:mA w b g):b<w.heap.size:=by obtain⟨l,c,h,_⟩:=h;exact h.lt
def ID.be{l:List (aw×Int×Nat)}{a:Nat}(h:ID w b l a g)(c:w'.heap[b]? =w.heap[b]?):ID w' b l a g:=⟨h.1.be c,h.2⟩
def mA.be(h:mA w b g)(a:w'.heap[b]? =w.heap[b]?):mA w' b g:=by obtain⟨l,c,h⟩:=h;exact⟨l,c,h.be a⟩
def mA.O(h:mA w b g)(x:Ext w w'):mA w' b g:=h.be (x.block b h.lt)
def mA.H(h:mA w b g)(m:Mod S w w')(a:b∉S):mA w' b g:=h.be (m.block b h.lt a)
def vA.map(h:vA w b g x st):mA w b g:=by obtain⟨l,c,h,_⟩:=h;exact⟨l,c,h⟩
def vA.lt(h:vA w b g x st):b<w.heap.size:=h.map.lt
def vA.be(h:vA w b g x st)(d:w'.heap[b]? =w.heap[b]?):vA w' b g x st:=by obtain⟨l,c,h,a⟩:=h;exact⟨l,c,h.be d,a⟩
def vA.O(h:vA w b g x st)(e:Ext w w'):vA w' b g x st:=h.be (e.block b h.lt)
def mA.of_nil(h:rR w b []):mA w b λ _=>0:=by
 obtain⟨es,c,f,d⟩:=h;have:es.toList=[]:=by
  cases g:es.toList with
  | nil=>rfl
  | cons a r=>rw[g]at d;exact d.elim
 have e:es=#[]:=by apply bbQ;simpa using this
 subst e;exact⟨[],c,⟨by simpa using f,Kx,Kx⟩,Kx,Kx,λ y=>rfl⟩
def rU(b:Nat)(g:aw->Int)(w w':World):Prop:=Mod [b] w w'/\(mA w b g->mA w' b g)
def rU.O(h:Ext w w'):rU b g w w':=⟨Mod.O h,λ k=>k.O h⟩
def rU.trans{a c:World}(h:rU b g w a)(k:rU b g a c):rU b g w c:=⟨h.1.trans k.1,λ q=>k.2 (h.2 q)⟩
def afC{es:Array MapEntry}{a:Nat}:Mod [b] w (kI w b es a):=
 ⟨rfl,rfl,rfl,by rw[asA];exact bao _,λ k _ c=>RN (by simpa using c)⟩
def wK(g:aw->Int)(x:aw)(v:Int):aw->Int:=λ y=>if y=x then v else g y
end
section
variable{w:World}{b:Nat}{l:List (aw×Int×Nat)}{clock:Nat}{g:aw->Int}
def aqz:prog.underlying 217 =some (.map 41 3):=GT
def aKL(h:mA w b g)(x:aw)(i:x.ok):(Instr.lookup 217 (.map (some b)) (aw.key x) false).run prog w=.ok (.int .i64 (g x)) w:=by
 obtain⟨l,c,a,d,e,f⟩:=h;rw[<-f x];exact(eO.lookup aw.CI aqz (beP w) a d e x i).1
def aPp{l:List (aw×Int×Nat)}{j:Nat}{a:aw×Int×Nat}(c:(l.map (·.2.2)).Nodup)(b:l[j]? =some a):((l.map (eQ aw.key)).toArray).findIdx? (λ y=>((y.born:Nat):Int)== ((a.2.2:Nat):Int))=some j:=by
 rw[be7];refine be2 (l:=l.map (eQ aw.key)) (j:=j) (e0:=eQ aw.key a) ?_ (by rw[bau,b];rfl);rw[bds];exact c
theorem aKK(h:mA w b g)(x:aw)(t:x.ok):∃(C:Nat) (w':World),(Instr.mapEntry 217 (.map (some b)) (aw.key x)).run prog w=.ok (.tuple #[.int .i64 (g x),.int .i64 (C:Int)]) w'/\Mod [b] w w'/\vA w' b g x C:=by
 obtain⟨l,f,h,s,r,o⟩:=h;obtain⟨O,v⟩:=aw.CI.lit x t;have p:=h.iI;have B:=h.lt;have A:=aqz;have L:=beP;rcases eO.found aw.CI h s x t with⟨q,i,K⟩|⟨j,m,k,q,i⟩
 .have n:g x=0:=by rw[<-o x,i];rfl
  have z:eO.put l f x 0=l++ [(x,0,f)]:=by
   unfold eO.put;rw[ban];intro d;obtain⟨a,d,N⟩:=bbD.1 d;exact K a d (by simpa using N)
  have u:ID (kI w b ((l++ [(x,0,f)]).map (eQ aw.key)).toArray (f+1)) b (l++ [(x,0,f)]) (f+1) g:=by
   refine⟨⟨HN B,λ a d=>?_,?_⟩,λ a d=>?_,?_,λ y=>?_⟩
   .rcases bas.1 d with d|d
    .have:=h.born a d;omega
    .simp at d;subst d;simp
   .rw[baJ,bbb];refine⟨h.stamps,Kx,λ a d c M e=>?_⟩;simp at M;obtain⟨y,E,rfl⟩:=baV.1 d;have:=h.born y E;omega
   .rcases bas.1 d with d|d
    .exact s a d
    .simp at d;subst d;exact t
   .have:=eO.MX r f x 0;rw[z]at this;exact this
   .have:=eO.Eo l f x y 0;rw[z]at this;rw[this];by_cases e:y=x
    .rw[bap e,e,n];rfl
    .rw[ban e];exact o y
  refine⟨f,_,?_,afC,⟨_,_,u,l.length,0,Kx⟩⟩
  .rw[n];have:(l.map (eQ aw.key)).toArray.push (⟨aw.key x,.int .i64 0,f⟩:MapEntry)=((l++ [(x,0,f)]).map (eQ aw.key)).toArray:=by simp[eQ]
   simp[Instr.mapEntry,bbw A,bbe p,aw.CI.keyed.check w false v,q,L,bbF _ p,Result.andThen,kI,Go.ChangeMaps.setBlock,goInt,eQ]
 .have n:g x=m:=by rw[<-o x,eO.iK r i];rfl
  have u:ID (kI w b (l.map (eQ aw.key)).toArray f) b l f g:=⟨⟨HN B,h.born,h.stamps⟩,s,r,o⟩;refine⟨k,_,?_,afC,⟨_,_,u,j,m,i⟩⟩
  .rw[n];have D:(l.map (eQ aw.key)).toArray[j]? =some (eQ aw.key (x,m,k)):=by simp[i]
   have G:(l.map (eQ aw.key)).toArray.modify j (λ e=> {e with key:=aw.key x})=(l.map (eQ aw.key)).toArray:=by
    apply bbQ;rw[bcP,bcE _ _ _ _ (by rw[bau,i];rfl)];exact bfl _ _ _ (by rw[bau,i];rfl)
   have H:(eQ aw.key (x,m,k)).key=aw.key x:=rfl;have F:(eQ aw.key (x,m,k)).born=k:=rfl;simp only[Instr.mapEntry,bar,bbw A,bal,bbe p,aw.CI.keyed.check w false v,q,D,bbR,bbq,H,aw.CI.keyed.stays w v,G,bbF _ p,F,bat];rfl
theorem aKM{d:Nat}{x:aw}(h:vA w b g x d)(v:Int):∃ w',(Instr.entryStore 217 (.map (some b)) (.int .i64 (d:Int)) (.int .i64 v)).run prog w=.ok () w'/\Mod [b] w w'/\mA w' b (wK g x v):=by
 obtain⟨l,k,⟨h,r,q,z⟩,j,n,f⟩:=h;have o:=h.iI;have A:=h.lt;have C:=aPp (a:=(x,n,d)) h.stamps f;have E:l.any (λ e=>decide (e.1=x))=true:=bbD.2 ⟨_,baQ f,Kx⟩;have s:eO.put l k x v=l.set j (x,v,d):=by
  unfold eO.put;rw[bap E];refine bbB λ i=>?_;rw[bau];by_cases m:j=i
  .subst m;rw[f,baw (bab.1 f).1];simp
  .rw[baH m];cases p:l[i]? with
   | none=>rfl
   | some a =>
    have:a.1≠x:=by
     intro t;have B:(l.map (·.1))[i]? =(l.map (·.1))[j]? :=by rw[bau,bau,p,f];simp[t]
     have:=(beu (by simpa using(bab.1 p).1) q).1 B;exact m this.symm
    simp[this]
 have u:(l.map (eQ aw.key)).toArray.modify j (λ e=> {e with val:=Value.int .i64 v})=((l.set j (x,v,d)).map (eQ aw.key)).toArray:=by
  apply bbQ;rw[bcP,bcE _ _ _ _ (by rw[bau,f];rfl),bbA];rfl
 refine⟨kI w b ((l.set j (x,v,d)).map (eQ aw.key)).toArray k,?_,afC,l.set j (x,v,d),k,⟨HN A,λ a c=>?_,?_⟩,λ a c=>?_,?_,λ y=>?_⟩
 .rw[<-u];simp only[Instr.entryStore,bar,bbe o,bal,asInt,asIntOf,goInt,bat];rw[C];exact bbF _ o
 .rcases bbs c with c|c
  .exact h.born a c
  .rw[c];exact h.born (x,n,d) (baQ f)
 .rw[bbA];have:(l.map (·.2.2)).set j d=l.map (·.2.2):=by
   obtain⟨F,D⟩:=bab.1 f;have e:(l.map (·.2.2))[j]'(by simpa using F)=d:=by rw[bdN,D]
   conv=>lhs;rw[<-e]
   exact bbV _
  rw[this];exact h.stamps
 .rcases bbs c with c|c
  .exact r a c
  .rw[c];exact r (x,n,d) (baQ f)
 .have:=eO.MX q k x v;rw[s]at this;exact this
 .have:=eO.Eo l k x y v;rw[s]at this;rw[this];unfold wK;by_cases e:y=x
  .rw[bap e,bap e];rfl
  .rw[ban e,ban e];exact z y
end
section
variable{n:Nat}{E df:List (Nat×Value)}{a:Act}{w w' w0 a8:World}{Q:Exit->Act->World->Prop}{ops:Array Oper}
variable{d:Option Nat}{ty:TypeId}{pos:String}{af:Array Edge}{aE2:Option (Nat×Bool)}{x y z m:Operand}{rest:List Oper}{r st:Nat}{g:aw->Int}{p:aw}{v:Int}
def Wn(h:mA w r g)(e:p.ok)(f:ev E m=some (.map (some r)))(c:ev E y=some (aw.key p)):
  dc prog E ⟨d,.lookup 217 m y false,ty,pos,af,aE2⟩ w (.int .i64 (g p)) w:=λ n a b=>by
 simp only[execOp,b.ev f,b.ev c,bar,aKL h p e,bal,bat]
theorem meC{d:Nat}(h:mA w r g)(k:p.ok)(s:ev E m=some (.map (some r)))(f:ev E y=some (aw.key p))(q:Nat.blt d n=true)
  (o:∀ b (c:Nat),Mod [r] w b->vA b r g p c->cx prog n ops Q rest ((d,.tuple #[.int .i64 (g p),.int .i64 (c:Int)])::E) b):cx prog n ops Q (⟨some d,.mapEntry 217 m y,ty,pos,af,none⟩::rest) E w:=by
 obtain⟨c,b,i,j,l⟩:=aKK h p k;refine i' (w':=b) (v:=.tuple #[.int .i64 (g p),.int .i64 (c:Int)]) (λ n a e=>?_) q (o _ c j l);simp only[execOp,e.ev s,e.ev f,bar,i,bal,bat]
def abG(h:vA w r g p st)(l:ev E m=some (.map (some r)))(d:ev E y=some (.int .i64 (st:Int)))(j:ev E z=some (.int .i64 v))
  (k:∀ b,Mod [r] w b->mA b r (wK g p v)->cx prog n ops Q rest E b):cx prog n ops Q (⟨none,.entryStore 217 m y z,ty,pos,af,none⟩::rest) E w:=by
 obtain⟨b,e,f,i⟩:=aKM h v;refine us (w':=b) (λ n a c=>?_) (k _ f i);simp only[execOp,c.ev l,c.ev d,c.ev j,bar,e,bal,bat]
end
end
end Go.Proofs.YtooonebcoaleiaaGreat
