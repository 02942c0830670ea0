import Derived.Test.YtooonebcoaleiaaGreatBas
import Derived.Test.YtooonebcoaleiaaGreatProg
import Derived.WideMake
set_option linter.all false
set_option maxRecDepth 100000
set_option maxHeartbeats 4000000
open Go.RowKit
namespace Go.Proofs.YtooonebcoaleiaaGreat
open Tryz
open Tryz
abbrev baa:=@List.getD_eq_getElem?_getD
abbrev bah:=@List.mem_singleton
abbrev baq:=@List.length_nil
abbrev baA:=@decide_eq_false
abbrev baG:=@decide_eq_true
abbrev baZ:=@List.mem_cons_self
abbrev ba4:=@Int.toNat_natCast
abbrev bba:=@Nat.lt_of_lt_of_le
abbrev bbn:=@List.getElem?_replicate
abbrev bb5:=@Nat.succ_mul
abbrev bcc:=@Nat.le_of_ble_eq_true
abbrev bch:=@Nat.min_eq_left
abbrev bcs:=@And.left
abbrev bcC:=@Nat.eq_of_beq_eq_true
abbrev bcS:=@Nat.lt_succ_iff_lt_or_eq
abbrev bcV:=@of_decide_eq_false
abbrev bcY:=@Nat.mul_one
abbrev bcZ:=@List.set_eq_take_append_cons_drop
abbrev bda:=@Go.run_sliceAt_slice
abbrev bdh:=@Nat.add_assoc
abbrev bdj:=@List.mem_of_mem_drop
abbrev bdH:=@List.cons.inj
abbrev bd2:=@List.getElem?_toArray
abbrev beb:=@List.replicate_succ
abbrev bef:=@Go.size_madeCells
abbrev beg:=@Go.IntWalk.i64_in
abbrev beo:=@Go.MapKept.run_findKey
abbrev bes:=@Nat.add_comm
abbrev beN:=@Int.natCast_mul
abbrev beQ:=@Array.getD_eq_getD_getElem?
abbrev beS:=@List.take_zero
abbrev beY:=@Array.getElem?_append_left
abbrev be3:=@Prod.mk.injEq
abbrev be5:=@List.getElem?_take_of_lt
abbrev bfe:=@Nat.ne_of_beq_eq_false
abbrev bfg:=@List.drop_of_length_le
abbrev bfs:=@Array.size_replicate
abbrev bfx:=@List.drop_succ_cons
abbrev bfD:=@Int.not_le
abbrev bfG:=@not_true_eq_false
abbrev bfK:=@Go.MapKept.run_checkKey
abbrev bfO:=@Classical.not_not

def gg(n:Int):Prop:=(Lit.int .i64 n).wf=true
def b7{n:Int}:gg n↔ -9223372036854775808<=n/\n<=9223372036854775807:=by
 unfold gg;simp[Lit.wf,IntKind.min,IntKind.max,IntKind.signed,IntKind.bits]
def bN:τ Int:=τ.flat 1 (λn=> [.int .i64 n]) gg (λ_ u=>∃ n:Int,u=.int .i64 n) (λ_=>rfl) (by intro a u b;simp at b;subst b;rfl) (by
 intro a j u b;cases j with
 | zero=>simp at b;exact⟨a,b.symm⟩
 | succ j=>simp at b)
def xO:τ Bool:=τ.flat 1 (λn=> [.bool n]) (λ_=>True) (λ_ u=>∃ n:Bool,u=.bool n) (λ_=>rfl) (by intro a u b;simp at b;subst b;rfl) (by
 intro a j u b;cases j with
 | zero=>simp at b;exact⟨a,b.symm⟩
 | succ j=>simp at b)
def Ko:τ ByteArray:=τ.aEx 1 (λn=> [.string n]) (λs=>s.size<=140737488351232) (λ_ u=>∃ n:ByteArray,u=.string n/\n.size<=140737488351232) (λ_=>rfl) (by intro a u b;simp at b;subst b;rfl) (by
 intro a c j u b;cases j with
 | zero=>simp at b;exact⟨a,b.symm,c⟩
 | succ j=>simp at b)
def ar4:bN.Y:=τ.nc
section
variable{by_:Nat}{w:World}{A:Option Addr}{c:Nat}
def Km{l:List Int}(h:bN.aF by_ w A c l)(f:0<l.length):∃ b o,A=some ⟨b,o,none⟩/\∀(i:Nat) (a:Int),l[i]? =some a->w.cell? ⟨b,o+i,none⟩=some (.int .i64 a):=by
 obtain⟨b,o,e,j⟩:=h.d9 f;refine⟨b,o,e,λi a g=>?_⟩;obtain⟨es,⟨rfl,_⟩,d⟩:=j i a g;have:=d 0 _ rfl;simpa[bN,τ.flat]using this
end
def afn(w:World)(cs:List Value)(h:(.int .i64:hg).jF w cs):∃ a,bN.bv w cs a:=by
 obtain⟨n,rfl,b⟩:=h;exact⟨n,Z,b⟩
def Kn{by_:Nat}{w:World}{A:Option Addr}{c:Nat}{l:List Int}(h:bN.aF by_ w A c l):∀ a∈l,gg a:=τ.aF.D1 (R:=bN) (Q:=gg) (λ{w cs a} (h:bN.bv w cs a)=>(show cs=[.int .i64 a]/\gg a from h).2) h
def y5:(prog.info? 3).map (λi=>(i.zero,i.size,i.bytes))=some (some (.int .i64 0),1,8):=GT
def iK{b:Type}{l:List b}{i:Nat}(h:i<l.length):∃ a,l[i]? =some a:=⟨_,bac h⟩
open Tryz
def aR8:∀(j:Nat) u,(Value.int .i64 0).cells[j]? =some u->bN.raw j u:=by
 intro j u a;have a:(#[Value.int .i64 0]:Array Value)[j]? =some u:=a
 match j,a with
 | 0,a=>exact⟨0,(bae a).symm⟩
 | j+1,a=>cases a
open Tryz

abbrev Env:=List (Nat×Value)
def look:List (Nat×Value)->Nat->Option Value
 | [],_=>none
 | (k,v)::r,t=>match Nat.beq k t with|true=>some v|false=>look r t
structure fz(n:Nat)(E:List (Nat×Value))(a:Act):Prop where
 d:a.defers=[]
 s:a.tmps.size=n
 g:∀ t v,look E t=some v->a.tmps[t]? =some v
def ev(E:List (Nat×Value)):Operand->Option Value
 | .tmp t=>look E t
 | .const v=>some v
 | .global g=>some (.pointer (some ⟨g,0,none⟩))
 | .func f=>some (.func (.func f) #[] #[])
def hV(E:List (Nat×Value)):List Operand->Option (List Value)
 | []=>some []
 | x::r=>match ev E x with
  | some v=>match hV E r with
   | some l=>some (v::l)
   | none=>none
  | none=>none
section
variable{P:Program}{n:Nat}{E df:List (Nat×Value)}{a:Act}{w w' a8:World}{Q:Exit->Act->World->Prop}{ops:Array Oper}{v:Value}
def fz.ev{x:Operand}(h:fz n E a)(b:ev E x=some v):a.eval x=v:=by
 cases x with
 | tmp t=>have:=h.g t v b;simp[Act.eval,this]
 | const u=>exact bae b
 | global g=>exact bae b
 | func f=>exact bae b
theorem fz.hV(h:fz n E a):∀ {l:List Operand} {vs:List Value},hV E l=some vs->l.map a.eval=vs
 | [],_,e=>by simp only[Proofs.YtooonebcoaleiaaGreat.hV]at e;exact bae e
 | x::r,vs,e=>by
  simp only[Proofs.YtooonebcoaleiaaGreat.hV]at e;cases c:Proofs.YtooonebcoaleiaaGreat.ev E x with
  | none=>rw[c]at e;cases e
  | some v =>
   rw[c]at e;simp only at e;cases b:Proofs.YtooonebcoaleiaaGreat.hV E r with
   | none=>rw[b]at e;cases e
   | some l =>
    rw[b]at e;simp only at e;obtain rfl:=bae e;rw[ba5,h.ev c,fz.hV h b]
def fz.put{d:Nat}(h:fz n E a)(e:Nat.blt d n=true)(v:Value):fz n ((d,v)::E) (a.put (some d) v):=by
 rw[bej]at e;refine⟨h.d,by simp[Act.put,h.s],λt u b=>?_⟩;simp only[look]at b;cases c:Nat.beq d t with
 | true =>
  rw[c]at b;obtain rfl:d=t:=bcC c;obtain rfl:=bae b;simp[Act.put,h.s,e]
 | false =>
  rw[c]at b;have f:d≠t:=bfe c;simp only[Act.put];rw[bcn f];exact h.g t u b
def fz.none(h:fz n E a)(v:Value):fz n E (a.put none v):=h
def Sub(a E:List (Nat×Value)):Prop:=∀ t v,look a t=some v->look E t=some v
def Sub.nil:Sub [] E:=λt v h=>by simp[look]at h
def Sub.cons{k:Nat}(h:look E k=some v)(c:Sub df E):Sub ((k,v)::df) E:=λt u a=>by
 simp only[look]at a;cases b:Nat.beq k t with
 | true=>rw[b]at a;obtain rfl:k=t:=bcC b;obtain rfl:=bae a;exact h
 | false=>rw[b]at a;exact c t u a
def fz.sub(h:fz n E a)(b:Sub df E):fz n df a:=⟨h.d,h.s,λt v c=>h.g t v (b t v c)⟩
def W(P:Program)(n:Nat)(c:Code)(Q:Exit->Act->World->Prop)(E:List (Nat×Value))(w:World):Prop:=∀ a,fz n E a->c.wp P Q a w
def N(n:Nat)(Q:Exit->Act->World->Prop)(E:List (Nat×Value))(w:World):Prop:=∀ a,fz n E a->Q .normal a w
def X(n:Nat)(Q:Exit->Act->World->Prop)(b:Nat)(E:List (Nat×Value))(w:World):Prop:=∀ a,fz n E a->Q (.exit b) a w
def T(n:Nat)(Q:Exit->Act->World->Prop)(E:List (Nat×Value))(w:World):Prop:=∀ a,fz n E a->Q .ret a w
def cx(P:Program)(n:Nat)(b:Array Oper)(Q:Exit->Act->World->Prop)(l:List Oper)(E:List (Nat×Value))(w:World):Prop:=∀ a,fz n E a->wpList P b Q l a w
abbrev pg(P:Program)(y:Code)(Q:Exit->Act->World->Prop):Exit->Act->World->Prop:=Exit.then (λa w=>y.wp P Q a w) Q
def av{x y:Code}(h:W P n x (pg P y Q) E w):W P n (.seq x y) Q E w:=λa b=>wp_seq (h a b)
def dP(h:N n Q E w):W P n .skip Q E w:=λa b=>wp_skip (h a b)
def rt(h:T n Q E w):W P n .ret Q E w:=λa b=>wp_ret (h a b)
def cI{b:Nat}(h:X n Q b E w):W P n (.exit b) Q E w:=λa c=>wp_exit (h a c)
def bp{b:Nat}{c:Code}(h:W P n c (Exit.inBlock b Q) E w):W P n (.block b c) Q E w:=λa d=>wp_block (h a d)
def rg{c:Nat}{l:List Oper}(h:cx P n l.toArray Q l E w):W P n (.region c l.toArray false) Q E w:=λa b=>wp_region_lit (h a b)
def fB{c:Operand}{x y:Code}(d:ev E c=some (.bool true))(h:W P n x Q E w):W P n (.cond c x y) Q E w:=λa b=>wp_cond_true (b.ev d) (h a b)
def ef{c:Operand}{x y:Code}(d:ev E c=some (.bool false))(h:W P n y Q E w):W P n (.cond c x y) Q E w:=λa b=>wp_cond_false (b.ev d) (h a b)
def aau{c:Operand}{x y:Code}(b:Bool)(g:ev E c=some (.bool b))(e:b=true->W P n x Q E w)(f:b=false->W P n y Q E w):W P n (.cond c x y) Q E w :=
 λa d=>wp_cond_split (d.ev g) (λh=>e h a d) (λh=>f h a d)
def dB{c:Operand}{x y:Code}{b:Bool}(e:ev E c=some (.bool b))(a:b=true->W P n x Q E w)(d:b=false->W P n y Q E w):W P n (.cond c x y) Q E w:=aau b e a d
def nl(h:N n Q E w):cx P n ops Q [] E w:=h
def a7{y:Code}(h:W P n y Q E w):N n (pg P y Q) E w:=h
def bK{a:Nat}(h:N n Q E w):N n (Exit.inBlock a Q) E w:=h
def cH{y:Code}{a:Nat}(h:X n Q a E w):X n (pg P y Q) a E w:=h
def cU{K:Act->World->Prop}{a:Nat}(h:X n Q a E w):X n (Exit.then K Q) a E w:=h
def cG{b:Nat}(h:N n Q E w):X n (Exit.inBlock b Q) b E w:=λa c=>by simp only[Exit.inBlock,bcj];exact h a c
def KO{c b:Nat}(d:Nat.beq b c=false)(h:X n Q b E w):X n (Exit.inBlock c Q) b E w:=λa e=>by simp only[Exit.inBlock,ban (bfe d)];exact h a e
def bR{y:Code}(h:T n Q E w):T n (pg P y Q) E w:=h
def k1{K:Act->World->Prop}(h:T n Q E w):T n (Exit.then K Q) E w:=h
def dO{a:Nat}(h:T n Q E w):T n (Exit.inBlock a Q) E w:=h
def Gn:Nat->List Value->List (Nat×Value)
 | _,[]=> []
 | i,v::r=>(i,v)::Gn (i+1) r
def Z2:∀(l:List Value) (i t:Nat) (v:Value),look (Gn i l) t=some v->∃ j,t=i+j/\l[j]? =some v
 | [],_,_,_,h=>by simp[Gn,look]at h
 | u::r,i,t,v,h=>by
  simp only[Gn,look]at h;cases a:Nat.beq i t with
  | true=>rw[a]at h;exact⟨0,by have:=bcC a;omega,by simpa using h⟩
  | false =>
   rw[a]at h;obtain⟨j,e,b⟩:=Z2 r (i+1) t v h;exact⟨j+1,GE,by simpa using b⟩
theorem bT{f:FuncId}{fn:Func}{c:Code}{l:List Value}{R:Ending->World->Prop}(g:P.funcs[f]? =some fn)(b:fn.body=some c)(i:fn.ntmps=n)(d:Nat.ble l.length n=true)
  (h:W P n c (bodyPost P fn R) (Gn 0 l) w):Calls P f l.toArray w R:=by
 refine calls_of_wp g b (h _ ⟨Z,?_,λt v k=>?_⟩)
 .have:=bcc d;simp only[bdG,bfs,i,bbY];omega
 .obtain⟨j,e,a⟩:=Z2 l 0 t v k;have m:=(bab.1 a).1;rw[beY (by simp;omega)];simpa[show t=j by omega]using a
inductive zW (P:Program) (E:List (Nat×Value)) (w:World):List ResultVar->List Value->Prop
 | nil:zW P E w [] []
 | tmp {t:Nat} {v:Value} {r:List ResultVar} {vs:List Value} (h:look E t=some v) (hr:zW P E w r vs):zW P E w (.tmp t::r) (v::vs)
 | cell {t:Nat} {ty:TypeId} {p:Addr} {v:Value} {r:List ResultVar} {vs:List Value} (h:look E t=some (.pointer (some p))) (az:(loadVar ty p).run P w=.ok v w) (hr:zW P E w r vs):zW P E w (.cell t ty::r) (v::vs)
def rG:List Value->Value
 | [v]=>v
 | vs=> .tuple vs.toArray
theorem zW.run{l:List ResultVar}{vs:List Value}(h:zW P E w l vs)(e:fz n E a)(f:ResultVar->Sem Value)(g:∀ t,f (.tmp t)=pure (a.tmps.getD t undef))(i:∀ c t,f (.cell c t)=(asAddr (a.tmps.getD c undef)>>= λp=>loadVar t p)):
  (l.mapM f).run P w=.ok vs w:=by
 induction h with
 | nil=>rfl
 | @tmp t v r vs h hr d =>
  have b:a.tmps.getD t undef=v:=by rw[beQ,e.g _ _ h];rfl
  simp only[List.mapM_cons,bar,g,b,bat,bal,d]
 | @cell t ty p v r vs h az hr d =>
  have b:a.tmps.getD t undef=.pointer (some p):=by rw[beQ,e.g _ _ h];rfl
  simp only[List.mapM_cons,bar,i,b,asAddr,bat,bal,az,d]
def afu{fn:Func}{vs:List Value}(h:zW P E w fn.results.toList vs)(b:fz n E a):(results fn a.tmps).run P w=.ok (rG vs) w:=by
 unfold results;rw[Array.mapM_eq_mapM_toList];simp only[bar,Sem.run_map];rw[h.run b _ (λ_=>rfl) (λ_ _=>rfl)]
 match vs with
 | []=>rfl
 | [v]=>rfl
 | _::_::_=>simp[rG]
def cJ{fn:Func}{R:Ending->World->Prop}{vs:List Value}(h:zW P E w fn.results.toList vs)(c:R (.returned (rG vs)) w):T n (bodyPost P fn R) E w :=
 λa b=>⟨b.d,_,afu h b,c⟩
def OD(n:Nat)(d:Nat->List (Nat×Value)->World->Prop)(m:Nat):Act->World->Prop:=λa w=>∃ c,c<m/\∃ b,d c b w/\fz n b a
theorem di{c:Code}(i:Nat->List (Nat×Value)->World->Prop)(m:Nat)(j:List (Nat×Value))(r:i m j w)(A:Sub j E)
  (round:∀ m E w,i m E w->W P n c (Exit.then (OD n i m) Q) E w):W P n (.loop c) Q E w:=λa o=>by
 intro b k cs;have key:∀ m a w,(∃ E,i m E w/\fz n E a)->∃ e h w',Q e h w'/\Arrives P (lone (b.at a (.code c::.inLoop c::k)) cs w) b k cs e h w':=by
  intro m;induction m using Nat.strongRecOn with
  | _ m u =>
   intro a w ⟨E,C,o⟩;obtain⟨e,g,f,I,d⟩:=round m E w C a o b (.inLoop c::k) cs;cases e with
   | normal =>
    obtain⟨B,v,t⟩:=I;obtain⟨y,q,z,p,s⟩:=u B v g f t;exact⟨y,q,z,p,.of_steps (Steps.trans d (.one step_inLoop)) s⟩
   | exit F=>exact⟨_,g,f,I,.pass (x:=.inLoop c) rfl (λ_ _=> .inl Kx) d⟩
   | goto l=>exact⟨_,g,f,I,.pass (x:=.inLoop c) rfl (λ_ _=> .inl Kx) d⟩
   | ret=>exact⟨_,g,f,I,.pass (x:=.inLoop c) rfl (λ_ _=> .inl Kx) d⟩
   | panic D=>exact⟨_,g,f,I,.pass (x:=.inLoop c) rfl (λ_ _=> .inl Kx) d⟩
   | outgrown=>exact⟨_,g,f,I,.pass (x:=.inLoop c) rfl (λ_ _=> .inl Kx) d⟩
 obtain⟨e,h,w',I,d⟩:=key m a w ⟨j,r,o.sub A⟩;exact⟨e,h,w',I,.of_steps (.one step_loop) d⟩
def oR{d:Nat->List (Nat×Value)->World->Prop}{m:Nat}(c:Nat)(b:List (Nat×Value))(h:d c b w)(f:c<m)(g:Sub b E):N n (Exit.then (OD n d m) Q) E w :=
 λa e=>⟨c,f,b,h,e.sub g⟩
variable{d:Option Nat}{ty:TypeId}{pos:String}{af:Array Edge}{g:Option (Nat×Bool)}{x y z:Operand}{t:TypeId}{rest:List Oper}
def dc(P:Program)(E:List (Nat×Value))(o:Oper)(w:World)(v:Value)(w':World):Prop:=∀ n a,fz n E a->(execOp a.eval o).run P w=.ok (.value v) w'
def axW(P:Program)(E:List (Nat×Value))(o:Oper)(w w':World):Prop:=∀ n a,fz n E a->(execOp a.eval o).run P w=.ok .skip w'
def LH{o:Oper}(b:o.guard=none){a:Act}(h:o.wp P a w (wpList P ops Q rest) Q):wpList P ops Q (o::rest) a w:=by
 unfold wpList;rw[bap (by simp[Region.wanted,b])];exact .inl h
def i'{d:Nat}{c:Op}(f:dc P E ⟨some d,c,ty,pos,af,none⟩ w v w')(e:Nat.blt d n=true)(h:cx P n ops Q rest ((d,v)::E) w'):cx P n ops Q (⟨some d,c,ty,pos,af,none⟩::rest) E w:=λa b=>by
 refine LH Z ?_;unfold Oper.wp;rw[f n a b];exact h _ (b.put e v)
def us{c:Op}(d:axW P E ⟨none,c,ty,pos,af,none⟩ w w')(h:cx P n ops Q rest E w'):cx P n ops Q (⟨none,c,ty,pos,af,none⟩::rest) E w:=λa b=>by
 refine LH Z ?_;unfold Oper.wp;rw[d n a b];exact h _ b
def Enters(P:Program)(f:FuncId):Prop:=∃ fn,P.funcs[f]? =some fn/\(fn.name == "runtime.NumGoroutine")=false/\fn.body.isNone=false
def Nx{f:FuncId}(k:Enters P f){xs:Array Operand}{b:Array TypeId}{args:List Value}{a:Act}(i:fz n E a)(j:hV E xs.toList=some args):
  (execOp a.eval ⟨d,.call {callee:=.value (.func f),args:=xs,argTypes:=b},ty,pos,af,g⟩).run P w=.ok (.enter f args.toArray) w:=by
 obtain⟨fn,c,e,h⟩:=k;have l:xs.map a.eval=args.toArray:=by rw[<-i.hV j];apply bbQ;simp
 exact ash f fn c e h xs b Z _ l
theorem ca{d:Nat}{f:FuncId}(j:Enters P f){xs:Array Operand}{k:Array TypeId}{args:List Value}(i:hV E xs.toList=some args)(g:Nat.blt d n=true)
  (h:Calls P f args.toArray w λe w'=>∃ v,e=.returned v/\cx P n ops Q rest ((d,v)::E) w'):cx P n ops Q (⟨some d,.call {callee:=.value (.func f),args:=xs,argTypes:=k},ty,pos,af,none⟩::rest) E w:=λa b=>by
 refine LH Z ?_;unfold Oper.wp;rw[Nx j b i];refine beC h λe w' c=>?_;obtain⟨v,rfl,h⟩:=c;exact h _ (b.put g v)
def fW(c:ev E x=some v):dc P E ⟨d,.move x,ty,pos,af,g⟩ w v w:=λn a b=>by simp only[execOp,b.ev c];rfl
def fh(c:ev E x=some v):dc P E ⟨d,.assign x,ty,pos,af,g⟩ w v w:=λn a b=>by simp only[execOp,b.ev c];rfl
def ex{l:List Value}{k:Nat}(e:ev E x=some (.tuple l.toArray))(b:l[k]? =some v):dc P E ⟨d,.extract x k,ty,pos,af,g⟩ w v w:=λn a c=>by
 simp only[execOp,c.ev e,Instr.extract,bd2,b];rfl
def cB{p:Addr}(c:ev E x=some (.pointer (some p))):dc P E ⟨d,.nilCheck x,ty,pos,af,g⟩ w (.pointer (some p)) w:=λn a b=>by simp only[execOp,b.ev c];rfl
def dj{b:Bool}(e:ev E x=some (.bool b)):dc P E ⟨d,.unOp .not t x,ty,pos,af,g⟩ w (.bool !b) w:=λn a c=>by
 simp only[execOp,c.ev e];cases b<;>rfl
def pH{v:Value}(e:ev E x=some (.bool true))(c:ev E y=some v):dc P E ⟨d,.pick x y z,ty,pos,af,g⟩ w v w:=λn a b=>by
 simp only[execOp,b.ev e,b.ev c];rfl
def uZ{v:Value}(e:ev E x=some (.bool false))(c:ev E z=some v):dc P E ⟨d,.pick x y z,ty,pos,af,g⟩ w v w:=λn a b=>by
 simp only[execOp,b.ev e,b.ev c];rfl
def cP(c:Bool)(v:Value):Value:=if c=true then v else undef
def gt{c:Bool}(a:c=true)(h:ev E x=some (cP c v)):ev E x=some v:=by rw[h,a];rfl
def dS{b c q:Bool}(i:ev E x=some (.bool b))(f:ev E y=some (.bool true))(I:(b == false)=q)(h:ev E z=some (cP q (.bool c))):dc P E ⟨d,.pick x y z,ty,pos,af,g⟩ w (.bool (b || c)) w:=λn a e=>by
 subst I;simp only[execOp,e.ev i,e.ev f,e.ev h];cases b<;>rfl
def cQ{b c q:Bool}(i:ev E x=some (.bool b))(h:ev E z=some (.bool false))(I:(b == true)=q)(f:ev E y=some (cP q (.bool c))):dc P E ⟨d,.pick x y z,ty,pos,af,g⟩ w (.bool (b && c)) w:=λn a e=>by
 subst I;simp only[execOp,e.ev i,e.ev f,e.ev h];cases b<;>rfl
section
variable{k k':IntKind}{i j:Int}{u:TypeId}
def ot{c:BinOp}{s:Sem Value}(l:ev E x=some (.int k i))(e:ev E y=some (.int k' j))(h:binOp c t (.int k i) (.int k' j)=s)(f:s.run P w=.ok v w):dc P E ⟨d,.binOp c t x y u,ty,pos,af,g⟩ w v w:=λn a b=>by
 simp only[execOp,b.ev l,b.ev e,eqGuard_at_int,h,bar,bat,bal,f]
def bad(b:ev E x=some (.int k i))(a:ev E y=some (.int k j))(h:k.wrap (i+j)=i+j):dc P E ⟨d,.binOp .add t x y u,ty,pos,af,g⟩ w (.int k (i+j)) w:=ot b a (binOp_add t k i j) (by simp[Op.intArith,h])
def hi(b:ev E x=some (.int k i))(a:ev E y=some (.int k j))(h:k.wrap (i-j)=i-j):dc P E ⟨d,.binOp .sub t x y u,ty,pos,af,g⟩ w (.int k (i-j)) w:=ot b a (binOp_sub t k i j) (by simp[Op.intArith,h])
def mD(b:ev E x=some (.int k i))(a:ev E y=some (.int k j))(h:k.wrap (i*j)=i*j):dc P E ⟨d,.binOp .mul t x y u,ty,pos,af,g⟩ w (.int k (i*j)) w:=ot b a (binOp_mul t k i j) (by simp[Op.intArith,h])
def O'(b:ev E x=some (.int k i))(a:ev E y=some (.int k j)):dc P E ⟨d,.binOp .add t x y u,ty,pos,af,g⟩ w (.int k (k.wrap (i+j))) w:=ot b a (binOp_add t k i j) (by simp[Op.intArith])
def azg(b:ev E x=some (.int k i))(a:ev E y=some (.int k j)):dc P E ⟨d,.binOp .sub t x y u,ty,pos,af,g⟩ w (.int k (k.wrap (i-j))) w:=ot b a (binOp_sub t k i j) (by simp[Op.intArith])
def Gv(b:ev E x=some (.int k i))(a:ev E y=some (.int k j)):dc P E ⟨d,.binOp .mul t x y u,ty,pos,af,g⟩ w (.int k (k.wrap (i*j))) w:=ot b a (binOp_mul t k i j) (by simp[Op.intArith])
def blt(b:ev E x=some (.int k i))(a:ev E y=some (.int k j)):dc P E ⟨d,.binOp .lss t x y u,ty,pos,af,g⟩ w (.bool (decide (i<j))) w:=ot b a (binOp_lss t k i j) rfl
def ble(b:ev E x=some (.int k i))(a:ev E y=some (.int k j)):dc P E ⟨d,.binOp .leq t x y u,ty,pos,af,g⟩ w (.bool (decide (i<=j))) w:=ot b a (binOp_leq t k i j) rfl
def gy(b:ev E x=some (.int k i))(a:ev E y=some (.int k j)):dc P E ⟨d,.binOp .gtr t x y u,ty,pos,af,g⟩ w (.bool (decide (j<i))) w:=ot b a (binOp_gtr t k i j) rfl
def iV(b:ev E x=some (.int k i))(a:ev E y=some (.int k j)):dc P E ⟨d,.binOp .geq t x y u,ty,pos,af,g⟩ w (.bool (decide (j<=i))) w:=ot b a (binOp_geq t k i j) rfl
def beq(b:ev E x=some (.int k i))(a:ev E y=some (.int k j)):dc P E ⟨d,.binOp .eql t x y u,ty,pos,af,g⟩ w (.bool (i == j)) w:=ot b a (binOp_eql t k i j) rfl
def bne(b:ev E x=some (.int k i))(a:ev E y=some (.int k j)):dc P E ⟨d,.binOp .neq t x y u,ty,pos,af,g⟩ w (.bool (i != j)) w:=ot b a (binOp_neq t k i j) rfl
end
def fA(P:Program)(t:TypeId)(k:Nat):Prop:=∀ w,(sizeOf t).run P w=.ok k w
def fp(P:Program)(t:TypeId)(b:Bool):Prop:=∀ w,(isAgg t).run P w=.ok b w
def mB(P:Program)(t:TypeId)(v:Value):Prop:=∀ w,(zeroValue t).run P w=.ok v w
def Fd(P:Program)(t:TypeId)(i a:Nat):Prop:=∀ w g o,(Instr.fieldAt t (.pointer (some ⟨g,o,none⟩)) i).run P w=.ok (.pointer (some ⟨g,o+a,none⟩)) w
section
variable{b o k:Nat}{cs:List Value}
def aj{i c:Nat}(f:Fd P t i c)(h:ev E x=some (.pointer (some ⟨b,o,none⟩))):dc P E ⟨d,.fieldAddr t x i,ty,pos,af,g⟩ w (.pointer (some ⟨b,o+c,none⟩)) w:=λn a e=>by
 simp only[execOp,e.ev h,bar,f w b o,bal,bat]
theorem QX{e:TypeId}{size f p:Nat}{l:IntKind}{i:Int}(j:Nat)(k:P.underlying t=some (.slice e))(q:fA P e size)(r:ev E x=some (.slice (some ⟨b,o,none⟩) f p))(m:ev E y=some (.int l i))(h:i=(j:Int))(s:j<f):
  dc P E ⟨d,.indexAddr t x y,ty,pos,af,g⟩ w (.pointer (some ⟨b,o+j*size,none⟩)) w:=λn a c=>by
 subst h;simp only[execOp,c.ev r,c.ev m,Instr.indexAt,asIntOf,bar,bat,bal,bbw k];rw[bap ⟨GE,GE⟩];simp only[bar,q w,bal,bat,ba4,LJ]
def nJ(P:Program)(w:World)(t:TypeId)(p:Addr)(v:Value):Prop:=(loadVar t p).run P w=.ok v w
def nJ.one{p:Addr}(a:fp P t false)(h:w.cell? p=some v):nJ P w t p v:=by
 unfold nJ loadVar;simp only[bar,a w,bal,ba0,bbE,run_load,h]
def nJ.agg(c:fp P t true)(d:fA P t cs.length)(h:∀ j v,cs[j]? =some v->w.cell? ⟨b,o+j,none⟩=some v):nJ P w t ⟨b,o,none⟩ (.agg cs.toArray):=by
 unfold nJ loadVar;simp only[bar,c w,bal,bcj,d w,run_loadCells_list w ⟨b,o,none⟩ cs (λj v a=>by rw[LJ];exact h j v a),bat]
def aq{p:Addr}(c:ev E x=some (.pointer (some p)))(h:nJ P w t p v):dc P E ⟨d,.load t x,ty,pos,af,g⟩ w v w:=λn a b=>by
 unfold nJ at h;simp only[execOp,b.ev c,Instr.loadAt,Instr.sureAddr,bar,bat,bal,h]
def aO.one{p:Nat}{cur:List Value}{e:TypeId}{a:Nat×Nat}(h:aO w b cur e a)(c:fp P t false)(d:cur[p]? =some v):nJ P w t ⟨b,p,none⟩ v:=nJ.one c (by rw[h.cell,d])
def aO.agg{p:Nat}{cur:List Value}{e:TypeId}{c:Nat×Nat}(h:aO w b cur e c)(d:fp P t true)(g:fA P t cs.length)(i:(cur.drop p).take cs.length=cs):nJ P w t ⟨b,p,none⟩ (.agg cs.toArray):=
 nJ.agg d g λj v a=>by
  rw[h.cell,<-a];have f:=(bab.1 a).1
  conv=>rhs;rw[<-i]
  rw[be5 f,bbm]
theorem azh{e:Op}{d:Nat}{cs:List Value}(k:e=.box t x)(j:ev E x=some v)(g:v.cells=cs.toArray)(i:Nat.blt d n=true)
  (h:∀ c b,Ext w c->w.heap.size<=b->aO c b cs t (0,0)->cx P n ops Q rest ((d,.pointer (some ⟨b,0,none⟩))::E) c):cx P n ops Q (⟨some d,e,ty,pos,af,none⟩::rest) E w:=by
 subst k;refine i' (w':=w.alloc (.cells v.cells t)) (v:=.pointer (some ⟨w.heap.size,0,none⟩)) (λn a f=>?_) i (h _ _ ((baL _ w).alloc (bao _) _) (bao _) (by rw[g];exact aO.new w cs t (0,0)));simp only[execOp,f.ev j,Instr.box,newVar,newRow,bar,run_newObj_alloc,bal,bat]
theorem al{e:Op}{d:Nat}{cs:List Value}(j:e=.alloc t)(f:mB P t v)(g:v.cells=cs.toArray)(i:Nat.blt d n=true)
  (h:∀ c b,Ext w c->w.heap.size<=b->aO c b cs t (0,0)->cx P n ops Q rest ((d,.pointer (some ⟨b,0,none⟩))::E) c):cx P n ops Q (⟨some d,e,ty,pos,af,none⟩::rest) E w:=by
 subst j;refine i' (w':=w.alloc (.cells v.cells t)) (v:=.pointer (some ⟨w.heap.size,0,none⟩)) (λn a k=>?_) i (h _ _ ((baL _ w).alloc (bao _) _) (bao _) (by rw[g];exact aO.new w cs t (0,0)));simp only[execOp,Instr.alloc,bar,f w,newVar,newRow,run_newObj_alloc,bal,bat]
end
end
section
variable{P:Program}{n:Nat}{E df:List (Nat×Value)}{a:Act}{w w' w0 a8:World}{Q:Exit->Act->World->Prop}{ops:Array Oper}{v:Value}{a_:Nat->Nat}
variable{d:Option Nat}{ty:TypeId}{pos:String}{af:Array Edge}{g:Option (Nat×Bool)}{x y z:Operand}{t:TypeId}{rest:List Oper}{cd:List Nat}{i:Nat}
def gN(P:Program)(n:Nat)(d:Array Oper)(Q:Exit->Act->World->Prop)(b:Nat->Nat)(c:List Nat)(E:List (Nat×Value))(e:World):Prop:=∀ a,fz n E a->x_ P d (i_ (Q .normal)) b c a e
def qa(l:List (Nat×Nat))(i:Nat):Nat:=match l with
 | []=>1
 | (j,k)::r=>match Nat.beq j i with|true=>k|false=>qa r i
def rd{g:Nat}(c:List (Nat×Nat))(b:List Nat)(f:P.follows .mixedOrders=true)(d:(Region.noSelect ops && (b.length == ops.size) && l1 ops (qa c) b (Array.replicate ops.size false))=true)
  (h:gN P n ops Q (qa c) b E w):W P n (.region g ops true) Q E w:=λa e=>aNO b f d (h a e)
def fn(h:∀ w,Ext w0 w->N n Q E w):gN P n ops Q a_ [] E w0:=λa b w c=>h w c a b
def C'{o:Oper}(b:o.guard=none):Region.wanted o (yielded ops a.tmps)=true:=by simp[Region.wanted,b]
def US{d:Nat}{c:Op}(e:ops[i]? =some ⟨some d,c,ty,pos,af,none⟩)(f:a_ i=0)(j:∀ w,Ext w0 w->dc P E ⟨some d,c,ty,pos,af,none⟩ w v w)(g:Nat.blt d n=true)
  (h:gN P n ops Q a_ cd ((d,v)::E) w0):gN P n ops Q a_ (i::cd) E w0:=λa b =>
 ⟨_,e,.inl ⟨f,v,.inl ⟨C' rfl,λw k=>by rw[j w k n a b];exact⟨rfl,rfl⟩⟩,h _ (b.put g v)⟩⟩
def p5{d:Nat}{c:Op}(e:ops[i]? =some ⟨some d,c,ty,pos,af,none⟩)(f:a_ i=1)(j:∀ w,dc P E ⟨some d,c,ty,pos,af,none⟩ w v w)(g:Nat.blt d n=true)
  (h:gN P n ops Q a_ cd ((d,v)::E) w0):gN P n ops Q a_ (i::cd) E w0:=λa b =>
 ⟨_,e,.inr (.inl ⟨f,v,.inl ⟨C' rfl,λw=>j w n a b⟩,h _ (b.put g v)⟩)⟩
theorem nQ{d:Nat}{f:FuncId}{xs:Array Operand}{p:Array TypeId}{args:List Value}(c:ops[i]? =some ⟨some d,.call {callee:=.value (.func f),args:=xs,argTypes:=p},ty,pos,af,none⟩)(g:a_ i=0)(l:Enters P f)(k:hV E xs.toList=some args)
  (m:∀ w,Ext w0 w->Calls P f args.toArray w λe w'=>e=.returned v/\Ext w w')(j:Nat.blt d n=true)
  (h:gN P n ops Q a_ cd ((d,v)::E) w0):gN P n ops Q a_ (i::cd) E w0:=λa b =>
 ⟨_,c,.inl ⟨g,v,.inl ⟨C' rfl,λw o=>by rw[Nx l b k];exact⟨rfl,m w o⟩⟩,h _ (b.put j v)⟩⟩
def Da{o:Oper}{j:Nat}{q b:Bool}{c:Oper}{d:Nat}(f:o.guard=some (j,q))(e:ops[j]? =some c)(i:c.dst=some d)(g:look E d=some (.bool b))(h:fz n E a):Region.wanted o (yielded ops a.tmps)=(b == q):=by
 have:=h.g _ _ g;cases b<;>cases q<;>simp[Region.wanted,f,yielded,e,i,this]
theorem aEh{d:Nat}{g:Op}{j:Nat}{q b c:Bool}{k:Oper}{l:Nat}(r:ops[i]? =some ⟨some d,g,ty,pos,af,some (j,q)⟩)(s:a_ i=0)(m:ops[j]? =some k)(z:k.dst=some l)(p:look E l=some (.bool b))(t:(b == q)=c)
  (x:c=true->∀ w,Ext w0 w->dc P E ⟨some d,g,ty,pos,af,some (j,q)⟩ w v w)(u:Nat.blt d n=true)
  (h:gN P n ops Q a_ cd ((d,cP c v)::E) w0):gN P n ops Q a_ (i::cd) E w0:=λa e=>by
 have f:=Da (o:=⟨some d,g,ty,pos,af,some (j,q)⟩) rfl m z p e;rw[t]at f;refine⟨_,r,.inl ⟨s,cP c v,?_,h _ (e.put u _)⟩⟩;cases c with
 | true=>exact .inl ⟨f,λw y=>by rw[x rfl w y n a e];exact⟨rfl,rfl⟩⟩
 | false=>exact .inr ⟨f,rfl⟩
theorem aEi{d:Nat}{g:Op}{j:Nat}{q b c:Bool}{k:Oper}{l:Nat}(r:ops[i]? =some ⟨some d,g,ty,pos,af,some (j,q)⟩)(s:a_ i=1)(m:ops[j]? =some k)(y:k.dst=some l)(p:look E l=some (.bool b))(t:(b == q)=c)
  (x:c=true->∀ w,dc P E ⟨some d,g,ty,pos,af,some (j,q)⟩ w v w)(u:Nat.blt d n=true)
  (h:gN P n ops Q a_ cd ((d,cP c v)::E) w0):gN P n ops Q a_ (i::cd) E w0:=λa e=>by
 have f:=Da (o:=⟨some d,g,ty,pos,af,some (j,q)⟩) rfl m y p e;rw[t]at f;refine⟨_,r,.inr (.inl ⟨s,cP c v,?_,h _ (e.put u _)⟩)⟩;cases c with
 | true=>exact .inl ⟨f,λw=>x rfl w n a e⟩
 | false=>exact .inr ⟨f,rfl⟩
theorem c8{d:Nat}{f:FuncId}{xs:Array Operand}{p:Array TypeId}{args:List Value}{j:Nat}{q b c:Bool}{l:Oper}{m:Nat}(t:ops[i]? =some ⟨some d,.call {callee:=.value (.func f),args:=xs,argTypes:=p},ty,pos,af,some (j,q)⟩)(u:a_ i=0)(r:ops[j]? =some l)(D:l.dst=some m)(s:look E m=some (.bool b))(x:(b == q)=c)
  (A:Enters P f)(z:c=true->hV E xs.toList=some args)
  (B:c=true->∀ w,Ext w0 w->Calls P f args.toArray w λe w'=>e=.returned v/\Ext w w')(y:Nat.blt d n=true)
  (h:gN P n ops Q a_ cd ((d,cP c v)::E) w0):gN P n ops Q a_ (i::cd) E w0:=λa g=>by
 have k:=Da (o:=⟨some d,.call {callee:=.value (.func f),args:=xs,argTypes:=p},ty,pos,af,some (j,q)⟩) rfl r D s g;rw[x]at k;refine⟨_,t,.inl ⟨u,cP c v,?_,h _ (g.put y _)⟩⟩;cases c with
 | true=>exact .inl ⟨k,λw C=>by rw[Nx A g (z rfl)];exact⟨rfl,B rfl w C⟩⟩
 | false=>exact .inr ⟨k,rfl⟩
def IJ(P:Program)(n:Nat)(b:Array Oper)(o:Oper)(E:List (Nat×Value))(w:World)(K:List (Nat×Value)->World->Prop):Prop :=
 ∀(Q:Exit->Act->World->Prop),(∀ a w',K a w'->cx P n b Q [] a w')->cx P n b Q [o] E w
theorem aRC{b g:Exit->Act->World->Prop}{o:Oper}{K:Act->World->Prop}(f:∀ c a w,¬b (.panic c) a w)(i:¬LetsOut b)(h:o.wp P a w K b):o.wp P a w K g:=by
 unfold Oper.wp at *
 generalize (execOp a.eval o).run P w=r at *
 cases r with
 | ok m w' =>
  cases m<;>simp only[Oper.upon]at h ⊢ <;>
   first
    | exact h
    | exact beC h (λe j d=>by cases e<;>first|exact d|exact(f _ _ _ d).elim|exact(i d).elim)
 | halt x w'=>cases x<;>simp only[Oper.upon]at h ⊢<;>first|exact h|exact(f _ _ _ h).elim
theorem NB{o:Oper}(e:o.guard=none)(g:ops[i]? =some o){K:Act->World->Prop}{E:List (Nat×Value)}{w:World}{d:List (Nat×Value)->World->Prop}(h:IJ P n ops o E w d)(k:∀ c w' b,d c w'->fz n c b->K b w')(l:fz n E a):
  wpOp P ops (i_ (Q .normal)) i K a w:=by
 have:=h (i_ K) (λc w' j b m=>k c w' b j m) a l;unfold wpList at this;unfold wpOp;simp only[g];rw[bap (C' e)]at this ⊢;rcases this with h|⟨h,a,w,f⟩
 .exact .inl (aRC (λ_ _ _ h=>h) (λ⟨_,_,h⟩=>h) h)
 .exact f.elim
def fO{o:Oper}(f:o.guard=none)(c:ops[i]? =some o)(b:a_ i=2)(h:∀ w,Ext w0 w->IJ P n ops o E w λd w'=>Ext w0 w'/\gN P n ops Q a_ cd d w'):gN P n ops Q a_ (i::cd) E w0:=λa g =>
 ⟨_,c,.inr (.inr ⟨GE,λw j=>NB f c (h w j) (λd w' e b k=>⟨λ_=>b.1,b.2 e k⟩) g⟩)⟩
def en{o:Oper}(f:o.guard=none)(b:ops[i]? =some o)(c:a_ i=3)(h:∀ w,Ext w0 w->IJ P n ops o E w λd w'=>gN P n ops Q a_ cd d w'):gN P n ops Q a_ (i::cd) E w0:=λa g =>
 ⟨_,b,.inr (.inr ⟨GE,λw j=>NB f b (h w j) (λd w' e c k=>⟨λl=>GE,c e k⟩) g⟩)⟩
end
structure Mod(S:List Nat)(w w':World):Prop where
 os:w'.os=w.os
 tape:w'.tape=w.tape
 output:w'.output=w.output
 size:w.heap.size<=w'.heap.size
 block:∀ k,k<w.heap.size->k∉S->w'.heap[k]? =w.heap[k]?
section
variable{S pX:List Nat}{w w' w0 a8 dn:World}{B:Nat}
def Mod.O(h:Ext w w'):Mod S w w':=⟨h.os,h.tape,h.output,h.size,λk a _=>h.block k a⟩
def Mod.below{aQ:Nat}(h:Mod S w w')(a:∀ x∈S,aQ<=x)(c:aQ<=w.heap.size):Below aQ w w' :=
 ⟨h.os,h.tape,h.output,h.size,λk d=>h.block k GE λb=>by have:=a k b;omega⟩
def Ext.H(h:Ext w0 w)(b:Mod S w w')(a:∀ x∈S,w0.heap.size<=x):Ext w0 w':=Below.trans h (b.below a h.size)
def Mod.U(S:List Nat)(w:World):Mod S w w:=⟨rfl,rfl,rfl,bao _,λ_ _ _=>rfl⟩
def Mod.Y(h:Mod S w a8)(a:Mod pX a8 dn)(e:∀ q∈pX,q∈S\/w.heap.size<=q):Mod S w dn :=
 ⟨a.os.trans h.os,a.tape.trans h.tape,a.output.trans h.output,bay h.size a.size,λk b c=>(a.block k (bba b h.size) λd=>(e k d).elim c (λh=>GE)).trans (h.block k b c)⟩
def Mod.sub(h:Mod S w w')(d:∀ x∈S,x∈pX):Mod pX w w':=⟨h.os,h.tape,h.output,h.size,λk a c=>h.block k a λb=>c (d k b)⟩
def Mod.trans(h:Mod S w a8)(a:Mod S a8 dn):Mod S w dn :=
 ⟨a.os.trans h.os,a.tape.trans h.tape,a.output.trans h.output,bay h.size a.size,λk b c=>(a.block k (bba b h.size) c).trans (h.block k b c)⟩
def Mod.grown{row:Option Nat}(h:w.grownBy w' row):Mod row.toList w w' :=
 ⟨h.os,h.tape,h.output,h.size,λk a b=>h.block k a λe=>b (by rw[<-e];simp)⟩
def Mod.setRow(w:World)(b:Nat)(cs:Array Value):Mod [b] w (w.setRow b cs):=by
 refine⟨Z,Z,Z,by simp[World.setRow],λk c a=>?_⟩;simp only[World.setRow,bd3];rw[ban (by simp at a;omega)]
def Mod.setCell(w:World)(p:Addr)(u:Value):Mod [p.block] w (w.setCell p u):=by
 refine⟨Z,Z,Z,by simp[World.setCell],λk b a=>?_⟩;exact Below.heap_setCell _ _ _ _ (by simpa using a)
def aO.H{g:Nat}{cur:List Value}{e:TypeId}{a:Nat×Nat}(h:aO w g cur e a)(c:Mod S w w')(b:g∉S):aO w' g cur e a:=by
 unfold aO at *
 rw[c.block g (baU.1 h).1 b];exact h
def τ.aM.H{b:Type}{R:τ b}{E by_:Nat}{f:List Nat}{A:Option Addr}{c:Nat}{l:List b}(h:R.aM E by_ w B f A c l)(e:Mod S w w')(d:∀ x∈f,x∉S):R.aM E by_ w' B f A c l :=
 h.be λg a=>e.block g (h.lt g a).2 (d g a)
end
section
variable{P:Program}{n:Nat}{E df:List (Nat×Value)}{a:Act}{w w' w0 a8:World}{Q:Exit->Act->World->Prop}{ops:Array Oper}{v:Value}
variable{d:Option Nat}{ty:TypeId}{pos:String}{af:Array Edge}{g:Option (Nat×Bool)}{x y z:Operand}{t:TypeId}{rest:List Oper}
theorem afw{b p:Nat}{cur cs:List Value}{e:TypeId}(d:aO w b cur e (0,0))(f:v.cells=cs.toArray)(g:fA P t cs.length)(a:cs.all (·.oneCell')=true)(c:p+cs.length<=cur.length):
  (storeVar t ⟨b,p,none⟩ v).run P w=.ok () (w.setRow b (cur.take p++cs++cur.drop (p+cs.length)).toArray):=by
 unfold storeVar;simp only[f,bar,g w,bal,bbY,ne_eq,bfG,bbE];have:=run_storeCells_at P b p e cs 0 cur.toArray w d (by simpa using c) (λv h=>ba8.1 a v h);simpa using this
theorem st{b p:Nat}{cur cs new:List Value}{e:TypeId}(o:ev E x=some (.pointer (some ⟨b,p,none⟩)))(i:ev E y=some v)(d:aO w b cur e (0,0))(l:v.cells=cs.toArray)(m:fA P t cs.length)(j:cs.all (·.oneCell')=true)(k:Nat.ble (p+cs.length) cur.length=true)
  (g:cur.take p++cs++cur.drop (p+cs.length)=new)
  (h:∀ c,Mod [b] w c->aO c b new e (0,0)->cx P n ops Q rest E c):cx P n ops Q (⟨none,.store t x y,ty,pos,af,none⟩::rest) E w:=by
 refine us (w':=w.setRow b new.toArray) (λn a f=>?_) (h _ (Mod.setRow w b _) (by rw[<-g];exact d.setRow _));have:=afw (P:=P) d l m j (bcc k);rw[g]at this;simp only[execOp,f.ev o,f.ev i,Instr.storeAt,Instr.sureAddr,bar,bat,bal,this]
def bi{b:Builtin}{xs:Array Operand}{c:Array TypeId}{vs:List Value}(f:hV E xs.toList=some vs)(h:∀ cs,(builtin b c ty cs vs.toArray).run P w=.ok (.value v) w'):
  dc P E ⟨d,.call {callee:=.builtin b,args:=xs,argTypes:=c},ty,pos,af,g⟩ w v w':=λn a e=>by
 have i:xs.map a.eval=vs.toArray:=by rw[<-e.hV f];apply bbQ;simp
 simp only[execOp,resolve,invoke,i,bar,bat,bal,h]
theorem bY{A:Option Addr}{a b e:Nat}(c:P.underlying t=some (.slice e))(h:ev E x=some (.slice A a b)):dc P E ⟨d,.call {callee:=.builtin .len,args:=#[x],argTypes:=#[t]},ty,pos,af,g⟩ w (.int .i64 (a:Int)) w :=
 bi (vs:=[.slice A a b]) (by simp only[hV,h]) λcs=>by
  have f:P.underlying t=some (.slice (P.elem t)):=by simp[Program.elem,c]
  have:=run_len_slice (P:=P) w t ty A a b f;simp only[builtin,bar,this,bal,bat];rfl
def bO{f:FuncId}{fn:Func}(h:P.funcs[f]? =some fn)(a:(fn.name == "runtime.NumGoroutine")=false:=by kernel_rfl)(b:fn.body.isNone=false:=by kernel_rfl):Enters P f:=⟨fn,h,a,b⟩
def Sg{o:Oper}{c:Bool}(f:∀ a,fz n E a->Region.wanted o (yielded ops a.tmps)=c)(d:c=true->∀ a,fz n E a->o.wp P a w (wpList P ops Q rest) Q)(e:c=false->∀ a,fz n E a->wpList P ops Q rest (a.put o.dst undef) w):cx P n ops Q (o::rest) E w:=λa b=>by
 unfold wpList;rw[f a b];cases c with
 | true=>rw[bap rfl];exact .inl (d Z a b)
 | false=>rw[ban GP];exact e Z a b
theorem aQF{d:Nat}{g:Op}{j:Nat}{q b c:Bool}{i:Oper}{l:Nat}(m:ops[j]? =some i)(s:i.dst=some l)(p:look E l=some (.bool b))(f:(b == q)=c)
  (r:c=true->dc P E ⟨some d,g,ty,pos,af,some (j,q)⟩ w v w)(k:Nat.blt d n=true)(h:cx P n ops Q rest ((d,cP c v)::E) w):cx P n ops Q (⟨some d,g,ty,pos,af,some (j,q)⟩::rest) E w :=
 Sg (c:=c) (λa e=>by rw[Da (o:=⟨some d,g,ty,pos,af,some (j,q)⟩) rfl m s p e,f])
  (λf a e=>by unfold Oper.wp;rw[r f n a e];subst f;exact h _ (e.put k v)) (λf a e=>by subst f;exact h _ (e.put k undef))
theorem aQE{d:Nat}{f:FuncId}{xs:Array Operand}{A:Array TypeId}{args:List Value}{j:Nat}{q b c:Bool}{k:Oper}{m:Nat}(p:ops[j]? =some k)(z:k.dst=some m)(s:look E m=some (.bool b))(g:(b == q)=c)
  (u:Enters P f)(t:c=true->hV E xs.toList=some args)(x:c=true->Calls P f args.toArray w λe w'=>e=.returned v/\Ext w w')(l:Nat.blt d n=true)
  (h:∀ w',Ext w w'->cx P n ops Q rest ((d,cP c v)::E) w'):cx P n ops Q (⟨some d,.call {callee:=.value (.func f),args:=xs,argTypes:=A},ty,pos,af,some (j,q)⟩::rest) E w :=
 Sg (c:=c) (λa i=>by rw[Da (o:=⟨some d,_,ty,pos,af,some (j,q)⟩) rfl p z s i,g])
  (λg a i=>by unfold Oper.wp;rw[Nx u i (t g)];exact(x g).mono λe w' ⟨r,y⟩=>by subst r;subst g;exact h w' y _ (i.put l v)) (λg a i=>by subst g;exact h w (Ext.U w) _ (i.put l undef))
theorem iC{d:Option Nat}{b:Op}{j:Nat}{q:Bool}{c:Oper}{f:Nat}(g:ops[j]? =some c)(l:c.dst=some f)(i:look E f=some (.bool q))(h:cx P n ops Q (⟨d,b,ty,pos,af,none⟩::rest) E w):cx P n ops Q (⟨d,b,ty,pos,af,some (j,q)⟩::rest) E w:=λa e=>by
 have h:=h a e;have k:=Da (o:=⟨d,b,ty,pos,af,some (j,q)⟩) (q:=q) rfl g l i e;unfold wpList at h ⊢;rw[bap (C' rfl)]at h;rw[k,bap (by cases q<;>rfl)];exact h
def iJ{x:Operand}{b c:Bool}(h:ev E x=some (.bool b))(e:b=c):ev E x=some (.bool c):=by rw[h,e]
def A3{e:Fn}{b cs:Array Operand}{l m:List Value}(f:hV E b.toList=some l)(h:hV E cs.toList=some m):dc P E ⟨d,.makeFunc e b cs,ty,pos,af,g⟩ w (.func e l.toArray m.toArray) w:=λn a c=>by
 have i:b.map a.eval=l.toArray:=by rw[<-c.hV f];apply bbQ;simp
 have j:cs.map a.eval=m.toArray:=by rw[<-c.hV h];apply bbQ;simp
 simp only[execOp,i,j,Instr.makeFunc,bar,bat,bal]
def yO(E:List (Nat×Value)):List (Nat×Operand)->Option (List (Nat×Value))
 | []=>some []
 | (i,x)::r=>match ev E x with
  | some v=>match yO E r with
   | some l=>some ((i,v)::l)
   | none=>none
  | none=>none
theorem fz.yO(h:fz n E a):∀ {l:List (Nat×Operand)} {vs:List (Nat×Value)},yO E l=some vs->l.map (λ(i,x)=>(i,a.eval x))=vs
 | [],vs,e=>by simp only[Proofs.YtooonebcoaleiaaGreat.yO]at e;exact bae e
 | (i,x)::r,vs,e=>by
  simp only[Proofs.YtooonebcoaleiaaGreat.yO]at e;cases c:Proofs.YtooonebcoaleiaaGreat.ev E x with
  | none=>rw[c]at e;cases e
  | some v =>
   rw[c]at e;simp only at e;cases b:Proofs.YtooonebcoaleiaaGreat.yO E r with
   | none=>rw[b]at e;cases e
   | some l =>
    rw[b]at e;simp only at e;obtain rfl:=bae e;rw[ba5,fz.yO h b];simp only[h.ev c]
def kg{b:Array (Nat×Operand)}{l:List (Nat×Value)}(f:yO E b.toList=some l)(h:(Instr.build t l.toArray).run P w=.ok v w):dc P E ⟨d,.build t b,ty,pos,af,g⟩ w v w:=λn a e=>by
 have c:b.map (λ(i,x)=>(i,a.eval x))=l.toArray:=by rw[<-e.yO f];apply bbQ;simp
 simp only[execOp,c,bar,h,bal,bat]
theorem cT{f:Array (Nat×Operand)}{l:List (Nat×Value)}{d k e:Nat}{cs:List Value}(o:yO E f.toList=some l)(p:∀ w,(Instr.buildSlice t k l.toArray).run P w=.ok (.slice (some ⟨w.heap.size,0,none⟩) k k) (w.alloc (.cells cs.toArray e)))(m:Nat.blt d n=true)
  (h:∀ c b,Ext w c->w.heap.size<=b->aO c b cs e (0,0)->cx P n ops Q rest ((d,.slice (some ⟨b,0,none⟩) k k)::E) c):cx P n ops Q (⟨some d,.buildSlice t k f,ty,pos,af,none⟩::rest) E w:=by
 refine i' (w':=w.alloc (.cells cs.toArray e)) (v:=.slice (some ⟨w.heap.size,0,none⟩) k k) (λn a j=>?_) m (h _ _ ((baL _ w).alloc (bao _) _) (bao _) (aO.new w cs e (0,0)));have g:f.map (λ(i,x)=>(i,a.eval x))=l.toArray:=by rw[<-j.yO o];apply bbQ;simp
 simp only[execOp,g,bar,p,bal,bat]
def fv(A:Option Addr):Nat:=match A with|some a=>a.block|none=>0
def j7(A:Option Addr):Nat:=match A with|some a=>a.off|none=>0
def τ.aF.Y{a:Type}{R:τ a}{by_ c:Nat}{A:Option Addr}{l:List a}(h:R.aF by_ w A c l)(d:0<l.length):A=some ⟨fv A,j7 A,none⟩:=by
 obtain⟨b,o,rfl,_⟩:=h.d9 d;rfl
def τ.aF.O{a:Type}{R:τ a}{by_ c:Nat}{A:Option Addr}{l:List a}(h:R.aF by_ w A c l)(b:0<l.length):R.aF by_ w (some ⟨fv A,j7 A,none⟩) c l:=by
 rw[<-h.Y b];exact h
def bD{e:TypeId}{size a m b o:Nat}{h:IntKind}{i:Int}{A:Option Addr}(j:Nat)(f:P.underlying t=some (.slice e))(p:fA P e size)(q:ev E x=some (.slice A a m))(k:ev E y=some (.int h i))(n:A=some ⟨b,o,none⟩)(c:i=(j:Int))(l:j<a):
  dc P E ⟨d,.indexAddr t x y,ty,pos,af,g⟩ w (.pointer (some ⟨b,o+j*size,none⟩)) w:=by subst n;exact QX j f p q k c l
def cg{a:Type}{l:List a}{j:Nat}{u:a}(h:j<l.length):l[j]? =some (l.getD j u):=by rw[baa,bac h];rfl
section
variable{α:Type}{R:τ α}{by_ c b o j:Nat}{l:List α}{cells:α->List Value}{q u:α}
def τ.aF.C(r:∀ {w cs a},R.bv w cs a->cs=cells a)(h:R.aF by_ w (some ⟨b,o,none⟩) c l)(k:Nat)(d:l[j]? =some q)(s:(cells q)[k]? =some v)(g:fp P t false):nJ P w t ⟨b,o+j*R.size+k,none⟩ v:=by
 obtain⟨x,u,e,p⟩:=h.d9 (by have:=(bab.1 d).1;omega);injection e with e;injection e with m n;subst m;subst n
 obtain⟨es,i,f⟩:=p j q d;rw[r i]at f;exact nJ.one g (by rw[bdh];exact f k v s)
def τ.aF.H(f:∀ {w cs a},R.bv w cs a->cs=cells a)(h:R.aF by_ w (some ⟨b,o,none⟩) c l)(d:l[j]? =some q)(g:(cells q)[0]? =some v)(e:fp P t false):nJ P w t ⟨b,o+j*R.size,none⟩ v:=h.C f 0 d g e
theorem τ.aF.G(s:∀ {w cs a},R.bv w cs a->cs=cells a)(h:R.aF by_ w (some ⟨b,o,none⟩) c l)(d:l[j]? =some q)(g:fp P t true)(u:fA P t (cells q).length):nJ P w t ⟨b,o+j*R.size,none⟩ (.agg (cells q).toArray):=by
 obtain⟨y,x,e,r⟩:=h.d9 (by have:=(bab.1 d).1;omega);injection e with e;injection e with n p;subst n;subst p
 obtain⟨es,i,f⟩:=r j q d;rw[s i]at f;exact nJ.agg g u λk v m=>by rw[bdh];exact f k v m
theorem τ.aF.part(x:∀ {w cs a},R.bv w cs a->cs=cells a)(h:R.aF by_ w (some ⟨b,o,none⟩) c l)(k:Nat){ds:List Value}(f:l[j]? =some q)(y:((cells q).drop k).take ds.length=ds)(m:fp P t true)(z:fA P t ds.length):nJ P w t ⟨b,o+j*R.size+k,none⟩ (.agg ds.toArray):=by
 obtain⟨B,A,e,u⟩:=h.d9 (by have:=(bab.1 f).1;omega);injection e with e;injection e with r s;subst r;subst s
 obtain⟨es,n,g⟩:=u j q f;rw[x n]at g;refine nJ.agg m z λi v d=>?_;rw[bdh,bdh];refine g _ v ?_;rw[<-y]at d;have p:=(bab.1 d).1;rw[baf]at p
 rwa [be5 GE,bbm]at d
end
def aO.all{b:Nat}{cur:List Value}{e:TypeId}{c:Nat×Nat}(h:aO w b cur e c)(d:fp P t true)(f:fA P t cur.length):nJ P w t ⟨b,0,none⟩ (.agg cur.toArray):=
 nJ.agg d f λj v a=>by rw[h.cell,bbi,a]
def aO.Y{b p:Nat}{cur:List Value}{e:TypeId}{a:Nat×Nat}(h:aO w b cur e a)(cs:List Value)(c:fp P t true)(d:fA P t cs.length)(f:(cur.drop p).take cs.length=cs):nJ P w t ⟨b,p,none⟩ (.agg cs.toArray):=h.agg c d f
end
open Tryz

section
variable{P:Program}{n:Nat}{E df:List (Nat×Value)}{a:Act}{w w' w0 a8:World}{Q:Exit->Act->World->Prop}{ops:Array Oper}{v:Value}
def mb{x:Int}(h: -9223372036854775808<=x/\x<=9223372036854775807):IntKind.i64.wrap x=x:=beg x h
section
variable{d:Option Nat}{ty:TypeId}{pos:String}{af:Array Edge}{g:Option (Nat×Bool)}{x y:Operand}{t u:TypeId}{k:IntKind}{i j r:Int}
def oa(c:ev E x=some (.int k i))(a:ev E y=some (.int k j))(h:k.wrap (i+j)=i+j)(b:i+j=r):dc P E ⟨d,.binOp .add t x y u,ty,pos,af,g⟩ w (.int k r) w:=by subst b;exact bad c a h
def Gu(c:ev E x=some (.int k i))(a:ev E y=some (.int k j))(h:k.wrap (i*j)=i*j)(b:i*j=r):dc P E ⟨d,.binOp .mul t x y u,ty,pos,af,g⟩ w (.int k r) w:=by subst b;exact mD c a h
end
def pC{p:Nat->Prop}{k:Nat}(h:∀ j,j<k->p j)(b:p k):∀ j,j<k+1->p j:=λj a=>(bcS.1 a).elim (h j) λe=>e ▸ b
def ew{w:World}{cs:List Value}{a:Int}(h:bN.bv w cs a):cs=[.int .i64 a]:=bcs (show cs=[.int .i64 a]/\gg a from h)
def amJ{w:World}{cs:List Value}{a:Bool}(h:xO.bv w cs a):cs=[.bool a]:=bcs (show cs=[.bool a]/\True from h)
def b6{x:Operand}{r:List Operand}{l:List Value}(h:ev E x=some v)(a:hV E r=some l):hV E (x::r)=some (v::l):=by simp only[hV,h,a]
def Hu{t:Nat}{k:IntKind}{i j:Int}(h:look E t=some (.int k i))(e:i=j):look E t=some (.int k j):=by rw[h,e]
section
variable{c:Operand}{x y:Code}{i j:Int}
def c7(d:ev E c=some (.bool (decide (i<j))))(a:i<j->W P n x Q E w)(b:¬i<j->W P n y Q E w):W P n (.cond c x y) Q E w:=dB d (λh=>a (bbx h)) (λh=>b (bcV h))
def xp(d:ev E c=some (.bool (decide (i<=j))))(a:i<=j->W P n x Q E w)(b:¬i<=j->W P n y Q E w):W P n (.cond c x y) Q E w:=dB d (λh=>a (bbx h)) (λh=>b (bcV h))
def j1(d:ev E c=some (.bool (i == j)))(a:i=j->W P n x Q E w)(b:¬i=j->W P n y Q E w):W P n (.cond c x y) Q E w:=dB d (λh=>a (by simpa using h)) (λh=>b (by simpa using h))
def fr(d:ev E c=some (.bool (i != j)))(a:¬i=j->W P n x Q E w)(b:i=j->W P n y Q E w):W P n (.cond c x y) Q E w:=dB d (λh=>a (by simpa using h)) (λh=>b (by simpa using h))
end
end
def dU(P:Program){a:Type}(R:τ a)(t e:TypeId)(by_:Nat):Prop :=
 ∃(i:TypeInfo) (z:Value),P.underlying t=some (.slice e)/\P.info? e=some i/\i.zero=some z/\i.size=R.size/\i.bytes=by_/\z.cells.size=R.size/\0<R.size/\∀(j:Nat) u,z.cells[j]? =some u->R.raw j u
section
variable{P:Program}{n:Nat}{E df:List (Nat×Value)}{a:Act}{w w' w0 a8:World}{Q:Exit->Act->World->Prop}{ops:Array Oper}{v:Value}
variable{d:Option Nat}{ty:TypeId}{pos:String}{af:Array Edge}{g:Option (Nat×Bool)}{x y z:Operand}{t:TypeId}{rest:List Oper}
theorem dU.O{h:Type}{R:τ h}{t e by_ k:Nat}{z:Value}(c:P.underlying t=some (.slice e))(a:(P.info? e).map (λi=>(i.zero,i.size,i.bytes))=some (some z,k,by_))(b:R.size=k)(d:z.cells.size=k)(f:0<k)(g:∀(j:Nat) u,z.cells[j]? =some u->R.raw j u):dU P R t e by_:=by
 cases I:P.info? e with
 | none=>rw[I]at a;cases a
 | some i =>
  rw[I]at a;simp only[bbR,bcD,be3]at a;exact⟨i,z,c,I,a.1,by rw[a.2.1,b],a.2.2,by rw[d,b],by rw[b];exact f,g⟩
def CZ:∀(j:Nat) u,(Value.int .i64 0).cells[j]? =some u->bN.raw j u:=by
 intro j u a;have a:(#[(.int .i64 0:Value)]:Array Value)[j]? =some u:=a
 match j,a with
 | 0,a=>exact⟨0,(bae a).symm⟩
 | j+1,a=>simp at a
def afk:∀(j:Nat) u,(Value.bool false).cells[j]? =some u->xO.raw j u:=by
 intro j u a;have a:(#[(.bool false:Value)]:Array Value)[j]? =some u:=a
 match j,a with
 | 0,a=>exact⟨false,(bae a).symm⟩
 | j+1,a=>simp at a
def ZQ(P:Program)(n:Nat)(c:Code)(Q:Exit->Act->World->Prop)(k:Nat)(E:List (Nat×Value))(w:World):Prop:=∀ a,fz n E a->Code.rounds P c Q k a w
def EU{c:Code}(k:Nat)(h:ZQ P n c Q k E w):W P n (.loop c) Q E w:=λa b=>wp_loop_rounds k (h a b)
def kC{c:Code}{k:Nat}(h:W P n c (Exit.then (Code.rounds P c Q k) Q) E w):ZQ P n c Q (k+1) E w:=λa b=>h a b
def om{c:Code}{k:Nat}(h:ZQ P n c Q k E w):N n (Exit.then (Code.rounds P c Q k) Q) E w:=h
def aO.G{a:Type}{R:τ a}{by_ b:Nat}{cs:List Value}{e:TypeId}{c:Nat×Nat}{q:a}(d:aO w b cs e c)(h:R.bv w cs q)(i:by_<=140737488355328):R.aF by_ w (some ⟨b,0,none⟩) 1 [q]:=by
 refine⟨bao _,GP,by simpa using i,(λh=>by cases h),[cs],⟨h,trivial⟩,?_⟩;have f:=R.len h;refine⟨by simp[f],λ_=>⟨b,0,rfl,λj u g=>?_⟩⟩;rw[bbi,d.cell];simpa using g
theorem aO.M{c:Type}{R:τ c}{by_ b:Nat}{cs:List Value}{e:TypeId}{f:Nat×Nat}{k:List c}(g:aO w b cs e f)(ess:List (List Value))(d:ess.flatten=cs)(h:dX (λes a=>R.bv w es a) ess k)(p:k.length<=9223372036854775807)(o:k.length*by_<=140737488355328):R.aF by_ w (some ⟨b,0,none⟩) k.length k:=by
 refine⟨bao _,p,o,(λh=>by cases h),ess,h,?_⟩;have i:∀ x∈ess,x.length=R.size:=λx n=>by obtain⟨a,l⟩:=h.left x n;exact R.len l
 refine⟨by rw[Eh i,h.length],λ_=>⟨b,0,rfl,λj u m=>?_⟩⟩;rw[bbi,g.cell,<-d];exact m
theorem aO.K{f:Type}{R:τ f}{by_ b B:Nat}{cs:List Value}{e:TypeId}{k:List f}(i:aO w b cs e (0,0))(ess:List (List Value))(c:ess.flatten=cs)(h:dX (λes a=>R.bv w es a) ess k)(s:k.length<=9223372036854775807)(r:k.length*by_<=140737488355328)(g:0<R.size)(m:B<=b)(n:R.Y:=by exact τ.nc):
  R.aM e by_ w B (τ.ai (some ⟨b,0,none⟩)) (some ⟨b,0,none⟩) k.length k:=by
 have l:∀ x∈ess,x.length=R.size:=λx q=>by obtain⟨a,o⟩:=h.left x q;exact R.len o
 have d:cs.length=k.length*R.size:=by rw[<-c,Eh l,h.length]
 refine τ.aM.E5 n h r ⟨by rw[c,d],.inr ⟨b,k.length,cs.toArray,rfl,m,i,bao _,s,by simpa using d,?_,λj u p=>?_⟩⟩
 .rw[c];exact baE (by simp[d])
 .exact Mb h g (by rw[c];simpa using p)
theorem ap{u:Type}{R:τ u}{e by_ g:Nat}{A m:Option Addr}{c c2 d:Nat}{l k:List u}(Y:dU P R t e by_)(p:R.Dr)(h:R.aM e by_ w g (τ.ai A) A c l)(G:R.aF by_ w m c2 k)
  (W:ev E x=some (.slice A l.length c))(X:ev E y=some (.slice m k.length c2))(U:l.length+k.length<=9223372036854775807)(uC:(l.length+k.length)*by_<=140737488355328)(se:g<=w.heap.size)(T:Nat.blt d n=true)
  (M:∀ f b j,Mod (τ.ai A) w f->R.aM e by_ f g (τ.ai b) b j (l++k)->(∀ q∈τ.ai b,q∈τ.ai A\/w.heap.size<=q)->(b=none↔A=none/\k=[])->cx P n ops Q rest ((d,.slice b (l++k).length j)::E) f):
  cx P n ops Q (⟨some d,.call {callee:=.builtin .append,args:=#[x,y],argTypes:=#[t,t]},ty,pos,af,none⟩::rest) E w:=λa o=>by
 obtain⟨i,z,N,O,S,ly,C,D,K,L⟩:=Y;obtain⟨s1,s2,Kr,Xu,ess,B,v⟩:=G;obtain⟨s,nu⟩:=τ.aru ess;refine τ.aRB Z x y g t e i z N O S ly C D K L (τ.ai A) A c l h m k.length c2 k (ess.map λes=>(([]:List Nat),es)) (τ.dX.plain p.1 B) Z (by rw[nu];exact v) (by rw[s,baP];exact h.nodup) U uC se Z (o.ev W) (o.ev X) ?_;rintro b j f' f ⟨r,lH,Ba,F,H,aa⟩;obtain rfl:=r.aEJ p.2;have V:Mod (τ.ai A) w f:=by
  have:=Mod.grown lH
  rwa [τ.W6]at this
 have:=M f b j V r (λq I=>by
  rcases F q I with h|h|h
  .exact .inl h
  .rw[s]at h;cases h
  .exact .inr GE) (by rw[H];exact and_congr_right λ_=>List.length_eq_zero_iff)
 rw[bam]at this;exact this _ (o.put T _)
theorem Own.ai8{i e size:Nat}{G:Nat->Value->Prop}{b c n:Nat}{xs:List Value}(h:Own w i e size G (.slice (some ⟨b,0,none⟩) n c) n xs):∃ cur:Array Value,w.heap[b]? =some (.cells cur e (0,0))/\cur.size=c*size/\cur.toList.take (n*size)=xs:=by
 obtain⟨o,f⟩:=h;rcases f with⟨f,_⟩|⟨q,p,cur,a,s,j,d,r,l,g,m⟩
 .cases f
 .injection a with a _ k
  injection a with a
  injection a with a
  subst a;subst k;exact⟨cur,j,l,g⟩
theorem so{g:Type}{R:τ g}{e by_ B j i:Nat}{A:Option Addr}{c:Nat}{l:List g}{q q':g}{p:Addr}{u:Value}(h:R.aM e by_ w B (τ.ai A) A c l)(K:R.Dr)(f:l[i]? =some q)(k:Nat.blt j R.size=true)(T:ev E x=some (.pointer (some p)))(N:p=⟨fv A,j7 A+i*R.size+j,none⟩)(D:ev E y=some u)
  (S:∀(d:World) cs,R.bv w cs q->R.bv d (cs.set j u) q')(F:u.oneCell'=true)(v:u.cells=#[u])(O:fA P t 1)
  (G:∀ d,Mod (τ.ai A) w d->R.aM e by_ d B (τ.ai A) A c (l.set i q')->cx P n ops Q rest E d):cx P n ops Q (⟨none,.store t x y,ty,pos,af,none⟩::rest) E w:=by
 obtain⟨b,rfl⟩:=h.block (by have:=(bab.1 f).1;omega);rw[bej]at k;have z:p=⟨b,i*R.size+j,none⟩:=by rw[N];simp[fv,j7]
 subst z;have W:=h.aO2 K f k (λcs L=>S _ cs L);have o:=(bab.1 f).1;have V:∃ m,w.cell? ⟨b,i*R.size+j,none⟩=some m:=by
  obtain⟨_,Y,_,_,r,X⟩:=h;have H:=r.1;rw[r.cell _ (by rw[bby i];exact bba (by rw[bby];exact(by omega:i*R.size+j<i*R.size+R.size)) (by rw[<-bb5];exact ba6 _ o))];exact⟨_,bac (by rw[H];exact bba (by omega:i*R.size+j<i*R.size+R.size) (by rw[<-bb5];exact ba6 _ o))⟩
 obtain⟨m,C⟩:=V;have M:=h.free (i*R.size+j);refine us (w':=w.setCell ⟨b,i*R.size+j,none⟩ u) (λn a s=>?_) (G _ (Mod.setCell w ⟨b,i*R.size+j,none⟩ u) W);have U:(storeVar t ⟨b,i*R.size+j,none⟩ u).run P w=.ok () (w.setCell ⟨b,i*R.size+j,none⟩ u):=by
  unfold storeVar;simp only[v,bar,O w,bal,bbY,baj,baq,ne_eq,bbi,bfG,bbE,storeCells];have:(⟨b,i*R.size+j,none⟩:Addr).add 0=⟨b,i*R.size+j,none⟩:=rfl;rw[this,run_store P w _ u _ F,C];simp only[M,ba0,bbE,bal,bat]
 simp only[execOp,s.ev T,s.ev D,Instr.storeAt,Instr.sureAddr,bar,bat,bal,U]
theorem T8{e u:TypeId}{q:Option Addr}(c:P.underlying t=some (.pointer e))(i:ev E x=some (.pointer q))(f:ev E y=some (.pointer none)):dc P E ⟨d,.binOp .eql t x y u,ty,pos,af,g⟩ w (.bool q.isNone) w:=λn a b=>by
 have h:P.underlying t=some (.pointer (P.pointee t)):=by simp[Program.pointee,c]
 have:(eqGuard .eql t x y (.pointer q) (.pointer none)).run P w=.ok () w:=by cases x<;>cases y<;>rfl
 simp only[execOp,b.ev i,b.ev f,bar,this,run_eql_pointer_nil w t q h,bal,bat]
def yp(P:Program){d:Type}[DecidableEq d](c:d->List Value)(t:TypeId):Prop:=∀(a b:d) (w:World),(binOp .eql t (.agg (c a).toArray) (.agg (c b).toArray)).run P w=.ok (.bool (decide (a=b))) w/\(binOp .neq t (.agg (c a).toArray) (.agg (c b).toArray)).run P w=.ok (.bool (!decide (a=b))) w
def alj{o:BinOp}{xs a:Array Value}(h:P.eqGuardType P.depth t=false):(eqGuard o t x y (.agg xs) (.agg a)).run P w=.ok () w:=by
 cases o<;>simp[eqGuard,h]
def aiR{c:Type}[DecidableEq c]{b:c->List Value}{u:TypeId}{p q:c}(j:yp P b t)(h:P.eqGuardType P.depth t=false)(i:ev E x=some (.agg (b p).toArray))(f:ev E y=some (.agg (b q).toArray)):dc P E ⟨d,.binOp .eql t x y u,ty,pos,af,g⟩ w (.bool (decide (p=q))) w:=λn a e=>by
 simp only[execOp,e.ev i,e.ev f,bar,alj h,(j p q w).1,bal,bat]
def Cb{c:Type}[DecidableEq c]{b:c->List Value}{u:TypeId}{p q:c}(j:yp P b t)(h:P.eqGuardType P.depth t=false)(i:ev E x=some (.agg (b p).toArray))(f:ev E y=some (.agg (b q).toArray)):dc P E ⟨d,.binOp .neq t x y u,ty,pos,af,g⟩ w (.bool (!decide (p=q))) w:=λn a e=>by
 simp only[execOp,e.ev i,e.ev f,bar,alj h,(j p q w).2,bal,bat]
def run_equalIn_bool(d:Nat){p q:Bool}(a:P.underlying t=some .bool):(Op.equalIn (d+1) t (.bool p) (.bool q)).run P w=.ok (p == q) w:=by simp[Op.equalIn,bbw a]
def run_equal_bool{p q:Bool}(a:P.underlying t=some .bool):(Op.equal t (.bool p) (.bool q)).run P w=.ok (p == q) w:=run_equalIn_bool 9999 a
theorem T9{u:TypeId}{p q:Bool}(c:P.underlying t=some .bool)(h:ev E x=some (.bool p))(e:ev E y=some (.bool q)):dc P E ⟨d,.binOp .eql t x y u,ty,pos,af,g⟩ w (.bool (p == q)) w:=λn a b=>by
 have:(eqGuard .eql t x y (.bool p) (.bool q)).run P w=.ok () w:=by cases x<;>cases y<;>rfl
 have f:(binOp .eql t (.bool p) (.bool q)).run P w=.ok (.bool (p == q)) w:=by
  simp only[binOp,bar,run_equal_bool c,bal,bat]
 simp only[execOp,b.ev h,b.ev e,bar,this,f,bal,bat]
theorem azb{u:TypeId}{p q:Bool}(c:P.underlying t=some .bool)(h:ev E x=some (.bool p))(e:ev E y=some (.bool q)):dc P E ⟨d,.binOp .neq t x y u,ty,pos,af,g⟩ w (.bool (p != q)) w:=λn a b=>by
 have:(eqGuard .neq t x y (.bool p) (.bool q)).run P w=.ok () w:=by cases x<;>cases y<;>rfl
 have f:(binOp .neq t (.bool p) (.bool q)).run P w=.ok (.bool (p != q)) w:=by
  simp only[binOp,bar,run_equal_bool c,bal,bat];rfl
 simp only[execOp,b.ev h,b.ev e,bar,this,f,bal,bat]
def JO{u i:Value}(f:ev E x=some u)(c:ev E y=some i)(e:(Instr.index t u i).run P w=.ok v w):dc P E ⟨d,.index t x y,ty,pos,af,g⟩ w v w:=λn a b=>by
 simp only[execOp,b.ev f,b.ev c,bar,e,bal,bat]
theorem qh{k:IntKind}{i j:Int}{a:Array TypeId}(c:ev E x=some (.int k i))(b:ev E y=some (.int k j)):dc P E ⟨d,.call {callee:=.builtin .min,args:=#[x,y],argTypes:=a},ty,pos,af,g⟩ w (.int k (min i j)) w :=
 bi (vs:=[.int k i,.int k j]) (by simp only[hV,c,b]) λcs=>by
  have:=run_min_int2 (P:=P) (w:=w) a ty k k i j;simp only[builtin,bar,this,bal,bat];congr 3;rw[Int.min_def];split<;>split<;>omega
theorem mx{k:IntKind}{i j:Int}{a:Array TypeId}(c:ev E x=some (.int k i))(b:ev E y=some (.int k j)):dc P E ⟨d,.call {callee:=.builtin .max,args:=#[x,y],argTypes:=a},ty,pos,af,g⟩ w (.int k (max i j)) w :=
 bi (vs:=[.int k i,.int k j]) (by simp only[hV,c,b]) λcs=>by
  have:=run_max_int2 (P:=P) (w:=w) a ty k k i j;simp only[builtin,bar,this,bal,bat];congr 3;rw[Int.max_def];split<;>split<;>omega
end
open Tryz

section
variable{P:Program}{n:Nat}{E:List (Nat×Value)}{a:Act}{w w0:World}{Q:Exit->Act->World->Prop}{ops:Array Oper}{a_:Nat->Nat}
def C0(r:List Nat)(l:Array Bool):Array Bool:=match r with | []=>l|i::r=>C0 r (l.setIfInBounds i true)
def I'(a:Array Oper)(b:Nat->Nat):List Nat->Array Bool->Bool
 | [],_=>true
 | i::r,l=>(match b i with
   | 0=>Region.free .any a l i && (Region.ready .any a l).contains i && TY a b l i
   | 1=>Region.free .any a l i && (Region.ready .any a l).contains i
   | _=>false) && I' a b r (l.setIfInBounds i true)
def aiI(a:Array Oper)(b:Nat->Nat)(r:List Nat):Nat->List Nat->Array Bool->Bool
 | 0,R,l=>R.isEmpty && l1 a b r l
 | f+1,R,l=> !(Region.ready .any a l).isEmpty && (Region.ready .any a l).all λj=>R.contains j && Nat.beq (b j) 2 && aiI a b r f (R.erase j) (l.setIfInBounds j true)
theorem Z1(t:Region.noSelect ops=true)(j:∀ c a w,¬Q (.panic c) a w){y:Exit->Act->World->Prop}{m:Nat}:∀(r:List Nat) (l:Array Bool) (a:Act) (b:World),l.size=ops.size->I' ops a_ r l=true->x_ P ops y a_ r a b->
  (∀ a b,(∀ w,Ext b w->y .normal a w)->Gl P ops Q a_ m (C0 r l) a b)->Gl P ops Q a_ (r.length+m) l a b
 | [],l,a,b,_,_,h,g=>by rw[baq,bbi];exact g a b h
 | i::r,l,a,b,az,d,h,g=>by
  rw[baj,Nat.succ_add];obtain⟨o,f,h⟩:=h;have x:=bdo t;rcases h with⟨e,v,I,n⟩|⟨e,v,I,n⟩|⟨e,h⟩
  .simp only[I',e,bai]at d;obtain⟨⟨⟨q,s⟩,A⟩,d⟩:=d;obtain⟨R,D,E,z⟩:=TZ az A;exact UO f GE x j (λb a=>xi P ops b o v a) (λ_ _ h=>h) (λ_ _ _ h p u=>h.of_same p u) (λ_ _ _ C h=>h.on C) R l D (.inr z) _ _ _ _ E (λ_ h=>h) (bcb f q) (by simpa using s) I
    (Z1 t j r _ _ _ (by simpa using az) d n g)
  .simp only[I',e,bai]at d;obtain⟨⟨q,s⟩,d⟩:=d;exact UO f GE x j (λ_ a=>Yields P ops o v a) (λ_ _ h=>Yields.arU h) (λ_ _ _ h p u=>h.of_same p u) (λ_ _ _ _ h=>h) (λ_=>true) l (λ_ _ _ _ _=>Z) (.inl λ_ _ _ h=>h) _ _ _ _ (λ_ _=>Z) (λ_ h=>h) (bcb f q) (by simpa using s) I
    (Z1 t j r _ _ _ (by simpa using az) d n g)
  .obtain⟨k,B⟩:∃ k,a_ i=k+2:=⟨a_ i-2,GE⟩;simp only[I',B,beW,ba0]at d
def fz.lp{d:Nat}(h:fz n E a)(b:look E d=Option.none)(v:Value):fz n E (a.put (some d) v):=by
 refine⟨h.d,by simp[Act.put,h.s],λt u c=>?_⟩;have f:d≠t:=λe=>by rw[e,c]at b;cases b
 simp only[Act.put];rw[bcn f];exact h.g t u c
structure aUk(P:Program)(n:Nat)(ops:Array Oper)(Q:Exit->Act->World->Prop)(E:List (Nat×Value))(w0:World)(i d:Nat)(agV:Value->List Nat->World->Prop):Prop where
 mono:∀ v f w w',agV v f w->Ext w w'->agV v f w'
 free:look E d=none
 kg:Nat.blt d n=true
 run:∀(a:Act) (w:World) (K:Act->World->Prop),fz n E a->Ext w0 w->(∀ v w' f,Ext w w'->(∀ q∈f,w.heap.size<=q/\q<w'.heap.size)->agV v f w'->K (a.put (some d) v) w')->wpOp P ops (i_ (Q .normal)) i K a w
abbrev Made:=Nat×Nat×(Value->List Nat->World->Prop)
def aS4(P:Program)(b:Array Oper)(Q:Exit->Act->World->Prop)(c:Nat->Nat)(B d:List Nat)(l:Array Bool):Exit->Act->World->Prop
 | .normal,a,w=>Region.noSelect b=true->l.size=b.size->aiI b c d B.length B l=true->Gl P b (i_ (Q .normal)) c (B.length+d.length) l a w
 | _,_,_=>False
def afB:∀(r:List Nat) (l:Array Bool),(C0 r l).size=l.size
 | [],_=>rfl
 | i::r,l=>by unfold C0;rw[afB r];simp
def aLA:List Nat->Bool
 | []=>true
 | x::r=> !r.elem x && aLA r
variable{d i:Nat}{ty:TypeId}{pos:String}{af:Array Edge}{x y z:Operand}{t:TypeId}{v:Value}
def aUl(cs:List Value)(t:TypeId)(v:Value)(f:List Nat)(w:World):Prop:=∃ b,v=.pointer (some ⟨b,0,none⟩)/\f=[b]/\aO w b cs t (0,0)
end
open Tryz

section
variable{P:Program}{n:Nat}{E df:List (Nat×Value)}{a:Act}{w w' w0 a8:World}{Q:Exit->Act->World->Prop}{ops:Array Oper}
variable{d:Option Nat}{ty:TypeId}{pos:String}{af:Array Edge}{g:Option (Nat×Bool)}{x y z u:Operand}{t:TypeId}{rest:List Oper}{v:Value}
theorem WT{i:Int}(f:ev E x=some (.int .i64 i))(h:IntKind.i64.wrap (-i)= -i):dc P E ⟨d,.unOp .neg t x,ty,pos,af,g⟩ w (.int .i64 (-i)) w:=λn a c=>by
 have:(execOp a.eval ⟨d,.unOp .neg t x,ty,pos,af,g⟩).run P w=.ok (.value (.int .i64 (IntKind.i64.wrap (-i)))) w:=by
  have b:(0:Int)-i= -i:=Int.zero_sub i;have e:(Op.unary .neg (.int .i64 i)).run P w=.ok (.int .i64 (IntKind.i64.wrap (-i))) w:=by
   show(Op.intArith .sub .i64 0 i).run P w=_;simp[Op.intArith,b]
  simp only[execOp,c.ev f,bar,e,bal,bat]
 rw[this,h]
theorem aKC{k:IntKind}{i j l m:Int}{c:Array TypeId}(o:ev E x=some (.int k i))(f:ev E y=some (.int k j))(h:ev E z=some (.int k l))(n:ev E u=some (.int k m)):dc P E ⟨d,.call {callee:=.builtin .max,args:=#[x,y,z,u],argTypes:=c},ty,pos,af,g⟩ w (.int k (max (max (max i j) l) m)) w :=
 bi (vs:=[.int k i,.int k j,.int k l,.int k m]) (by simp only[hV,o,f,h,n]) λcs=>by
  have e:∀ a b:Int,(if b > a then b else a)=max a b:=λa b=>by rw[Int.max_def];split<;>split<;>omega
  have:(Builtin.max_ c ty #[.int k i,.int k j,.int k l,.int k m]).run P w=.ok (.int k (max (max (max i j) l) m)) w:=by
   rw[<-e,<-e,<-e];simp[Builtin.max_,Builtin.max2]
  simp only[builtin,bar,this,bal,bat]
end
def ahS(e:MapEntry)(p:Int×Int):Prop:=e.key=.int .i64 p.1/\e.val=.int .i64 p.2
def rR(w:World)(r:Nat)(l:List (Int×Int)):Prop:=∃(es:Array MapEntry) (a:Nat),w.heap[r]? =some (.map es a)/\dX ahS es.toList l
def dR(l:List (Int×Int))(k:Int):Option Int:=(l.find? λp=>p.1 == k).map (·.2)
section
variable{w w':World}{r:Nat}{l:List (Int×Int)}{S:List Nat}
def rR.lt(h:rR w r l):r<w.heap.size:=by
 obtain⟨es,c,a,_⟩:=h;exact(baU.1 a).1
def rR.O(h:rR w r l)(x:Ext w w'):rR w' r l:=by
 have d:=h.lt;obtain⟨es,c,a,b⟩:=h;exact⟨es,c,by rw[x.block r d];exact a,b⟩
def rR.H(h:rR w r l)(m:Mod S w w')(e:r∉S):rR w' r l:=by
 have d:=h.lt;obtain⟨es,c,a,b⟩:=h;exact⟨es,c,by rw[m.block r d e];exact a,b⟩
theorem abL(k:Int):∀ {es:List MapEntry} {l:List (Int×Int)} (i:Nat),dX ahS es l->(dR l k=none->Instr.findNow (.int .i64) (.int .i64 k) es i=some none)/\(∀ v,dR l k=some v->∃ j,Instr.findNow (.int .i64) (.int .i64 k) es i=some (some (j,.int .i64 v)))
 | [],[],i,_=>⟨λ_=>rfl,λv h=>by simp[dR]at h⟩
 | e::es,p::l,i,h=>by
  obtain⟨⟨s,u⟩,r⟩:=h;have t:=abL k (i+1) r;have c:Instr.sameNow (.int .i64) (.int .i64 k) e.key=some (decide (k=p.1)):=by
   rw[s];obtain⟨q,I,n⟩:=MapKept.sameNow_of_keys (d:=.int .i64) (a:=.int .i64 k) (b:=.int .i64 p.1) rfl rfl;rw[I];cases q with
   | true=>have:=n.1 rfl;injection this with _ this;rw[baG this]
   | false=>rw[baA λe=>by have:=n.2 (by rw[e]);cases this]
  by_cases g:k=p.1
  .have f:(p.1 == k)=true:=by simp[g]
   rw[baG g]at c;refine⟨λm=>by simp[dR,List.find?,f]at m,λv m=>⟨i,?_⟩⟩;have:p.2=v:=by simpa[dR,List.find?,f]using m
   simp[Instr.findNow,c,u,this]
  .have f:(p.1 == k)=false:=by simpa using λe=>g e.symm
   rw[baA g]at c;have o:dR (p::l) k=dR l k:=by simp[dR,List.find?,f]
   rw[o];simpa[Instr.findNow,c]using t
end
section
variable{P:Program}{n:Nat}{E df:List (Nat×Value)}{a:Act}{w w' w0 a8:World}{Q:Exit->Act->World->Prop}{ops:Array Oper}
variable{d:Option Nat}{ty:TypeId}{pos:String}{af:Array Edge}{g:Option (Nat×Bool)}{x y z u:Operand}{t:TypeId}{rest:List Oper}{v:Value}
theorem aeN{d:Nat}(c:Nat.blt d n=true)(h:∀ b r,Ext w b->w.heap.size<=r->rR b r []->cx P n ops Q rest ((d,.map (some r))::E) b):cx P n ops Q (⟨some d,.makeMap t none,ty,pos,af,none⟩::rest) E w:=by
 refine i' (w':=w.alloc (.map #[] 0)) (v:=.map (some w.heap.size)) (λn a e=>?_) c (h _ _ ((baL _ w).alloc (bao _) _) (bao _) ⟨#[],0,(MapKept.heap_alloc w _).1,trivial⟩);simp only[execOp,Option.map,bar,run_makeMap_plain,bal,bat]
theorem lk{e f:TypeId}{r:Nat}{l:List (Int×Int)}{k:Int}(s:P.underlying t=some (.map e f))(b:P.underlying e=some (.int .i64))(B:mB P f (.int .i64 0))(h:rR w r l)(C:ev E x=some (.map (some r)))(z:ev E y=some (.int .i64 k)):
  dc P E ⟨d,.lookup t x y true,ty,pos,af,g⟩ w (.tuple #[.int .i64 ((dR l k).getD 0),.bool (dR l k).isSome]) w:=λn a p=>by
 obtain⟨es,c,o,A⟩:=h;have q:=abL k 0 A;have i:=bfK (P:=P) (w:=w) b (show MapKept.IsKey (.int .i64) (.int .i64 k)from rfl) es.isEmpty 9999;have D:(Instr.lookup t (.map (some r)) (.int .i64 k) true).run P w=.ok (.tuple #[.int .i64 ((dR l k).getD 0),.bool (dR l k).isSome]) w:=by
  cases m:dR l k with
  | none =>
   have:=beo (P:=P) (w:=w) b (q.1 m);simp[Instr.lookup,bar,bbw s,bbe o,i,this,B w,Result.andThen]
  | some v =>
   obtain⟨j,u⟩:=q.2 v m;have:=beo (P:=P) (w:=w) b u;simp[Instr.lookup,bar,bbw s,bbe o,i,this,Result.andThen]
 simp only[execOp,p.ev C,p.ev z,bar,D,bal,bat]
theorem mu{f j:TypeId}{r:Nat}{l:List (Int×Int)}{k v:Int}(C:P.underlying t=some (.map f j))(i:P.underlying f=some (.int .i64))(h:rR w r l)(s:dR l k=none)(F:ev E x=some (.map (some r)))(p:ev E y=some (.int .i64 k))(u:ev E z=some (.int .i64 v))
  (A:∀ d,Mod [r] w d->rR d r (l++ [(k,v)])->cx P n ops Q rest E d):cx P n ops Q (⟨none,.mapUpdate t x y z,ty,pos,af,none⟩::rest) E w:=by
 have K:=h.lt;obtain⟨es,c,b,g⟩:=h;have B:=(abL k 0 g).1 s;have m:=bfK (P:=P) (w:=w) i (show MapKept.IsKey (.int .i64) (.int .i64 k)from rfl) false 9999;have o:=beo (P:=P) (w:=w) i B;have H:=bbF (P:=P) (.map (es.push {key:=.int .i64 k,val:=.int .i64 v,born:=c}) (c+1)) b;refine us (w':={w with heap:=w.heap.setIfInBounds r (.map (es.push {key:=.int .i64 k,val:=.int .i64 v,born:=c}) (c+1))}) (λn a e=>?_) (A _ ⟨Z,Z,Z,Kx,λq I D=>?_⟩ ⟨es.push {key:=.int .i64 k,val:=.int .i64 v,born:=c},c+1,(MapKept.heap_set b).1,?_⟩)
 .have G:(Instr.mapUpdate t (.map (some r)) (.int .i64 k) (.int .i64 v)).run P w=.ok () {w with heap:=w.heap.setIfInBounds r (.map (es.push {key:=.int .i64 k,val:=.int .i64 v,born:=c}) (c+1))}:=by
   simp[Instr.mapUpdate,bar,bbw C,bbe b,m,o,H,Result.andThen]
  simp only[execOp,e.ev F,e.ev p,e.ev u,bar,G,bal,bat]
 .exact(MapKept.heap_set b).2 q (by simpa using D)
 .rw[Array.toList_push];exact g.app ⟨⟨Z,Z⟩,trivial⟩
end
theorem aKJ{w:World}{B e size c m:Nat}{G:Nat->Value->Prop}{z:Array Value}(d:z.size=size)(h:0<size)(i:∀(j:Nat) u,z[j]? =some u->G j u)(k:B<=w.heap.size)(g:m<=c)(l:c<=maxLen):
  Own (w.alloc (.cells (madeCells z (c*size)) e)) B e size G (.slice (some ⟨w.heap.size,0,none⟩) m c) m ((madeCells z (c*size)).toList.take (m*size)):=by
 have n:m*size<=c*size:=ba6 _ g;refine⟨by rw[baf,bcQ,bef];omega,.inr ⟨w.heap.size,c,_,rfl,k,(MapKept.heap_alloc w _).1,g,l,bef _ _,rfl,λj u a=>?_⟩⟩;have f:=(baU.1 a).1;simp only[madeCells,ben]at a;rw[bef]at f;rw[bd9,bap f]at a;have b:j % size<z.size:=by rw[d];exact bcI _ h
 have e:z[j % z.size]! =z[j % size]:=by rw[d];exact getElem!_pos z (j % size) b
 rw[bbR,e]at a;exact i _ _ (by rw[Array.getElem?_eq_getElem b];exact a)
section
variable{P:Program}{n:Nat}{E df:List (Nat×Value)}{a:Act}{w w' w0 a8:World}{Q:Exit->Act->World->Prop}{ops:Array Oper}
variable{d:Nat}{ty:TypeId}{pos:String}{af:Array Edge}{g:Option (Nat×Bool)}{x y z:Operand}{t:TypeId}{rest:List Oper}
theorem aeE{r:Type}{R:τ r}{e by_ B m c:Nat}{zv:Value}{l:List r}(L:R.Y)(v:P.underlying t=some (.slice e))(f:(P.info? e).map (λi=>(i.zero,i.size,i.bytes))=some (some zv,R.size,by_))(A:zv.cells.size=R.size)(C:0<R.size)(F:∀(j:Nat) u,zv.cells[j]? =some u->R.raw j u)
  (N:ev E x=some (.int .i64 (m:Int)))(z:ev E y=some (.int .i64 (c:Int)))(M:Nat.blt d n=true)(q:m<=c)(D:c*by_<=140737488355328)(V:c<=9223372036854775807)(H:B<=w.heap.size)(G:l.length=m){ess:List (List Value)}(s:∀ w,dX (λes a=>R.bv w es a) ess l)(U:ess.flatten=(madeCells zv.cells (c*R.size)).toList.take (m*R.size))
  (h:∀ g b,Ext w g->w.heap.size<=b->R.aM e by_ g B (τ.ai (some ⟨b,0,none⟩)) (some ⟨b,0,none⟩) c l->cx P n ops Q rest ((d,.slice (some ⟨b,0,none⟩) m c)::E) g):cx P n ops Q (⟨some d,.makeSlice t x y,ty,pos,af,none⟩::rest) E w:=by
 cases I:P.info? e with
 | none=>rw[I]at f;cases f
 | some i =>
  rw[I]at f;simp only[bbR,bcD,be3]at f;obtain⟨O,S,T⟩:=f;have K:(i.bytes:Int)*(c:Int)<=281474976710656:=by
   have:i.bytes*c<=281474976710656:=by rw[T,bby];omega
   have h:((i.bytes*c:Nat):Int)<=281474976710656:=GE
   rwa [beN]at h
  have k:=run_make (P:=P) w t e i zv v I O .i64 .i64 (m:Int) (c:Int) GE GE K GE;simp only[ba4]at k;have o:=aKJ (w:=w) (e:=e) (c:=c) (m:=m) A C F H q (by simp[maxLen];omega);rw[<-U]at o;subst G;rw[S]at k;refine i' (λn a p=>?_) M (h _ w.heap.size ((baL _ w).alloc (bao _) _) (bao _) (τ.aM.E5 (R:=R) L (s _) (bay (ba6 _ q) D) o));simp only[execOp,p.ev N,p.ev z,bar,k,bal,bat]
theorem Ws{f:Type}{R:τ f}{e by_ B c:Nat}{zv:Value}(z:R.Y)(g:P.underlying t=some (.slice e))(r:(P.info? e).map (λi=>(i.zero,i.size,i.bytes))=some (some zv,R.size,by_))(o:zv.cells.size=R.size)(p:0<R.size)(s:∀(j:Nat) u,zv.cells[j]? =some u->R.raw j u)
  (D:ev E x=some (.int .i64 0))(k:ev E y=some (.int .i64 (c:Int)))(C:Nat.blt d n=true)(q:c*by_<=140737488355328)(A:c<=9223372036854775807)(v:B<=w.heap.size)
  (h:∀ a b,Ext w a->w.heap.size<=b->R.aM e by_ a B (τ.ai (some ⟨b,0,none⟩)) (some ⟨b,0,none⟩) c ([]:List f)->cx P n ops Q rest ((d,.slice (some ⟨b,0,none⟩) 0 c)::E) a):cx P n ops Q (⟨some d,.makeSlice t x y,ty,pos,af,none⟩::rest) E w :=
 aeE (m:=0) (l:=([]:List f)) (ess:=[]) z g r o p s D k C (ba1 _) q A v rfl (λ_=>trivial) Kx h
theorem JY{v:Type}{R:τ v}{e by_ B c:Nat}{zv:Value}{q:v}(G:R.Y)(z:P.underlying t=some (.slice e))(A:(P.info? e).map (λi=>(i.zero,i.size,i.bytes))=some (some zv,R.size,by_))(r:R.size=1)(l:zv.cells=#[zv])(C:∀(j:Nat) u,zv.cells[j]? =some u->R.raw j u)(I:∀ w,R.bv w [zv] q)
  (s:ev E x=some (.int .i64 (c:Int)))(g:ev E y=some (.int .i64 (c:Int)))(H:Nat.blt d n=true)(o:c*by_<=140737488355328)(p:c<=9223372036854775807)(D:B<=w.heap.size)
  (h:∀ a b,Ext w a->w.heap.size<=b->R.aM e by_ a B (τ.ai (some ⟨b,0,none⟩)) (some ⟨b,0,none⟩) c (List.replicate c q)->cx P n ops Q rest ((d,.slice (some ⟨b,0,none⟩) c c)::E) a):cx P n ops Q (⟨some d,.makeSlice t x y,ty,pos,af,none⟩::rest) E w:=by
 refine aeE (m:=c) (ess:=List.replicate c [zv]) G z A (by rw[l,r];rfl) GE C s g H (bao _) o p D Kx (λw=>?_) ?_ h
 .clear h o p s g;induction c with
  | zero=>trivial
  | succ c f=>exact⟨I w,f⟩
 .rw[r,bcY,l];apply bbB;intro i;simp only[baR,bbp,madeCells,ben,bd9];have F:∀ k:Nat,(List.replicate k [zv]).flatten=List.replicate k zv:=λk=>by
   induction k with
   | zero=>rfl
   | succ k f=>simp[beb,f]
  rw[F,bbn];split
  .simp[Nat.mod_one]
  .rfl
end
def fX(A:Option Addr)(c lo s:Nat):Option Addr:=if c=lo then A else A.map (·.add (lo*s))
def abP{b:Type}{size:Nat}:∀(lo:Nat) {ess:List (List b)},(∀ x∈ess,x.length=size)->(ess.drop lo).flatten=ess.flatten.drop (lo*size)
 | 0,ess,_=>Kx
 | lo+1,[],_=>Kx
 | lo+1,x::ess,h=>by
  have c:=h x baZ;rw[bfx,abP lo λy a=>h y (bav _ a),bbc,bb5,bes,<-bd6];congr 1;rw[List.drop_append_of_le_length GE,bfg GE];rfl
def UP{c:Type}{size:Nat}:∀(n:Nat) {ess:List (List c)},(∀ x∈ess,x.length=size)->(ess.take n).flatten=ess.flatten.take (n*size)
 | 0,ess,_=>Kx
 | n+1,[],_=>Kx
 | n+1,x::ess,h=>by
  have a:=h x baZ;have e:(n+1)*size=size+n*size:=by rw[bb5,bes]
  rw[bfu,bbc,UP n λy b=>h y (bav _ b),bbc,e,beD,a,Nat.add_sub_cancel_left,baE (by rw[a];omega:x.length<=size+n*size)]
def dX.drop{a b:Type}{P:b->a->Prop}:∀(n:Nat) {l:List b} {m:List a},dX P l m->dX P (l.drop n) (m.drop n)
 | 0,_,_,h=>h
 | n+1,[],[],_=>trivial
 | n+1,_::_,_::_,h=>dX.drop n h.2
def dX.take{a b:Type}{P:b->a->Prop}:∀(n:Nat) {l:List b} {m:List a},dX P l m->dX P (l.take n) (m.take n)
 | 0,_,_,_=>trivial
 | n+1,[],[],_=>trivial
 | n+1,_::_,_::_,h=>⟨h.1,dX.take n h.2⟩
theorem τ.aF.sub{m:Type}{R:τ m}{by_ c:Nat}{A:Option Addr}{l:List m}{w:World}(h:R.aF by_ w A c l)(lo d:Nat)(y:lo<=d)(z:d<=l.length):R.aF by_ w (fX A c lo R.size) (c-lo) ((l.drop lo).take (d-lo)):=by
 obtain⟨g1,g2,g3,g4,ess,g5,g6⟩:=h;have f:((l.drop lo).take (d-lo)).length=d-lo:=by rw[baf,bax];omega
 have i:∀ x∈ess,x.length=R.size:=λx k=>by obtain⟨a,r⟩:=g5.left x k;exact R.len r
 refine⟨by rw[f];omega,GE,by rw[f];exact bay (ba6 _ GE) g3,λg=>?_,(ess.drop lo).take (d-lo),(g5.drop lo).take _,?_⟩
 .unfold fX at g;split at g
  .omega
  .cases A with
   | none=>have:=g4 rfl;omega
   | some a=>cases g
 .have p:∀ x∈ess.drop lo,x.length=R.size:=λx k=>i x (bdj k);have n:ess.length=l.length:=g5.length;rw[UP _ p,abP _ i,f];have t:=Eh i;refine⟨?_,λv=>?_⟩
  .rw[baf,bax,t,n,<-Nat.sub_mul,bch (ba6 _ GE)]
  .obtain⟨b,o,rfl,s⟩:=g6.2 GE;have q:¬c=lo:=GE
   refine⟨b,o+lo*R.size,by unfold fX;rw[ban q];simp[Addr.add],λj u e=>?_⟩;rw[baR]at e;split at e
   .rw[bbm]at e;rw[bdh];exact s _ u e
   .cases e
section
variable{P:Program}{n:Nat}{E df:List (Nat×Value)}{w:World}{d:Option Nat}{ty:TypeId}{pos:String}{af:Array Edge}{g:Option (Nat×Bool)}{x y z:Operand}{t:TypeId}
theorem aOt{A:Option Addr}{l c e s:Nat}{k h:IntKind}(lo b:Nat){i j:Int}(m:P.underlying t=some (.slice e))(B:fA P e s)(C:ev E x=some (.slice A l c))(r:ev E y=some (.int k i))(u:ev E z=some (.int h j))(q:i=(lo:Int))(F:j=(b:Int))(G:lo<=b)(H:b<=c):
  dc P E ⟨d,.slice t x (some y) (some z) none,ty,pos,af,g⟩ w (.slice (fX A c lo s) (b-lo) (c-lo)) w:=λn a f=>by
 subst q;subst F;have p:P.underlying t=some (.slice (P.elem t)):=by simp[Program.elem,m]
 have D:P.elem t=e:=by simp[Program.elem,m]
 have o:=run_slice_lh (P:=P) (w:=w) t A l c p k h (lo:Int) (b:Int) GE GE GE;have v:=bda (P:=P) (w:=w) t (.slice A l c) (some (.int k (lo:Int))) (some (.int h (b:Int))) none p;rw[D,B w]at o;simp only[execOp,f.ev C,f.ev r,f.ev u,Option.map,v,o,bar,bal,bat,sliced,ba4,fX]
end
open Tryz

section
variable{P:Program}{n:Nat}{E df:List (Nat×Value)}{a:Act}{w w' w0 a8:World}{Q:Exit->Act->World->Prop}{ops:Array Oper}
variable{d:Option Nat}{ty:TypeId}{pos:String}{af:Array Edge}{g:Option (Nat×Bool)}{x y z:Operand}{t:TypeId}{rest:List Oper}{v:Value}
theorem aft{f:FuncId}(k:Enters P f){xs:Array Operand}{p:Array TypeId}{args b:List Value}{a:Act}(c:fz n E a)(o:ev E x=some (.func (.func f) #[] b.toArray))(j:hV E xs.toList=some args):
  (execOp a.eval ⟨d,.call {callee:=.value x,args:=xs,argTypes:=p},ty,pos,af,g⟩).run P w=.ok (.enter f (args++b).toArray) w:=by
 obtain⟨fn,e,h,i⟩:=k;have l:xs.map a.eval=args.toArray:=by rw[<-c.hV j];apply bbQ;simp
 have m:Sem.run P program w=.ok P w:=rfl;unfold execOp;simp only[resolve,invoke,Deferred.ofValue,c.ev o,callFunc,bar,bat,bal,l,m,e,h,i,bdz,ba0,bbE];simp
theorem Ae{d:Nat}{f:FuncId}(k:Enters P f){xs:Array Operand}{m:Array TypeId}{args b:List Value}(l:ev E x=some (.func (.func f) #[] b.toArray))(j:hV E xs.toList=some args)(i:Nat.blt d n=true)
  (h:Calls P f (args++b).toArray w λe w'=>∃ v,e=.returned v/\cx P n ops Q rest ((d,v)::E) w'):cx P n ops Q (⟨some d,.call {callee:=.value x,args:=xs,argTypes:=m},ty,pos,af,none⟩::rest) E w:=λa c=>by
 refine LH Z ?_;unfold Oper.wp;rw[aft k c l j];refine beC h λe w' g=>?_;obtain⟨v,rfl,h⟩:=g;exact h _ (c.put i v)
def ne{fn:Func}{R:Ending->World->Prop}(h:T n (bodyPost P fn R) E w):N n (bodyPost P fn R) E w:=λa b=>h a b
end
def Raw(aQ size j:Nat)(w:World)(A:Option Addr)(c:Nat):Prop :=
 (A=none/\c=0)\/∃(b:Nat) (cur:List Value) (e:TypeId),A=some ⟨b,0,none⟩/\aQ<=b/\aO w b cur e (0,0)/\∀ i,i<c->∃ m:Int,cur[i*size+j]? =some (.int .i64 m)
section
variable{w w':World}{aQ size j c i:Nat}{A:Option Addr}{S:List Nat}
def Raw.O(h:Raw aQ size j w A c)(x:Ext w w'):Raw aQ size j w' A c:=by
 rcases h with h|⟨b,cur,e,a,d,f,g⟩
 .exact .inl h
 .exact .inr ⟨b,cur,e,a,d,f.O x,g⟩
def Raw.Y(h:Raw aQ size j w A c)(a:0<c):A=some ⟨fv A,j7 A,none⟩:=by
 rcases h with⟨_,h⟩|⟨b,cur,e,rfl,_⟩
 .omega
 .rfl
def Raw.get(h:Raw aQ size j w A c)(a:i<c):∃ m:Int,w.cell? ⟨fv A,j7 A+i*size+j,none⟩=some (.int .i64 m):=by
 rcases h with⟨_,h⟩|⟨b,cur,e,rfl,_,d,f⟩
 .omega
 .obtain⟨m,g⟩:=f i a;exact⟨m,by rw[show(⟨fv (some ⟨b,0,none⟩),j7 (some ⟨b,0,none⟩)+i*size+j,none⟩:Addr)=⟨b,i*size+j,none⟩from by simp[fv,j7],d.cell,g]⟩
end
open Tryz
section
variable{B S:List Nat}{a id m o:Nat}{l:List Oper}{cur cs:List Value}{e:TypeId}
def bV{b n:Nat}(u:∀ q∈B,q<n)(h:n<=b:=by omega):∀ q∈B,q∈ [b]->False:=λq I a=>by have:=u q I;have:=bah.1 a;omega
def bx{b n:Nat}(u:∀ q∈B,n<=q)(h:b<n:=by omega):∀ q∈B,q∈ [b]->False:=λq I a=>by have:=u q I;have:=bah.1 a;omega
def aJ{b:Nat}(h:a≠b:=by omega):a∉ [b]:=λe=>h (bah.1 e)
section
variable{P:Program}{n:Nat}{ops:Array Oper}{Q:Exit->Act->World->Prop}{E:List (Nat×Value)}{w w' w0:World}{v:Value}{ty:TypeId}{pos:String}{af:Array Edge}{x:Operand}{rest:List Oper}{d i:Nat}{cd:List Nat}{a_:Nat->Nat}
def ax{y:Code}(h:W P n y Q E w):cx P n ops (pg P y Q) [] E w:=nl (a7 h)
def ar{y:Code}(h:cx P n l.toArray (pg P y Q) l E w):W P n (.seq (.region id l.toArray false) y) Q E w:=av (rg h)
def bf{y:Code}(h:W P n y Q E w):W P n .skip (pg P y Q) E w:=dP (a7 h)
def κ{a:Op}(c:dc P E ⟨some d,a,ty,pos,af,none⟩ w v w')(h:cx P n ops Q rest ((d,v)::E) w')(b:Nat.blt d n=true:=by rfl):cx P n ops Q (⟨some d,a,ty,pos,af,none⟩::rest) E w:=i' c b h
def vm(b:ev E x=some v)(h:cx P n ops Q rest ((d,v)::E) w)(a:Nat.blt d n=true:=by rfl):cx P n ops Q (⟨some d,.move x,ty,pos,af,none⟩::rest) E w:=i' (fW b) a h
def va(b:ev E x=some v)(h:cx P n ops Q rest ((d,v)::E) w)(a:Nat.blt d n=true:=by rfl):cx P n ops Q (⟨some d,.assign x,ty,pos,af,none⟩::rest) E w:=i' (fh b) a h
def aA{a:Op}(b:ops[i]? =some ⟨some d,a,ty,pos,af,none⟩)(f:∀ w,dc P E ⟨some d,a,ty,pos,af,none⟩ w v w)(h:gN P n ops Q a_ cd ((d,v)::E) w0)(c:a_ i=1:=by rfl)(e:Nat.blt d n=true:=by rfl):gN P n ops Q a_ (i::cd) E w0:=p5 b c f e h
def dE{a:Op}(b:ops[i]? =some ⟨some d,a,ty,pos,af,none⟩)(f:∀ w,Ext w0 w->dc P E ⟨some d,a,ty,pos,af,none⟩ w v w)(h:gN P n ops Q a_ cd ((d,v)::E) w0)(c:a_ i=0:=by rfl)(e:Nat.blt d n=true:=by rfl):gN P n ops Q a_ (i::cd) E w0:=US b c f e h
end
def qW:∀ {a E:List (Nat×Value)},a.map (λp=>look E p.1)=a.map (λp=>some p.2)->Sub a E
 | [],_,_=>Sub.nil
 | (k,v)::r,E,h=>have b:look E k::r.map (λp=>look E p.1)=some v::r.map (λp=>some p.2):=h
  Sub.cons (bdH b).1 (qW (bdH b).2)
theorem cb:(∀(a b:Bool),((a || b)=true)↔(a=true\/b=true))/\(∀(a b:Bool),((a || b)=false)↔(a=false/\b=false))/\(∀(a b:Bool),((a && b)=true)↔(a=true/\b=true))/\(∀(a b:Bool),((a && b)=false)↔(a=false\/b=false))/\(∀(p:Prop) [Decidable p],(decide p=true)↔p)/\(∀(p:Prop) [Decidable p],(decide p=false)↔¬p)/\(∀(c:Type) [BEq c] [LawfulBEq c] (a b:c),((a == b)=true)↔(a=b))/\(∀(c:Type) [BEq c] [LawfulBEq c] (a b:c),((a != b)=true)↔(a≠b))/\(∀(c:Type) [BEq c] [LawfulBEq c] (a b:c),((a == b)=false)↔(a≠b))/\(∀(c:Type) [BEq c] [LawfulBEq c] (a b:c),((a != b)=false)↔(a=b))/\(∀ b:Bool,((!b)=true)↔(b=false))/\(∀ b:Bool,((!b)=false)↔(b=true))/\(∀ b:Bool,(¬(b=true))↔(b=false))/\(∀ b:Bool,(¬(b=false))↔(b=true))/\(∀ a b:Int,(¬a<b)↔b<=a)/\(∀ a b:Int,(¬a<=b)↔b<a)/\(∀ a b:Nat,(¬a<b)↔b<=a)/\(∀ a b:Nat,(¬a<=b)↔b<a)/\(∀(c:Type) (a b:c),(a≠b)↔¬(a=b))/\(∀ p:Prop,(¬ ¬p)↔p):=
 ⟨λa b=>by cases a<;>cases b<;>simp,λa b=>by cases a<;>cases b<;>simp,λa b=>by cases a<;>cases b<;>simp,λa b=>by cases a<;>cases b<;>simp,λp _=>Kx,λp _=>Kx,λc _ _ a b=>Kx,λc _ _ a b=>Kx,λc _ _ a b=>Kx,λc _ _ a b=>Kx,λb=>Kx,λb=>Kx,λb=>Kx,λb=>Kx,λ_ _=>Int.not_lt,λ_ _=>bfD,λ_ _=>Nat.not_lt,λ_ _=>Nat.not_le,λ_ _ _=>Iff.rfl,λ_=>bfO⟩
def aL(j:Nat){n:Nat}(h:j<n:=by omega):0<n:=Nat.zero_lt_of_lt h
def xE{E:List (Nat×Value)}{t:Nat}{k:IntKind}{i j:Int}(h:look E t=some (.int k i))(e:i=j:=by first|omega|rfl|(simp<;>omega)):look E t=some (.int k j):=Hu h e
def Φ{a b c:World}(h:Ext a b)(k:Ext b c):Ext a c:=Ext.O h k
def bn{b n:Nat}(h:n<=b:=by omega):∀ q∈ [b],n<=q:=λq I=>by rw[bah.1 I];exact h
abbrev bd(b:Nat):Option Addr:=some ⟨b,0,none⟩
abbrev J(x:Int):Value:=.int .i64 x
def uv(a:Array Oper)(E:List (Nat×Value))(j:Nat):Option Value:=a[j]?.bind λo=>o.dst.bind λd=>look E d
def UZ{b:Array Oper}{E:List (Nat×Value)}{j:Nat}{v:Value}(h:uv b E j=some v):∃ e f,b[j]? =some e/\e.dst=some f/\look E f=some v:=by
 unfold uv at h;cases c:b[j]? with
 | none=>rw[c]at h;cases h
 | some o =>
  rw[c]at h;cases a:o.dst with
  | none=>simp[a]at h
  | some d=>exact⟨o,d,rfl,a,by simpa[a]using h⟩
def aWS{a:Array Oper}{E:List (Nat×Value)}{j:Nat}{b c:Bool}(h:uv a E j=some (.bool b))(e:b=c):uv a E j=some (.bool c):=by rw[h,e]
def oN{a b c:World}(x:Ext a b)(m:Mod S b c):Mod S a c:=(Mod.O x).trans m
def sK{a b c:World}(m:Mod S a b)(x:Ext b c):Mod S a c:=m.trans (Mod.O x)
def fa{T:List Nat}(d:∀ q∈S,q∈T->False):∀ q∈T,q∈S->False:=λq h k=>d q k h
def aWx{b:Nat}(d:∀ q,q=b->q∈S->False):∀ q∈S,q=b->False:=λq h k=>d q k h
def eh{T:List Nat}{b n:Nat}(g:∀ q∈T,q∈S\/n<=q)(d:∀ q∈S,q=b->False)(h:b<n:=by omega):∀ q∈T,q=b->False:=λq I a=>(g q I).elim (λk=>d q k a) λk=>GE
def oq{T U:List Nat}{n:Nat}(g:∀ q∈T,q∈S\/n<=q)(d:∀ q∈S,q∈U->False)(u:∀ q∈U,q<m)(h:m<=n:=by omega):∀ q∈T,q∈U->False:=λq I a=>(g q I).elim (λk=>d q k a) λk=>by have:=u q a;omega
def bM{b:Nat}(d:∀ q∈S,q=b->False):∀ q∈S,q∈ [b]->False:=λq I h=>d q I (bah.1 h)
def b4{b:Nat}(h:∀ q∈S,a<=q/\q<b):∀ q∈S,q<b:=λq I=>(h q I).2
def dZ{b:Nat}(h:∀ q∈S,a<=q/\q<b):∀ q∈S,a<=q:=λq I=>(h q I).1
section
variable{P:Program}{n:Nat}{ops:Array Oper}{Q:Exit->Act->World->Prop}{E:List (Nat×Value)}{w w' w0:World}{v:Value}{ty:TypeId}{pos:String}{af:Array Edge}{x y:Operand}{rest:List Oper}{d i j:Nat}{cd:List Nat}{a_:Nat->Nat}{op:Op}{q b:Bool}{f:FuncId}{xs:Array Operand}{ts:Array TypeId}{args:List Value}{t:TypeId}
def aR(e:uv ops E j=some (.bool b))(i:(b == q)=true->dc P E ⟨some d,op,ty,pos,af,some (j,q)⟩ w v w)(h:cx P n ops Q rest ((d,cP (b == q) v)::E) w)(g:Nat.blt d n=true:=by rfl):cx P n ops Q (⟨some d,op,ty,pos,af,some (j,q)⟩::rest) E w:=by
 obtain⟨_,_,a,c,f⟩:=UZ e;exact aQF a c f Z i g h
def Bk(a:uv ops E j=some (.bool b))(f:(b == q)=true->ev E x=some v)(h:cx P n ops Q rest ((d,cP (b == q) v)::E) w)(e:Nat.blt d n=true:=by rfl):cx P n ops Q (⟨some d,.move x,ty,pos,af,some (j,q)⟩::rest) E w:=aR a (λc=>fW (f c)) h e
def er(a:uv ops E j=some (.bool b))(e:ev E x=some v)(h:cx P n ops Q rest ((d,cP (b == q) v)::E) w)(c:Nat.blt d n=true:=by rfl):cx P n ops Q (⟨some d,.move x,ty,pos,af,some (j,q)⟩::rest) E w:=aR a (λ_=>fW e) h c
def af8(c:uv ops E j=some (.bool b))(h:cx P n ops Q rest ((d,cP (b == q) undef)::E) w)(I:(b == q)=false:=by rfl)(e:Nat.blt d n=true:=by rfl):cx P n ops Q (⟨some d,op,ty,pos,af,some (j,q)⟩::rest) E w:=aR c (λa=>by rw[I]at a;cases a) h e
def cf(c:Enters P f)(b:hV E xs.toList=some args)(h:Calls P f args.toArray w λe w'=>e=.returned v/\Ext w w')(k:∀ w',Ext w w'->cx P n ops Q rest ((d,v)::E) w')(a:Nat.blt d n=true:=by rfl):cx P n ops Q (⟨some d,.call {callee:=.value (.func f),args:=xs,argTypes:=ts},ty,pos,af,none⟩::rest) E w :=
 ca c b a (h.mono λe w' g=>⟨v,g.1,k w' g.2⟩)
theorem iD(g:uv ops E j=some (.bool b))(m:Enters P f)(l:(b == q)=true->hV E xs.toList=some args)(o:(b == q)=true->Calls P f args.toArray w λe w'=>e=.returned v/\Ext w w')(h:∀ w',Ext w w'->cx P n ops Q rest ((d,cP (b == q) v)::E) w')(k:Nat.blt d n=true:=by rfl):cx P n ops Q (⟨some d,.call {callee:=.value (.func f),args:=xs,argTypes:=ts},ty,pos,af,some (j,q)⟩::rest) E w:=by
 obtain⟨_,_,a,c,i⟩:=UZ g;exact aQE a c i Z m l o k h
def cu(f:ops[i]? =some ⟨some d,op,ty,pos,af,some (j,q)⟩)(e:uv ops E j=some (.bool b))(m:(b == q)=true->∀ w,Ext w0 w->dc P E ⟨some d,op,ty,pos,af,some (j,q)⟩ w v w)(h:gN P n ops Q a_ cd ((d,cP (b == q) v)::E) w0)(g:a_ i=0:=by rfl)(l:Nat.blt d n=true:=by rfl):gN P n ops Q a_ (i::cd) E w0:=by
 obtain⟨_,_,a,c,k⟩:=UZ e;exact aEh f g a c k Z m l h
def bC(f:ops[i]? =some ⟨some d,op,ty,pos,af,some (j,q)⟩)(e:uv ops E j=some (.bool b))(m:(b == q)=true->∀ w,dc P E ⟨some d,op,ty,pos,af,some (j,q)⟩ w v w)(h:gN P n ops Q a_ cd ((d,cP (b == q) v)::E) w0)(g:a_ i=1:=by rfl)(l:Nat.blt d n=true:=by rfl):gN P n ops Q a_ (i::cd) E w0:=by
 obtain⟨_,_,a,c,k⟩:=UZ e;exact aEi f g a c k Z m l h
def aWv(c:ops[i]? =some ⟨some d,.move x,ty,pos,af,some (j,q)⟩)(a:uv ops E j=some (.bool b))(k:(b == q)=true->ev E x=some v)(h:gN P n ops Q a_ cd ((d,cP (b == q) v)::E) w0)(e:a_ i=1:=by rfl)(g:Nat.blt d n=true:=by rfl):gN P n ops Q a_ (i::cd) E w0:=bC c a (λf _=>fW (k f)) h e g
def ft(c:ops[i]? =some ⟨some d,.move x,ty,pos,af,some (j,q)⟩)(a:uv ops E j=some (.bool b))(g:ev E x=some v)(h:gN P n ops Q a_ cd ((d,cP (b == q) v)::E) w0)(e:a_ i=1:=by rfl)(f:Nat.blt d n=true:=by rfl):gN P n ops Q a_ (i::cd) E w0:=bC c a (λ_ _=>fW g) h e f
def d'(e:ops[i]? =some ⟨some d,op,ty,pos,af,some (j,q)⟩)(c:uv ops E j=some (.bool b))(h:gN P n ops Q a_ cd ((d,cP (b == q) undef)::E) w0)(I:(b == q)=false:=by rfl)(f:a_ i=1:=by rfl)(g:Nat.blt d n=true:=by rfl):gN P n ops Q a_ (i::cd) E w0:=bC e c (λa=>by rw[I]at a;cases a) h f g
def lB(e:ops[i]? =some ⟨some d,op,ty,pos,af,some (j,q)⟩)(c:uv ops E j=some (.bool b))(h:gN P n ops Q a_ cd ((d,cP (b == q) undef)::E) w0)(I:(b == q)=false:=by rfl)(f:a_ i=0:=by rfl)(g:Nat.blt d n=true:=by rfl):gN P n ops Q a_ (i::cd) E w0:=cu e c (λa=>by rw[I]at a;cases a) h f g
def bt(a:ops[i]? =some ⟨some d,.move x,ty,pos,af,none⟩)(e:ev E x=some v)(h:gN P n ops Q a_ cd ((d,v)::E) w0)(b:a_ i=1:=by rfl)(c:Nat.blt d n=true:=by rfl):gN P n ops Q a_ (i::cd) E w0:=p5 a b (λ_=>fW e) c h
def c_(b:List (Nat×Nat))(a:List Nat)(h:gN P n ops Q (qa b) a E w)(d:P.follows .mixedOrders=true:=by kernel_rfl)(c:(Region.noSelect ops && (a.length == ops.size) && l1 ops (qa b) a (Array.replicate ops.size false))=true:=by kernel_rfl):W P n (.region id ops true) Q E w:=rd b a d c h
theorem ck{c:Nat}(k:ev E x=some (.pointer (some ⟨c,0,none⟩)))(d:ev E y=some v)(g:aO w c cur e (0,0))(i:v.cells=cs.toArray)(j:fA P t cs.length)(f:cs.all (·.oneCell')=true)(b:Nat.beq cs.length cur.length=true)
  (h:∀ a,Mod [c] w a->aO a c cs e (0,0)->cx P n ops Q rest E a):cx P n ops Q (⟨none,.store t x y,ty,pos,af,none⟩::rest) E w :=
 st (new:=cs) k d g i j f (by rw[bbi,bcC b];exact Nat.ble_eq_true_of_le (bao _)) (by rw[bbi,bcC b,beS,List.drop_length,bcy,baP]) h
def a1{c:Nat}(i:ev E x=some (.pointer (some ⟨c,o,none⟩)))(a:aO w c cs e (0,0))(b:fp P t false)(g:cs[o]? =some v)(h:cx P n ops Q rest ((d,v)::E) w)(f:Nat.blt d n=true:=by rfl):cx P n ops Q (⟨some d,.load t x,ty,pos,af,none⟩::rest) E w:=i' (aq i (a.one b g)) f h
def cr{c:Nat}(a:ops[i]? =some ⟨some d,.load t x,ty,pos,af,none⟩)(l:ev E x=some (.pointer (some ⟨c,o,none⟩)))(f:aO w0 c cs e (0,0))(g:fp P t false)(k:cs[o]? =some v)(h:gN P n ops Q a_ cd ((d,v)::E) w0)(b:a_ i=0:=by rfl)(j:Nat.blt d n=true:=by rfl):gN P n ops Q a_ (i::cd) E w0:=US a b (λ_ x=>aq l ((f.O x).one g k)) j h
theorem ep{p c:Nat}(k:ev E x=some (.pointer (some ⟨c,p,none⟩)))(d:ev E y=some v)(g:aO w c cur e (0,0))(i:v.cells=[v].toArray)(j:fA P t 1)(f:v.oneCell'=true)(b:Nat.ble (p+1) cur.length=true)
  (h:∀ a,Mod [c] w a->aO a c (cur.set p v) e (0,0)->cx P n ops Q rest E a):cx P n ops Q (⟨none,.store t x y,ty,pos,af,none⟩::rest) E w :=
 st (new:=cur.set p v) k d g i j (by simp[f]) b (by rw[bcZ,bap (show p<cur.length from bcc b)];simp) h
end
section
variable{P:Program}{n:Nat}{ops:Array Oper}{Q:Exit->Act->World->Prop}{E:List (Nat×Value)}{w:World}{v:Value}{ty:TypeId}{pos:String}{af:Array Edge}{x y:Operand}{rest:List Oper}{d k:Nat}{t u:TypeId}{c6:IntKind}{i j:Int}{c:Code}
def ap3:List (Nat×Value)->Option (Nat×Value)
 | []=>none
 | [a]=>some a
 | _::b::l=>ap3 (b::l)
def QZ:List (Nat×Value)->List (Nat×Value)
 | []=> []
 | [_]=> []
 | a::b::l=>a::QZ (b::l)
theorem c':∀ {c:List (Nat×Value)},(QZ c).map (λp=>look E p.1)=(QZ c).map (λp=>some p.2)->ap3 c=some (k,.int c6 j)->look E k=some (.int c6 i)->(_:i=j:=by first|omega|rfl|(simp<;>omega))->Sub c E
 | [],_,_,_,_=>Sub.nil
 | [(a,b)],_,az,d,e=>by
  cases az;exact Sub.cons (Hu d e) Sub.nil
 | (a,b)::r::l,h,az,d,e =>
  have f:look E a::(QZ (r::l)).map (λp=>look E p.1)=some b::(QZ (r::l)).map (λp=>some p.2):=h
  Sub.cons (bdH f).1 (c' (bdH f).2 az d e)
def fb(e:ev E x=some (.int .i64 i))(a:ev E y=some (.int .i64 j))(h:cx P n ops Q rest ((d,.int .i64 (i+j))::E) w)(c: -9223372036854775808<=i+j/\i+j<=9223372036854775807:=by omega)(b:Nat.blt d n=true:=by rfl):cx P n ops Q (⟨some d,.binOp .add t x y u,ty,pos,af,none⟩::rest) E w:=i' (bad e a (mb c)) b h
theorem cW{e:Nat}{z:Operand}{b:TypeId}{o:String}{c:Array Edge}(m:ev E x=some (.int .i64 i))(a:ev E y=some (.int .i64 j))(k:ev ((d,.int .i64 (i+j))::E) z=some v)(h:N n Q ((e,v)::(d,.int .i64 (i+j))::E) w)(l: -9223372036854775808<=i+j/\i+j<=9223372036854775807:=by omega)(f:Nat.blt d n=true:=by rfl)(g:Nat.blt e n=true:=by rfl):N n (pg P (.region id [⟨some d,.binOp .add t x y u,ty,pos,af,none⟩,⟨some e,.move z,b,o,c,none⟩].toArray false) Q) E w:=a7 (rg (fb m a (vm k (nl h) g) l f))
def bL{l:List Value}(c:ev E x=some (.tuple l.toArray))(a:l[k]? =some v)(h:cx P n ops Q rest ((d,v)::E) w)(b:Nat.blt d n=true:=by rfl):cx P n ops Q (⟨some d,.extract x k,ty,pos,af,none⟩::rest) E w:=i' (ex c a) b h
def cF(c:ev E x=some (.int c6 i))(a:ev E y=some (.int c6 j))(h:cx P n ops Q rest ((d,.bool (decide (i<j)))::E) w)(b:Nat.blt d n=true:=by rfl):cx P n ops Q (⟨some d,.binOp .lss t x y u,ty,pos,af,none⟩::rest) E w:=i' (blt c a) b h
def cV(c:ev E x=some (.int c6 i))(a:ev E y=some (.int c6 j))(h:cx P n ops Q rest ((d,.bool (i != j))::E) w)(b:Nat.blt d n=true:=by rfl):cx P n ops Q (⟨some d,.binOp .neq t x y u,ty,pos,af,none⟩::rest) E w:=i' (bne c a) b h
def aG(b:ev E x=some v)(h:W P n c Q ((d,v)::E) w)(a:Nat.blt d n=true:=by rfl):cx P n ops (pg P c Q) [⟨some d,.assign x,ty,pos,af,none⟩] E w:=va b (ax h) a
def tC(h:T n Q E w):cx P n ops (pg P .ret Q) [] E w:=ax (rt h)
def bc(b:ev E x=some v)(h:T n Q ((d,v)::E) w)(a:Nat.blt d n=true:=by rfl):cx P n ops (pg P .ret Q) [⟨some d,.assign x,ty,pos,af,none⟩] E w:=va b (tC h) a
def aC(b:ev E x=some v)(h:cx P n (⟨some d,.move x,ty,pos,af,none⟩::l).toArray (pg P c Q) l ((d,v)::E) w)(a:Nat.blt d n=true:=by rfl):W P n (.seq (.region id (⟨some d,.move x,ty,pos,af,none⟩::l).toArray false) c) Q E w:=ar (vm b h a)
def b3{fn:Func}{R:Ending->World->Prop}(b:fn.results.toList=[.tmp k])(h:look E k=some v)(a:R (.returned (rG [v])) w):T n (bodyPost P fn R) E w:=cJ (by rw[b];exact .tmp h .nil) a
def hE{fn:Func}{R:Ending->World->Prop}{a:Value}(e:fn.results.toList=[.tmp d,.tmp k])(h:look E d=some v)(b:look E k=some a)(c:R (.returned (rG [v,a])) w):T n (bodyPost P fn R) E w:=cJ (by rw[e];exact .tmp h (.tmp b .nil)) c
def ee{g:Option (Nat×Bool)}{d:Option Nat}{a:Array (Nat×Operand)}{l:List (Nat×Value)}(b:yO E a.toList=some l)(c:(Instr.build t l.toArray).run P w=.ok v w:=by kernel_rfl):dc P E ⟨d,.build t a,ty,pos,af,g⟩ w v w:=kg b c
def cR{b:Type}{f:b->Ending}{p:b->Prop}{v:b}(h:p v):∃ a,f v=f a/\p a:=⟨v,rfl,h⟩
def wx{b:Nat}{l:List Nat}:∀ q∈ [b],q∈b::l\/m<=q:=λq I=> .inl (by rw[bah.1 I];exact baZ)
def ea(h: -9223372036854775808<=i/\i<=9223372036854775807:=by (try dsimp only);omega):gg i:=b7.2 h
def cM{c:Nat->List (Nat×Value)->World->Prop}{b:Nat}{a:List (Nat×Value)}(h:c b a w)(d:b<m:=by omega)(e:Sub a E:=by exact c' rfl rfl rfl):N n (Exit.then (OD n c m) Q) E w:=oR b a h d e
def gz(f:ev E x=some v)(c:v.cells=cs.toArray)(h:∀ a b,Ext w a->w.heap.size<=b->aO a b cs t (0,0)->cx P n ops Q rest ((d,.pointer (some ⟨b,0,none⟩))::E) a)(e:Nat.blt d n=true:=by rfl):cx P n ops Q (⟨some d,.box t x,ty,pos,af,none⟩::rest) E w:=azh rfl f c e h
def cZ(g:ev E x=some v)(e:v.cells=cs.toArray)(h:∀ a b,Ext w a->w.heap.size<=b->aO a b cs t (0,0)->cx P n (⟨some d,.box t x,ty,pos,af,none⟩::l).toArray (pg P c Q) l ((d,.pointer (some ⟨b,0,none⟩))::E) a)(f:Nat.blt d n=true:=by rfl):W P n (.seq (.region id (⟨some d,.box t x,ty,pos,af,none⟩::l).toArray false) c) Q E w:=ar (gz g e h f)
def cy(c:mB P t v)(e:v.cells=cs.toArray)(h:∀ a b,Ext w a->w.heap.size<=b->aO a b cs t (0,0)->cx P n ops Q rest ((d,.pointer (some ⟨b,0,none⟩))::E) a)(f:Nat.blt d n=true:=by rfl):cx P n ops Q (⟨some d,.alloc t,ty,pos,af,none⟩::rest) E w:=al rfl c e f h
def dK(h: -9223372036854775808<=i/\i<=9223372036854775807:=by omega):IntKind.i64.wrap i=i:=mb h
end
def eg:fA prog 68 7:=λ_=>GT
def oI:fp prog 68 true:=λ_=>GT
def fj:Fd prog 41 0 0:=λ_ _ _=>GT
def aH:fp prog 3 false:=λ_=>GT
def fk:Fd prog 41 1 1:=λ_ _ _=>GT
def bS:fp prog 41 true:=λ_=>GT
def bq:fA prog 41 2:=λ_=>GT
def UE:Enters prog 185 :=bO func185
def UF:Enters prog 186 :=bO func186
def cO:fA prog 3 1:=λ_=>GT
def s8:Fd prog 24 0 0:=λ_ _ _=>GT
def l_:Enters prog 22 :=bO func22
def I5:Fd prog 24 1 1:=λ_ _ _=>GT
def qK:Fd prog 24 2 2:=λ_ _ _=>GT
def et:fp prog 22 false:=λ_=>GT
def gA:fp prog 24 true:=λ_=>GT
def gB:fA prog 24 3:=λ_=>GT
def L2:Enters prog 136 :=bO func136
def L4:Enters prog 137 :=bO func137
def Pw:mB prog 193 (.agg #[.int .i64 0,.int .i64 0,.int .i64 0,.int .i64 0]):=λ_=>GT
def Ap:fA prog 193 4:=λ_=>GT
def Uv:fp prog 193 true:=λ_=>GT
def GO:Enters prog 197 :=bO func197
def pk:mB prog 41 (.agg #[.int .i64 0,.int .i64 0]):=λ_=>GT
def akK:Enters prog 210 :=bO func210
def aCM:Enters prog 209 :=bO func209
def akM:Enters prog 204 :=bO func204
def abm:Enters prog 106 :=bO func106
def akO:Enters prog 180 :=bO func180
def akR:Enters prog 177 :=bO func177
def rk:fA prog 291 4:=λ_=>GT
def UA:Fd prog 291 2 3:=λ_ _ _=>GT
def UB:fp prog 291 true:=λ_=>GT
def r5:fp prog 251 false:=λ_=>GT
def UC:Enters prog 229 :=bO func229
def UD:Enters prog 230 :=bO func230
def ak2:fA prog 251 1:=λ_=>GT
def ak3:mB prog 291 (.agg #[.int .i64 0,.int .i64 0,.int .i64 0,.int .i64 0]):=λ_=>GT
def aDP:Enters prog 232 :=bO func232
def PB:Enters prog 202 :=bO func202
def aDQ:Enters prog 207 :=bO func207
def aDR:Enters prog 208 :=bO func208
def aDS:Enters prog 231 :=bO func231
def ak4:Fd prog 253 0 0:=λ_ _ _=>GT
def uq:Enters prog 166 :=bO func166
def aDT:Enters prog 193 :=bO func193
def aDU:mB prog 248 (.agg #[.int .i64 0,.int .i64 0,.int .i64 0,.int .i64 0,.int .i64 0,.int .i64 0,.int .i64 0,.int .i64 0]):=λ_=>GT
def ak5:fA prog 248 8:=λ_=>GT
def aDV:fp prog 248 true:=λ_=>GT
def ak6:Fd prog 253 1 3:=λ_ _ _=>GT
def ak7:Enters prog 149 :=bO func149
def I9:Fd prog 253 3 6:=λ_ _ _=>GT
def aDW:Enters prog 201 :=bO func201
def pn:Enters prog 162 :=bO func162
def rm:Fd prog 253 2 5:=λ_ _ _=>GT
def aDX:Enters prog 203 :=bO func203
def abu:Fd prog 291 0 0:=λ_ _ _=>GT
def ak8:Fd prog 291 1 2:=λ_ _ _=>GT
def ak9:Enters prog 161 :=bO func161
def abv:Enters prog 160 :=bO func160
def abw:Enters prog 191 :=bO func191
def aDY:Enters prog 200 :=bO func200
def ala:Enters prog 190 :=bO func190
def alb:Enters prog 192 :=bO func192
def alc:Enters prog 159 :=bO func159
def ald:Enters prog 163 :=bO func163
def aDZ:Enters prog 199 :=bO func199
def ale:Enters prog 187 :=bO func187
def Ar:Fd prog 68 2 2:=λ_ _ _=>GT
def abx:Enters prog 123 :=bO func123
def ld:Fd prog 68 3 3:=λ_ _ _=>GT
def ur:Fd prog 68 1 1:=λ_ _ _=>GT
def aD0:Fd prog 193 1 1:=λ_ _ _=>GT
def lA:Fd prog 28 0 0:=λ_ _ _=>GT
def aD1:Enters prog 150 :=bO func150
def cD:fp prog 28 true:=λ_=>GT
def bP:fA prog 28 9:=λ_=>GT
def L7:Enters prog 95 :=bO func95
def fC:Fd prog 28 4 6:=λ_ _ _=>GT
def gR:fp prog 26 false:=λ_=>GT
def s_:mB prog 68 (.agg #[.int .i64 0,.int .i64 0,.int .i64 0,.int .i64 0,.int .i64 0,.int .i64 0,.int .i64 0]):=λ_=>GT
def r6:Fd prog 68 0 0:=λ_ _ _=>GT
def I_:fA prog 207 2:=λ_=>GT
def aby:fp prog 207 true:=λ_=>GT
def aD2:mB prog 207 (.agg #[.int .i64 0,.int .i64 0]):=λ_=>GT
def abz:Fd prog 207 0 0:=λ_ _ _=>GT
def UG:mB prog 3 (.int .i64 0):=λ_=>GT
def abA:Fd prog 207 1 1:=λ_ _ _=>GT
def abB:fA prog 4 1:=λ_=>GT
def At:fp prog 4 false:=λ_=>GT
def aD3:Enters prog 122 :=bO func122
def aD4:Fd prog 193 2 2:=λ_ _ _=>GT
def nO:mB prog 28 (.agg #[.int .i64 0,.int .i64 0,.slice none 0 0,.slice none 0 0,.slice none 0 0,.slice none 0 0,.slice none 0 0,.int .i64 0,.int .i64 0]):=λ_=>GT
def Au:Enters prog 25 :=bO func25
def td:fA prog 22 1:=λ_=>GT
def lY:Fd prog 28 1 3:=λ_ _ _=>GT
def lZ:fp prog 25 false:=λ_=>GT
def oJ:Fd prog 28 2 4:=λ_ _ _=>GT
def abC:Enters prog 26 :=bO func26
def UH:fA prog 25 1:=λ_=>GT
def rZ:Fd prog 28 3 5:=λ_ _ _=>GT
def Pv:Enters prog 27 :=bO func27
def Eb:fA prog 26 1:=λ_=>GT
def aBY:Enters prog 93 :=bO func93
def aBZ:Enters prog 94 :=bO func94
def Ec:Fd prog 68 4 5:=λ_ _ _=>GT
def LZ:fA prog 216 3:=λ_=>GT
def akr:fp prog 216 true:=λ_=>GT
def aks:Fd prog 216 0 0:=λ_ _ _=>GT
def L0:fp prog 218 false:=λ_=>GT
def aB0:Enters prog 131 :=bO func131
def aB1:mB prog 218 (.pointer none):=λ_=>GT
def aB2:fA prog 218 1:=λ_=>GT
def aB3:Enters prog 130 :=bO func130
def akt:Fd prog 216 1 1:=λ_ _ _=>GT
def aB4:Enters prog 132 :=bO func132
def aB5:Enters prog 102 :=bO func102
def aB6:Enters prog 103 :=bO func103
def r0:Fd prog 188 1 1:=λ_ _ _=>GT
def Ur:Enters prog 164 :=bO func164
def Us:Enters prog 165 :=bO func165
def r3:Fd prog 68 5 6:=λ_ _ _=>GT
def GK:Fd prog 188 2 2:=λ_ _ _=>GT
def p2:Fd prog 186 0 0:=λ_ _ _=>GT
def aa5:Enters prog 144 :=bO func144
def I6:Fd prog 188 3 4:=λ_ _ _=>GT
def aku:Fd prog 193 3 3:=λ_ _ _=>GT
def vQ:Fd prog 28 5 7:=λ_ _ _=>GT
def aB7:Enters prog 167 :=bO func167
def aB8:Fd prog 193 0 0:=λ_ _ _=>GT
def akv:Fd prog 188 0 0:=λ_ _ _=>GT
def Ed:fp prog 188 true:=λ_=>GT
def vR:fA prog 188 5:=λ_=>GT
def aB9:Enters prog 133 :=bO func133
def aCa:Enters prog 134 :=bO func134
def aCb:Enters prog 135 :=bO func135
def aCc:Enters prog 104 :=bO func104
def aCd:mB prog 186 (.agg #[.int .i64 0,.int .i64 0,.slice none 0 0,.slice none 0 0,.slice none 0 0,.slice none 0 0,.slice none 0 0,.int .i64 0,.int .i64 0]):=λ_=>GT
def aCe:fA prog 186 9:=λ_=>GT
def aa6:mB prog 188 (.agg #[.int .i64 0,.int .i64 0,.int .i64 0,.int .i64 0,.int .i64 0]):=λ_=>GT
def aCf:Enters prog 105 :=bO func105
def aa7:Enters prog 75 :=bO func75
def aCg:Enters prog 73 :=bO func73
def aCh:Enters prog 74 :=bO func74
def aCi:Enters prog 76 :=bO func76
def yJ:Fd prog 28 6 8:=λ_ _ _=>GT
def GL:mB prog 43 (.agg #[.int .i64 0,.int .i64 0,.int .i64 0,.int .i64 0,.int .i64 0,.int .i64 0]):=λ_=>GT
def lz:Fd prog 43 1 1:=λ_ _ _=>GT
def vS:Fd prog 43 2 2:=λ_ _ _=>GT
def xv:Fd prog 43 3 3:=λ_ _ _=>GT
def yK:Fd prog 43 4 5:=λ_ _ _=>GT
def iw:fp prog 43 true:=λ_=>GT
def eu:fA prog 43 6:=λ_=>GT
def ri:Fd prog 43 0 0:=λ_ _ _=>GT
def L1:Enters prog 58 :=bO func58
def aCj:Enters prog 59 :=bO func59
def aa8:Enters prog 34 :=bO func34
def aa9:Fd prog 181 0 0:=λ_ _ _=>GT
def akw:fp prog 138 false:=λ_=>GT
def aCk:fA prog 138 1:=λ_=>GT
def aba:Fd prog 181 1 1:=λ_ _ _=>GT
def akx:fp prog 139 false:=λ_=>GT
def aCl:fA prog 139 1:=λ_=>GT
def I7:Fd prog 181 2 2:=λ_ _ _=>GT
def Ut:fp prog 140 false:=λ_=>GT
def abb:fA prog 140 1:=λ_=>GT
def abc:Enters prog 60 :=bO func60
def aCm:mB prog 181 (.agg #[.slice none 0 0,.slice none 0 0,.slice none 0 0]):=λ_=>GT
def aky:Enters prog 101 :=bO func101
def GM:mB prog 106 (.agg #[.slice none 0 0,.slice none 0 0,.slice none 0 0]):=λ_=>GT
def abd:Enters prog 70 :=bO func70
def yL:fA prog 106 3:=λ_=>GT
def L3:fp prog 106 true:=λ_=>GT
def akz:Enters prog 65 :=bO func65
def akA:Fd prog 106 0 0:=λ_ _ _=>GT
def aCn:Enters prog 71 :=bO func71
def akB:Fd prog 106 1 1:=λ_ _ _=>GT
def aCo:Enters prog 72 :=bO func72
def akC:Fd prog 106 2 2:=λ_ _ _=>GT
def akD:fA prog 104 1:=λ_=>GT
def akE:Enters prog 61 :=bO func61
def aCp:Enters prog 128 :=bO func128
def Uu:Enters prog 96 :=bO func96
def aCq:Enters prog 97 :=bO func97
def akF:Enters prog 66 :=bO func66
def Ao:fA prog 76 1:=λ_=>GT
def nb:fp prog 76 false:=λ_=>GT
def abe:Enters prog 44 :=bO func44
def Ee:Fd prog 31 0 0:=λ_ _ _=>GT
def uo:Fd prog 31 1 9:=λ_ _ _=>GT
def yM:fp prog 29 false:=λ_=>GT
def Px:Enters prog 41 :=bO func41
def aCr:Enters prog 118 :=bO func118
def ih:fA prog 78 3:=λ_=>GT
def vT:fp prog 78 true:=λ_=>GT
def aCs:Enters prog 82 :=bO func82
def Cp:Fd prog 78 1 1:=λ_ _ _=>GT
def Cq:Fd prog 78 2 2:=λ_ _ _=>GT
def p3:Fd prog 78 0 0:=λ_ _ _=>GT
def aCt:Enters prog 84 :=bO func84
def aCu:Enters prog 83 :=bO func83
def aCv:Enters prog 55 :=bO func55
def aCw:Enters prog 54 :=bO func54
def GN:mB prog 78 (.agg #[.slice none 0 0,.int .i64 0,.bool false]):=λ_=>GT
def aCx:Enters prog 56 :=bO func56
def aCy:Enters prog 62 :=bO func62
def aCz:Enters prog 67 :=bO func67
def aCA:Enters prog 68 :=bO func68
def aCB:mB prog 76 (.slice none 0 0):=λ_=>GT
def aCC:Enters prog 69 :=bO func69
def aCD:Enters prog 100 :=bO func100
def abf:mB prog 31 (.agg #[.int .i64 0,.int .i64 0,.slice none 0 0,.slice none 0 0,.slice none 0 0,.slice none 0 0,.slice none 0 0,.int .i64 0,.int .i64 0,.slice none 0 0]):=λ_=>GT
def rj:fA prog 31 10:=λ_=>GT
def Aq:fp prog 31 true:=λ_=>GT
def Py:Enters prog 28 :=bO func28
def abg:fA prog 29 1:=λ_=>GT
def Uw:Enters prog 31 :=bO func31
def abh:Enters prog 35 :=bO func35
def vU:fA prog 34 1:=λ_=>GT
def ob:fp prog 34 false:=λ_=>GT
def akG:Enters prog 85 :=bO func85
def r4:Fd prog 37 0 0:=λ_ _ _=>GT
def vV:Fd prog 37 1 1:=λ_ _ _=>GT
def yN:fp prog 35 false:=λ_=>GT
def aCE:Enters prog 87 :=bO func87
def aCF:Enters prog 86 :=bO func86
def oc:fp prog 37 true:=λ_=>GT
def ky:fA prog 37 2:=λ_=>GT
def abi:Enters prog 57 :=bO func57
def Ux:mB prog 37 (.agg #[.int .u32 0,.slice none 0 0]):=λ_=>GT
def akH:Enters prog 32 :=bO func32
def abj:Enters prog 63 :=bO func63
def akI:Enters prog 29 :=bO func29
def akJ:fA prog 35 1:=λ_=>GT
def aCG:Enters prog 64 :=bO func64
def L5:mB prog 39 (.agg #[.int .i64 0,.int .i64 0,.slice none 0 0,.slice none 0 0,.slice none 0 0,.slice none 0 0,.slice none 0 0,.int .i64 0,.int .i64 0,.slice none 0 0,.slice none 0 0,.int .u32 0,.slice none 0 0,.int .i64 0]):=λ_=>GT
def xw:Fd prog 39 0 0:=λ_ _ _=>GT
def nN:Fd prog 39 1 10:=λ_ _ _=>GT
def p4:fp prog 33 false:=λ_=>GT
def Uy:fA prog 33 1:=λ_=>GT
def s9:Fd prog 39 2 11:=λ_ _ _=>GT
def kQ:fp prog 39 true:=λ_=>GT
def gC:fA prog 39 14:=λ_=>GT
def aCH:Enters prog 30 :=bO func30
def I8:Fd prog 39 3 13:=λ_ _ _=>GT
def akL:Enters prog 33 :=bO func33
def aCI:Enters prog 36 :=bO func36
def aCJ:Enters prog 37 :=bO func37
def aCK:Enters prog 38 :=bO func38
def aCL:Enters prog 39 :=bO func39
def aCN:Enters prog 40 :=bO func40
def aCO:Enters prog 9 :=bO func9
def aCP:Enters prog 10 :=bO func10
def abk:Fd prog 45 0 0:=λ_ _ _=>GT
def aCQ:Fd prog 45 1 1:=λ_ _ _=>GT
def aCR:Enters prog 11 :=bO func11
def aCS:Enters prog 12 :=bO func12
def aCT:Fd prog 45 2 7:=λ_ _ _=>GT
def aCU:Fd prog 45 3 8:=λ_ _ _=>GT
def aCV:Enters prog 13 :=bO func13
def aCW:Enters prog 42 :=bO func42
def aCX:fA prog 9 1:=λ_=>GT
def aCY:fp prog 9 false:=λ_=>GT
def aCZ:Enters prog 43 :=bO func43
def akN:Enters prog 15 :=bO func15
def aC0:Enters prog 14 :=bO func14
def abl:Enters prog 4 :=bO func4
def aC1:Enters prog 16 :=bO func16
def Pz:fp prog 254 false:=λ_=>GT
def PA:Enters prog 176 :=bO func176
def aC2:Enters prog 175 :=bO func175
def aC3:mB prog 22 (.slice none 0 0):=λ_=>GT
def aC4:mB prog 254 (.nilFunc):=λ_=>GT
def aC5:fA prog 254 1:=λ_=>GT
def aC6:Enters prog 179 :=bO func179
def aC7:Enters prog 178 :=bO func178
def abn:Enters prog 171 :=bO func171
def L6:Enters prog 108 :=bO func108
def aC8:Enters prog 198 :=bO func198
def aC9:Enters prog 174 :=bO func174
def aDa:Enters prog 173 :=bO func173
def aDb:Enters prog 172 :=bO func172
def aDc:Enters prog 142 :=bO func142
def akP:Enters prog 181 :=bO func181
def aDd:mB prog 216 (.agg #[.int .i64 0,.int .i64 0,.int .i64 0]):=λ_=>GT
def aDe:Enters prog 143 :=bO func143
def aDf:mB prog 25 (.slice none 0 0):=λ_=>GT
def aDg:Enters prog 145 :=bO func145
def aDh:Enters prog 182 :=bO func182
def akQ:Enters prog 183 :=bO func183
def abo:Enters prog 107 :=bO func107
def aDi:Enters prog 184 :=bO func184
def aDj:Enters prog 80 :=bO func80
def akS:Enters prog 52 :=bO func52
def abp:Enters prog 141 :=bO func141
def aDk:Enters prog 146 :=bO func146
def abq:fA prog 5 1:=λ_=>GT
def akT:Enters prog 196 :=bO func196
def abr:Enters prog 168 :=bO func168
def aDl:Enters prog 169 :=bO func169
def akU:Enters prog 170 :=bO func170
def abt:Enters prog 140 :=bO func140
def aDm:fp prog 5 false:=λ_=>GT
def aDn:Enters prog 138 :=bO func138
def aDo:Enters prog 139 :=bO func139
def akV:fA prog 129 1:=λ_=>GT
def akW:fp prog 129 false:=λ_=>GT
def Uz:Enters prog 109 :=bO func109
def aDp:Enters prog 110 :=bO func110
def aDq:Enters prog 111 :=bO func111
def akX:Enters prog 77 :=bO func77
def aDr:Enters prog 112 :=bO func112
def aDs:Enters prog 113 :=bO func113
def aDt:Enters prog 114 :=bO func114
def aDu:Enters prog 115 :=bO func115
def aDv:Enters prog 116 :=bO func116
def aDw:Enters prog 117 :=bO func117
def akY:Enters prog 78 :=bO func78
def aDx:Enters prog 79 :=bO func79
def aDy:Enters prog 51 :=bO func51
def aDz:Enters prog 19 :=bO func19
def aDA:Enters prog 20 :=bO func20
def aDB:Enters prog 21 :=bO func21
def aDC:Enters prog 23 :=bO func23
def akZ:Enters prog 48 :=bO func48
def aDD:Enters prog 45 :=bO func45
def aDE:Enters prog 47 :=bO func47
def aDF:Enters prog 46 :=bO func46
def aDG:Enters prog 50 :=bO func50
def aDH:Enters prog 49 :=bO func49
def aDI:Enters prog 24 :=bO func24
def aDJ:Enters prog 17 :=bO func17
def aDK:Enters prog 18 :=bO func18
def ak0:Enters prog 8 :=bO func8
def aDL:fp prog 45 true:=λ_=>GT
def aDM:fA prog 45 9:=λ_=>GT
def ak1:Enters prog 5 :=bO func5
def aDN:Enters prog 6 :=bO func6
def aDO:Enters prog 7 :=bO func7
end
end Go.Proofs.YtooonebcoaleiaaGreat
