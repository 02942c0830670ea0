import Derived.Test.YtmeeljmapailnaaGreatBas
import Derived.Test.YtmeeljmapailnaaGreatProg
import Derived.WideMake
set_option linter.unusedVariables false
set_option linter.unusedSimpArgs false
set_option maxRecDepth 100000
set_option maxHeartbeats 4000000
open Go.RowKit
namespace Go.Proofs.YtmeeljmapailnaaGreat
open Tryz
open Tryz
abbrev aTB:=@List.getD_eq_getElem?_getD
abbrev aTN:=@List.length_nil
abbrev aT1:=@List.mem_cons_self
abbrev aT3:=@decide_eq_true
abbrev aT4:=@decide_eq_false
abbrev aUx:=@Int.toNat_natCast
abbrev aUJ:=@Nat.min_eq_left
abbrev aUO:=@List.getElem?_replicate
abbrev aVj:=@Nat.succ_mul
abbrev aVl:=@Nat.lt_of_lt_of_le
abbrev aVq:=@Nat.le_of_ble_eq_true
abbrev aVH:=@of_decide_eq_false
abbrev aVP:=@And.left
abbrev aWj:=@Go.run_sliceAt_slice
abbrev aWl:=@Nat.add_assoc
abbrev aWB:=@Nat.mul_one
abbrev aWE:=@Nat.lt_succ_iff_lt_or_eq
abbrev aWW:=@Nat.eq_of_beq_eq_true
abbrev aWZ:=@List.getElem?_toArray
abbrev aW3:=@List.mem_of_mem_drop
abbrev aXe:=@Go.size_madeCells
abbrev aXf:=@Prod.mk.injEq
abbrev aXp:=@Go.MapKept.run_findKey
abbrev aXt:=@Nat.add_comm
abbrev aXN:=@List.drop_append_of_le_length
abbrev aXQ:=@Array.getD_eq_getD_getElem?
abbrev aX1:=@Array.getElem?_append_left
abbrev aYa:=@List.getElem?_take_of_lt
abbrev aYf:=@getElem!_pos
abbrev aYj:=@Nat.ne_of_beq_eq_false
abbrev aYm:=@List.drop_of_length_le
abbrev aYy:=@Array.size_replicate
abbrev aYD:=@List.replicate_succ
abbrev aYG:=@List.drop_succ_cons
abbrev aYO:=@not_true_eq_false
abbrev aYT:=@Go.MapKept.run_checkKey

def e_ (n:Int):Prop:=(Lit.int .i64 n).wf=true
theorem bY {n:Int}:e_ n↔ -9223372036854775808≤n∧n≤9223372036854775807:=by
 unfold e_;simp [Lit.wf,IntKind.min,IntKind.max,IntKind.signed,IntKind.bits]
def bW:aa Int:=aa.flat 1 (fun n=> [.int .i64 n]) e_ (fun _ u=>∃ n:Int,u= .int .i64 n) (fun _=>rfl) (by intro a u hu;simp at hu;subst hu;rfl) (by
 intro a j u hu;cases j with
 | zero=>simp at hu;exact ⟨a,hu.symm⟩
 | succ j=>simp at hu)
def zW:aa Bool:=aa.flat 1 (fun n=> [.bool n]) (fun _=>True) (fun _ u=>∃ n:Bool,u= .bool n) (fun _=>rfl) (by intro a u hu;simp at hu;subst hu;rfl) (by
 intro a j u hu;cases j with
 | zero=>simp at hu;exact ⟨a,hu.symm⟩
 | succ j=>simp at hu)
def mj:aa ByteArray:=aa.Wu 1 (fun n=> [.string n]) (fun s=>s.size≤140737488351232) (fun _ u=>∃ n:ByteArray,u= .string n∧n.size≤140737488351232) (fun _=>rfl) (by intro a u hu;simp at hu;subst hu;rfl) (by
 intro a ok j u hu;cases j with
 | zero=>simp at hu;exact ⟨a,hu.symm,ok⟩
 | succ j=>simp at hu)
theorem ak6:bW.Plain:=aa.n1
theorem aEn:mj.re:=aa.avO
section
variable {by_:Nat} {w:World} {A:Option Addr} {c:Nat}
theorem Gg {l:List Int} (h:bW.aG by_ w A c l) (aK:0<l.length):∃ b o,A=some ⟨b,o,none⟩∧∀ (i:Nat) (a:Int),l[i]? =some a→w.cell? ⟨b,o+i,none⟩=some (.int .i64 a):=by
 obtain ⟨b,o,e,hc⟩:=h.at_ aK;refine ⟨b,o,e,fun i a ha=> ?_⟩;obtain ⟨es,⟨rfl,_⟩,aA⟩:=hc i a ha;have:=aA 0 _ rfl;simpa [bW,aa.flat] using this
end
theorem ZI (w:World) (cs:List Value) (h:(.int .i64:gK).jn w cs):∃ a,bW.has w cs a:=by
 obtain ⟨n,rfl,hn⟩:=h;exact ⟨n,Z,hn⟩
theorem Jd {by_:Nat} {w:World} {A:Option Addr} {c:Nat} {l:List Int} (h:bW.aG by_ w A c l):∀ a∈l,e_ a:=aa.aG.y7 (R:=bW) (Q:=e_) (fun {w cs a} (h:bW.has w cs a)=>(show cs= [.int .i64 a]∧e_ a from h).2) h
theorem DD:(prog.info? 3).map (fun i=>(i.zero,i.size,i.bytes))=some (some (.int .i64 0),1,8):=by kernel_rfl
theorem gH {α:Type} {l:List α} {i:Nat} (h:i<l.length):∃ a,l[i]? =some a:=⟨_,aTF h⟩
open Tryz
theorem aIf:∀ (j:Nat) u,(Value.int .i64 0).cells[j]? =some u→bW.raw j u:=by
 intro j u hu;have hu:(#[Value.int .i64 0]:Array Value)[j]? =some u:=hu
 match j,hu with
 | 0,hu=>exact ⟨0,(aTA hu).symm⟩
 | j+1,hu=>cases hu
open Tryz

abbrev Env:=List (Nat×Value)
def look:List (Nat×Value)→Nat→Option Value
 | [],_=>none
 | (k,v)::r,t=>match Nat.beq k t with | true=>some v | false=>look r t
structure eD (n:Nat) (E:List (Nat×Value)) (a:Act):Prop where
 d:a.defers= []
 s:a.tmps.size=n
 g:∀ t v,look E t=some v→a.tmps[t]? =some v
def ev (E:List (Nat×Value)):Operand→Option Value
 | .tmp t=>look E t
 | .const v=>some v
 | .global g=>some (.pointer (some ⟨g,0,none⟩))
 | .func f=>some (.func (.func f) #[] #[])
def gX (E:List (Nat×Value)):List Operand→Option (List Value)
 | []=>some []
 | x::r=>match ev E x with
  | some v=>match gX E r with
   | some l=>some (v::l)
   | none=>none
  | none=>none
section
variable {P:Program} {n:Nat} {E cO:List (Nat×Value)} {a:Act} {w w' aS:World} {Q:Exit→Act→World→Prop} {ops:Array Oper} {v:Value}
theorem eD.ev {x:Operand} (h:eD n E a) (hx:ev E x=some v):a.eval x=v:=by
 cases x with
 | tmp t=>have:=h.g t v hx;simp [Act.eval,this]
 | const u=>exact aTA hx
 | global g=>exact aTA hx
 | func f=>exact aTA hx
theorem eD.gX (h:eD n E a):∀ {l:List Operand} {vs:List Value},gX E l=some vs→l.map a.eval=vs
 | [],_,e=>by simp only [Proofs.YtmeeljmapailnaaGreat.gX] at e;exact aTA e
 | x::r,vs,e=>by
  simp only [Proofs.YtmeeljmapailnaaGreat.gX] at e;cases hx:Proofs.YtmeeljmapailnaaGreat.ev E x with
  | none=>rw [hx] at e;cases e
  | some v =>
   rw [hx] at e;simp only at e;cases hr:Proofs.YtmeeljmapailnaaGreat.gX E r with
   | none=>rw [hr] at e;cases e
   | some l =>
    rw [hr] at e;simp only at e;obtain rfl:=aTA e;rw [aUs,h.ev hx,eD.gX h hr]
theorem eD.put {d:Nat} (h:eD n E a) (hd:Nat.blt d n=true) (v:Value):eD n ((d,v)::E) (a.put (some d) v):=by
 rw [aXk] at hd;refine ⟨h.d,by simp [Act.put,h.s],fun t u hu=> ?_⟩;simp only [look] at hu;cases γ:Nat.beq d t with
 | true =>
  rw [γ] at hu;obtain rfl:d=t:=aWW γ;obtain rfl:=aTA hu;simp [Act.put,h.s,hd]
 | false =>
  rw [γ] at hu;have eY:d≠t:=aYj γ;simp only [Act.put];rw [aVA eY];exact h.g t u hu
theorem eD.none (h:eD n E a) (v:Value):eD n E (a.put none v):=h
def Sub (cO E:List (Nat×Value)):Prop:=∀ t v,look cO t=some v→look E t=some v
theorem Sub.nil:Sub [] E:=fun t v h=>by simp [look] at h
theorem Sub.cons {k:Nat} (h:look E k=some v) (hs:Sub cO E):Sub ((k,v)::cO) E:=fun t u hu=>by
 simp only [look] at hu;cases γ:Nat.beq k t with
 | true=>rw [γ] at hu;obtain rfl:k=t:=aWW γ;obtain rfl:=aTA hu;exact h
 | false=>rw [γ] at hu;exact hs t u hu
theorem eD.sub (h:eD n E a) (hs:Sub cO E):eD n cO a:=⟨h.d,h.s,fun t v hv=>h.g t v (hs t v hv)⟩
def W (P:Program) (n:Nat) (c:Code) (Q:Exit→Act→World→Prop) (E:List (Nat×Value)) (w:World):Prop:=∀ a,eD n E a→c.wp P Q a w
def N (n:Nat) (Q:Exit→Act→World→Prop) (E:List (Nat×Value)) (w:World):Prop:=∀ a,eD n E a→Q .normal a w
def X (n:Nat) (Q:Exit→Act→World→Prop) (id:Nat) (E:List (Nat×Value)) (w:World):Prop:=∀ a,eD n E a→Q (.exit id) a w
def T (n:Nat) (Q:Exit→Act→World→Prop) (E:List (Nat×Value)) (w:World):Prop:=∀ a,eD n E a→Q .ret a w
def cy (P:Program) (n:Nat) (ops:Array Oper) (Q:Exit→Act→World→Prop) (l:List Oper) (E:List (Nat×Value)) (w:World):Prop:=∀ a,eD n E a→wpList P ops Q l a w
abbrev rp (P:Program) (y:Code) (Q:Exit→Act→World→Prop):Exit→Act→World→Prop:=Exit.then (fun a w=>y.wp P Q a w) Q
theorem ay {x y:Code} (h:W P n x (rp P y Q) E w):W P n (.seq x y) Q E w:=fun a ha=>wp_seq (h a ha)
theorem ei (h:N n Q E w):W P n .skip Q E w:=fun a ha=>wp_skip (h a ha)
theorem rt (h:T n Q E w):W P n .ret Q E w:=fun a ha=>wp_ret (h a ha)
theorem cV {id:Nat} (h:X n Q id E w):W P n (.exit id) Q E w:=fun a ha=>wp_exit (h a ha)
theorem bu {id:Nat} {c:Code} (h:W P n c (Exit.inBlock id Q) E w):W P n (.block id c) Q E w:=fun a ha=>wp_block (h a ha)
theorem rg {id:Nat} {l:List Oper} (h:cy P n l.toArray Q l E w):W P n (.region id l.toArray false) Q E w:=fun a ha=>wp_region_lit (h a ha)
theorem fH {c:Operand} {x y:Code} (hc:ev E c=some (.bool true)) (h:W P n x Q E w):W P n (.cond c x y) Q E w:=fun a ha=>wp_cond_true (ha.ev hc) (h a ha)
theorem hj {c:Operand} {x y:Code} (hc:ev E c=some (.bool false)) (h:W P n y Q E w):W P n (.cond c x y) Q E w:=fun a ha=>wp_cond_false (ha.ev hc) (h a ha)
theorem Vo {c:Operand} {x y:Code} (b:Bool) (hc:ev E c=some (.bool b)) (τ:b=true→W P n x Q E w) (ae:b=false→W P n y Q E w):W P n (.cond c x y) Q E w :=
 fun a ha=>wp_cond_split (ha.ev hc) (fun h=>τ h a ha) (fun h=>ae h a ha)
theorem dn {c:Operand} {x y:Code} {b:Bool} (hc:ev E c=some (.bool b)) (τ:b=true→W P n x Q E w) (ae:b=false→W P n y Q E w):W P n (.cond c x y) Q E w:=Vo b hc τ ae
theorem nl (h:N n Q E w):cy P n ops Q [] E w:=h
theorem aP {y:Code} (h:W P n y Q E w):N n (rp P y Q) E w:=h
theorem bU {id:Nat} (h:N n Q E w):N n (Exit.inBlock id Q) E w:=h
theorem cU {y:Code} {id:Nat} (h:X n Q id E w):X n (rp P y Q) id E w:=h
theorem c' {K:Act→World→Prop} {id:Nat} (h:X n Q id E w):X n (Exit.then K Q) id E w:=h
theorem cT {id:Nat} (h:N n Q E w):X n (Exit.inBlock id Q) id E w:=fun a ha=>by simp only [Exit.inBlock,aVo];exact h a ha
theorem NT {id Rw:Nat} (eY:Nat.beq Rw id=false) (h:X n Q Rw E w):X n (Exit.inBlock id Q) Rw E w:=fun a ha=>by simp only [Exit.inBlock,aTL (aYj eY)];exact h a ha
theorem bP {y:Code} (h:T n Q E w):T n (rp P y Q) E w:=h
theorem kB {K:Act→World→Prop} (h:T n Q E w):T n (Exit.then K Q) E w:=h
theorem dV {id:Nat} (h:T n Q E w):T n (Exit.inBlock id Q) E w:=h
def CU:Nat→List Value→List (Nat×Value)
 | _, []=> []
 | i,v::r=>(i,v)::CU (i+1) r
theorem U1:∀ (l:List Value) (i t:Nat) (v:Value),look (CU i l) t=some v→∃ j,t=i+j∧l[j]? =some v
 | [],_,_,_,h=>by simp [CU,look] at h
 | u::r,i,t,v,h=>by
  simp only [CU,look] at h;cases γ:Nat.beq i t with
  | true=>rw [γ] at h;exact ⟨0,by have:=aWW γ;omega,by simpa using h⟩
  | false =>
   rw [γ] at h;obtain ⟨j,e,aA⟩:=U1 r (i+1) t v h;exact ⟨j+1,by omega,by simpa using aA⟩
theorem b' {f:FuncId} {fn:Func} {c:Code} {l:List Value} {R:Ending→World→Prop} (hf:P.funcs[f]? =some fn) (γ:fn.body=some c) (hn:fn.ntmps=n) (aC:Nat.ble l.length n=true)
  (h:W P n c (bodyPost P fn R) (CU 0 l) w):Calls P f l.toArray w R:=by
 refine calls_of_wp hf γ (h _ ⟨Z, ?_,fun t v hv=> ?_⟩)
 ·have:=aVq aC;simp only [aXB,aYy,hn,aVe];omega
 ·obtain ⟨j,e,aA⟩:=U1 l 0 t v hv;have bA:=(aTC.1 aA).1;rw [aX1 (by simp;omega)];simpa [show t=j by omega] using aA
inductive wR (P:Program) (E:List (Nat×Value)) (w:World):List ResultVar→List Value→Prop
 | nil:wR P E w [] []
 | tmp {t:Nat} {v:Value} {r:List ResultVar} {vs:List Value} (h:look E t=some v) (hr:wR P E w r vs):wR P E w (.tmp t::r) (v::vs)
 | cell {t:Nat} {ty:TypeId} {p:Addr} {v:Value} {r:List ResultVar} {vs:List Value} (h:look E t=some (.pointer (some p))) (aC:(loadVar ty p).run P w= .ok v w) (hr:wR P E w r vs):wR P E w (.cell t ty::r) (v::vs)
def q0:List Value→Value
 | [v]=>v
 | vs=> .tuple vs.toArray
theorem wR.run {l:List ResultVar} {vs:List Value} (h:wR P E w l vs) (ha:eD n E a) (f:ResultVar→Sem Value) (f1:∀ t,f (.tmp t)=pure (a.tmps.getD t undef)) (f2:∀ c t,f (.cell c t)=(asAddr (a.tmps.getD c undef)>>= fun p=>loadVar t p)):
  (l.mapM f).run P w= .ok vs w:=by
 induction h with
 | nil=>rfl
 | @tmp t v r vs h hr bK =>
  have ae:a.tmps.getD t undef=v:=by rw [aXQ,ha.g _ _ h];rfl
  simp only [List.mapM_cons,aTQ,f1,ae,aTV,aTJ,bK]
 | @cell t ty p v r vs h aC hr bK =>
  have ae:a.tmps.getD t undef= .pointer (some p):=by rw [aXQ,ha.g _ _ h];rfl
  simp only [List.mapM_cons,aTQ,f2,ae,asAddr,aTV,aTJ,aC,bK]
theorem ZQ {fn:Func} {vs:List Value} (h:wR P E w fn.results.toList vs) (ha:eD n E a):(results fn a.tmps).run P w= .ok (q0 vs) w:=by
 unfold results;rw [Array.mapM_eq_mapM_toList];simp only [aTQ,Sem.run_map];rw [h.run ha _ (fun _=>rfl) (fun _ _=>rfl)]
 match vs with
 | []=>rfl
 | [v]=>rfl
 | _::_::_=>simp [q0]
theorem aV {fn:Func} {R:Ending→World→Prop} {vs:List Value} (h:wR P E w fn.results.toList vs) (hR:R (.returned (q0 vs)) w):T n (bodyPost P fn R) E w :=
 fun a ha=>⟨ha.d,_,ZQ h ha,hR⟩
def OT (n:Nat) (iz:Nat→List (Nat×Value)→World→Prop) (m:Nat):Act→World→Prop:=fun a w=>∃ m',m'<m∧∃ cO,iz m' cO w∧eD n cO a
theorem dx {c:Code} (iz:Nat→List (Nat×Value)→World→Prop) (m:Nat) (cO:List (Nat×Value)) (aK:iz m cO w) (hs:Sub cO E)
  (round:∀ m E w,iz m E w→W P n c (Exit.then (OT n iz m) Q) E w):W P n (.loop c) Q E w:=fun a ha=>by
 intro b k cs;have key:∀ m a w,(∃ E,iz m E w∧eD n E a)→∃ e a' w',Q e a' w'∧Arrives P (lone (b.at a (.code c:: .inLoop c::k)) cs w) b k cs e a' w':=by
  intro m;induction m using Nat.strongRecOn with
  | _ m bK =>
   intro a w ⟨E,oU,ha⟩;obtain ⟨e,cF,aS,I,pT⟩:=round m E w oU a ha b (.inLoop c::k) cs;cases e with
   | normal =>
    obtain ⟨m',bA,W2⟩:=I;obtain ⟨bb,a2,cS,vK,Xt⟩:=bK m' bA cF aS W2;exact ⟨bb,a2,cS,vK, .of_steps (Steps.trans pT (.one step_inLoop)) Xt⟩
   | exit id=>exact ⟨_,cF,aS,I, .pass (x:= .inLoop c) rfl (fun _ _=> .inl (by simp)) pT⟩
   | goto l=>exact ⟨_,cF,aS,I, .pass (x:= .inLoop c) rfl (fun _ _=> .inl (by simp)) pT⟩
   | ret=>exact ⟨_,cF,aS,I, .pass (x:= .inLoop c) rfl (fun _ _=> .inl (by simp)) pT⟩
   | panic asg=>exact ⟨_,cF,aS,I, .pass (x:= .inLoop c) rfl (fun _ _=> .inl (by simp)) pT⟩
   | outgrown=>exact ⟨_,cF,aS,I, .pass (x:= .inLoop c) rfl (fun _ _=> .inl (by simp)) pT⟩
 obtain ⟨e,a',w',I,pT⟩:=key m a w ⟨cO,aK,ha.sub hs⟩;exact ⟨e,a',w',I, .of_steps (.one step_loop) pT⟩
theorem cD {iz:Nat→List (Nat×Value)→World→Prop} {m:Nat} (m':Nat) (cO:List (Nat×Value)) (h:iz m' cO w) (hm:m'<m) (hs:Sub cO E):N n (Exit.then (OT n iz m) Q) E w :=
 fun a ha=>⟨m',hm,cO,h,ha.sub hs⟩
variable {d:Option Nat} {ty:TypeId} {pos:String} {af:Array Edge} {g:Option (Nat×Bool)} {x y z:Operand} {t:TypeId} {rest:List Oper}
def cQ (P:Program) (E:List (Nat×Value)) (o:Oper) (w:World) (v:Value) (w':World):Prop:=∀ n a,eD n E a→(execOp a.eval o).run P w= .ok (.value v) w'
def aqb (P:Program) (E:List (Nat×Value)) (o:Oper) (w w':World):Prop:=∀ n a,eD n E a→(execOp a.eval o).run P w= .ok .skip w'
theorem EV {o:Oper} (aM:o.guard=none) {a:Act} (h:o.wp P a w (wpList P ops Q rest) Q):wpList P ops Q (o::rest) a w:=by
 unfold wpList;rw [aTO (by simp [Region.wanted,aM])];exact .inl h
theorem iV {d:Nat} {op:Op} (hr:cQ P E ⟨some d,op,ty,pos,af,none⟩ w v w') (hd:Nat.blt d n=true) (h:cy P n ops Q rest ((d,v)::E) w'):cy P n ops Q (⟨some d,op,ty,pos,af,none⟩::rest) E w:=fun a ha=>by
 refine EV Z ?_;unfold Oper.wp;rw [hr n a ha];exact h _ (ha.put hd v)
theorem us {op:Op} (hr:aqb P E ⟨none,op,ty,pos,af,none⟩ w w') (h:cy P n ops Q rest E w'):cy P n ops Q (⟨none,op,ty,pos,af,none⟩::rest) E w:=fun a ha=>by
 refine EV Z ?_;unfold Oper.wp;rw [hr n a ha];exact h _ ha
def Enters (P:Program) (f:FuncId):Prop:=∃ fn,P.funcs[f]? =some fn∧(fn.name == "runtime.NumGoroutine")=false∧fn.body.isNone=false
theorem Nl {f:FuncId} (hf:Enters P f) {xs:Array Operand} {ts:Array TypeId} {args:List Value} {a:Act} (ha:eD n E a) (he:gX E xs.toList=some args):
  (execOp a.eval ⟨d, .call {callee:= .value (.func f),args:=xs,argTypes:=ts},ty,pos,af,g⟩).run P w= .ok (.enter f args.toArray) w:=by
 obtain ⟨fn,τ,ae,aw⟩:=hf;have hm:xs.map a.eval=args.toArray:=by rw [← ha.gX he];apply aVc;simp
 exact alg f fn τ ae aw xs ts Z _ hm
theorem ca {d:Nat} {f:FuncId} (hf:Enters P f) {xs:Array Operand} {ts:Array TypeId} {args:List Value} (he:gX E xs.toList=some args) (hd:Nat.blt d n=true)
  (h:Calls P f args.toArray w fun e w'=>∃ v,e= .returned v∧cy P n ops Q rest ((d,v)::E) w'):cy P n ops Q (⟨some d, .call {callee:= .value (.func f),args:=xs,argTypes:=ts},ty,pos,af,none⟩::rest) E w:=fun a ha=>by
 refine EV Z ?_;unfold Oper.wp;rw [Nl hf ha he];refine aXD h fun e w' fI=> ?_;obtain ⟨v,rfl,h⟩:=fI;exact h _ (ha.put hd v)
theorem hy (hx:ev E x=some v):cQ P E ⟨d, .move x,ty,pos,af,g⟩ w v w:=fun n a ha=>by simp only [execOp,ha.ev hx];rfl
theorem fG (hx:ev E x=some v):cQ P E ⟨d, .assign x,ty,pos,af,g⟩ w v w:=fun n a ha=>by simp only [execOp,ha.ev hx];rfl
theorem ex {l:List Value} {k:Nat} (hx:ev E x=some (.tuple l.toArray)) (au:l[k]? =some v):cQ P E ⟨d, .extract x k,ty,pos,af,g⟩ w v w:=fun n a ha=>by
 simp only [execOp,ha.ev hx,Instr.extract,aWZ,au];rfl
theorem cf {p:Addr} (hx:ev E x=some (.pointer (some p))):cQ P E ⟨d, .nilCheck x,ty,pos,af,g⟩ w (.pointer (some p)) w:=fun n a ha=>by simp only [execOp,ha.ev hx];rfl
theorem ek {b:Bool} (hx:ev E x=some (.bool b)):cQ P E ⟨d, .unOp .not t x,ty,pos,af,g⟩ w (.bool !b) w:=fun n a ha=>by
 simp only [execOp,ha.ev hx];cases b<;>rfl
theorem qg {v:Value} (hx:ev E x=some (.bool true)) (aF:ev E y=some v):cQ P E ⟨d, .pick x y z,ty,pos,af,g⟩ w v w:=fun n a ha=>by
 simp only [execOp,ha.ev hx,ha.ev aF];rfl
theorem s6 {v:Value} (hx:ev E x=some (.bool false)) (bG:ev E z=some v):cQ P E ⟨d, .pick x y z,ty,pos,af,g⟩ w v w:=fun n a ha=>by
 simp only [execOp,ha.ev hx,ha.ev bG];rfl
def fO (c:Bool) (v:Value):Value:=if c=true then v else undef
theorem gt {c:Bool} (hc:c=true) (h:ev E x=some (fO c v)):ev E x=some v:=by rw [h,hc];rfl
theorem fC {b c q:Bool} (hx:ev E x=some (.bool b)) (aF:ev E y=some (.bool true)) (I:(b == false)=q) (bG:ev E z=some (fO q (.bool c))):cQ P E ⟨d, .pick x y z,ty,pos,af,g⟩ w (.bool (b || c)) w:=fun n a ha=>by
 subst I;simp only [execOp,ha.ev hx,ha.ev aF,ha.ev bG];cases b<;>rfl
theorem dv {b c q:Bool} (hx:ev E x=some (.bool b)) (bG:ev E z=some (.bool false)) (I:(b == true)=q) (aF:ev E y=some (fO q (.bool c))):cQ P E ⟨d, .pick x y z,ty,pos,af,g⟩ w (.bool (b && c)) w:=fun n a ha=>by
 subst I;simp only [execOp,ha.ev hx,ha.ev aF,ha.ev bG];cases b<;>rfl
section
variable {k k':IntKind} {i j:Int} {u:TypeId}
theorem oq {op:BinOp} {s:Sem Value} (hx:ev E x=some (.int k i)) (aF:ev E y=some (.int k' j)) (h:binOp op t (.int k i) (.int k' j)=s) (hr:s.run P w= .ok v w):cQ P E ⟨d, .binOp op t x y u,ty,pos,af,g⟩ w v w:=fun n a ha=>by
 simp only [execOp,ha.ev hx,ha.ev aF,eqGuard_at_int,h,aTQ,aTV,aTJ,hr]
theorem bad (hx:ev E x=some (.int k i)) (aF:ev E y=some (.int k j)) (h:k.wrap (i+j)=i+j):cQ P E ⟨d, .binOp .add t x y u,ty,pos,af,g⟩ w (.int k (i+j)) w:=oq hx aF (binOp_add t k i j) (by simp [Op.intArith,h])
theorem gh (hx:ev E x=some (.int k i)) (aF:ev E y=some (.int k j)) (h:k.wrap (i - j)=i - j):cQ P E ⟨d, .binOp .sub t x y u,ty,pos,af,g⟩ w (.int k (i - j)) w:=oq hx aF (binOp_sub t k i j) (by simp [Op.intArith,h])
theorem w_ (hx:ev E x=some (.int k i)) (aF:ev E y=some (.int k j)) (h:k.wrap (i * j)=i * j):cQ P E ⟨d, .binOp .mul t x y u,ty,pos,af,g⟩ w (.int k (i * j)) w:=oq hx aF (binOp_mul t k i j) (by simp [Op.intArith,h])
theorem arn (hx:ev E x=some (.int k i)) (aF:ev E y=some (.int k j)):cQ P E ⟨d, .binOp .sub t x y u,ty,pos,af,g⟩ w (.int k (k.wrap (i - j))) w:=oq hx aF (binOp_sub t k i j) (by simp [Op.intArith])
theorem blt (hx:ev E x=some (.int k i)) (aF:ev E y=some (.int k j)):cQ P E ⟨d, .binOp .lss t x y u,ty,pos,af,g⟩ w (.bool (decide (i<j))) w:=oq hx aF (binOp_lss t k i j) rfl
theorem ble (hx:ev E x=some (.int k i)) (aF:ev E y=some (.int k j)):cQ P E ⟨d, .binOp .leq t x y u,ty,pos,af,g⟩ w (.bool (decide (i≤j))) w:=oq hx aF (binOp_leq t k i j) rfl
theorem hM (hx:ev E x=some (.int k i)) (aF:ev E y=some (.int k j)):cQ P E ⟨d, .binOp .gtr t x y u,ty,pos,af,g⟩ w (.bool (decide (j<i))) w:=oq hx aF (binOp_gtr t k i j) rfl
theorem j_ (hx:ev E x=some (.int k i)) (aF:ev E y=some (.int k j)):cQ P E ⟨d, .binOp .geq t x y u,ty,pos,af,g⟩ w (.bool (decide (j≤i))) w:=oq hx aF (binOp_geq t k i j) rfl
theorem beq (hx:ev E x=some (.int k i)) (aF:ev E y=some (.int k j)):cQ P E ⟨d, .binOp .eql t x y u,ty,pos,af,g⟩ w (.bool (i == j)) w:=oq hx aF (binOp_eql t k i j) rfl
theorem bne (hx:ev E x=some (.int k i)) (aF:ev E y=some (.int k j)):cQ P E ⟨d, .binOp .neq t x y u,ty,pos,af,g⟩ w (.bool (i != j)) w:=oq hx aF (binOp_neq t k i j) rfl
end
def eK (P:Program) (t:TypeId) (k:Nat):Prop:=∀ w,(sizeOf t).run P w= .ok k w
def eQ (P:Program) (t:TypeId) (b:Bool):Prop:=∀ w,(isAgg t).run P w= .ok b w
def l9 (P:Program) (t:TypeId) (v:Value):Prop:=∀ w,(zeroValue t).run P w= .ok v w
def Fd (P:Program) (t:TypeId) (i off:Nat):Prop:=∀ w g o,(Instr.fieldAt t (.pointer (some ⟨g,o,none⟩)) i).run P w= .ok (.pointer (some ⟨g,o+off,none⟩)) w
section
variable {b o k:Nat} {cs:List Value}
theorem av {i off:Nat} (hf:Fd P t i off) (hx:ev E x=some (.pointer (some ⟨b,o,none⟩))):cQ P E ⟨d, .fieldAddr t x i,ty,pos,af,g⟩ w (.pointer (some ⟨b,o+off,none⟩)) w:=fun n a ha=>by
 simp only [execOp,ha.ev hx,aTQ,hf w b o,aTJ,aTV]
theorem Mh {e:TypeId} {size len cap:Nat} {Yt:IntKind} {i:Int} (j:Nat) (aJ:P.underlying t=some (.slice e)) (hs:eK P e size) (hx:ev E x=some (.slice (some ⟨b,o,none⟩) len cap)) (ar:ev E y=some (.int Yt i)) (aA:i=(j:Int)) (bA:j<len):
  cQ P E ⟨d, .indexAddr t x y,ty,pos,af,g⟩ w (.pointer (some ⟨b,o+j * size,none⟩)) w:=fun n a ha=>by
 subst aA;simp only [execOp,ha.ev hx,ha.ev ar,Instr.indexAt,asIntOf,aTQ,aTV,aTJ,aUQ aJ];rw [aTO ⟨by omega,by omega⟩];simp only [aTQ,hs w,aTJ,aTV,aUx,Ho]
def lz (P:Program) (w:World) (t:TypeId) (p:Addr) (v:Value):Prop:=(loadVar t p).run P w= .ok v w
theorem lz.one {p:Addr} (aJ:eQ P t false) (h:w.cell? p=some v):lz P w t p v:=by
 unfold lz loadVar;simp only [aTQ,aJ w,aTJ,aUm,aU5,run_load,h]
theorem lz.agg (aJ:eQ P t true) (hs:eK P t cs.length) (h:∀ j v,cs[j]? =some v→w.cell? ⟨b,o+j,none⟩=some v):lz P w t ⟨b,o,none⟩ (.agg cs.toArray):=by
 unfold lz loadVar;simp only [aTQ,aJ w,aTJ,aVo,hs w,run_loadCells_list w ⟨b,o,none⟩ cs (fun j v aA=>by rw [Ho];exact h j v aA),aTV]
theorem ao {p:Addr} (hx:ev E x=some (.pointer (some p))) (h:lz P w t p v):cQ P E ⟨d, .load t x,ty,pos,af,g⟩ w v w:=fun n a ha=>by
 unfold lz at h;simp only [execOp,ha.ev hx,Instr.loadAt,Instr.sureAddr,aTQ,aTV,aTJ,h]
theorem aR.one {p:Nat} {cur:List Value} {e:TypeId} {aD:Nat×Nat} (h:aR w b cur e aD) (aJ:eQ P t false) (hv:cur[p]? =some v):lz P w t ⟨b,p,none⟩ v:=lz.one aJ (by rw [h.cell,hv])
theorem aR.agg {p:Nat} {cur:List Value} {e:TypeId} {aD:Nat×Nat} (h:aR w b cur e aD) (aJ:eQ P t true) (hs:eK P t cs.length) (hv:(cur.drop p).take cs.length=cs):lz P w t ⟨b,p,none⟩ (.agg cs.toArray):=
 lz.agg aJ hs fun j v aA=>by
  rw [h.cell,← aA];have aC:=(aTC.1 aA).1
  conv=>rhs;rw [← hv]
  rw [aYa aC,aUy]
theorem ck {op:Op} {d:Nat} {cs:List Value} (vJ:op= .box t x) (hx:ev E x=some v) (hc:v.cells=cs.toArray) (hd:Nat.blt d n=true)
  (h:∀ aS b,Ext w aS→w.heap.size≤b→aR aS b cs t (0,0)→cy P n ops Q rest ((d, .pointer (some ⟨b,0,none⟩))::E) aS):cy P n ops Q (⟨some d,op,ty,pos,af,none⟩::rest) E w:=by
 subst vJ;refine iV (w':=w.alloc (.cells v.cells t)) (v:= .pointer (some ⟨w.heap.size,0,none⟩)) (fun n a ha=> ?_) hd (h _ _ ((aUb _ w).alloc (aTK _) _) (aTK _) (by rw [hc];exact aR.new w cs t (0,0)));simp only [execOp,ha.ev hx,Instr.box,newVar,newRow,aTQ,run_newObj_alloc,aTJ,aTV]
theorem al {op:Op} {d:Nat} {cs:List Value} (vJ:op= .alloc t) (bG:l9 P t v) (hc:v.cells=cs.toArray) (hd:Nat.blt d n=true)
  (h:∀ aS b,Ext w aS→w.heap.size≤b→aR aS b cs t (0,0)→cy P n ops Q rest ((d, .pointer (some ⟨b,0,none⟩))::E) aS):cy P n ops Q (⟨some d,op,ty,pos,af,none⟩::rest) E w:=by
 subst vJ;refine iV (w':=w.alloc (.cells v.cells t)) (v:= .pointer (some ⟨w.heap.size,0,none⟩)) (fun n a ha=> ?_) hd (h _ _ ((aUb _ w).alloc (aTK _) _) (aTK _) (by rw [hc];exact aR.new w cs t (0,0)));simp only [execOp,Instr.alloc,aTQ,bG w,newVar,newRow,run_newObj_alloc,aTJ,aTV]
end
end
section
variable {P:Program} {n:Nat} {E cO:List (Nat×Value)} {a:Act} {w w' w0 aS:World} {Q:Exit→Act→World→Prop} {ops:Array Oper} {v:Value} {aT:Nat→Nat}
variable {d:Option Nat} {ty:TypeId} {pos:String} {af:Array Edge} {g:Option (Nat×Bool)} {x y z:Operand} {t:TypeId} {rest:List Oper} {bV:List Nat} {i:Nat}
def fM (P:Program) (n:Nat) (ops:Array Oper) (Q:Exit→Act→World→Prop) (aT:Nat→Nat) (bV:List Nat) (E:List (Nat×Value)) (w0:World):Prop:=∀ a,eD n E a→uD P ops (hz (Q .normal)) aT bV a w0
def nA (l:List (Nat×Nat)) (i:Nat):Nat:=match l with
 | []=>1
 | (j,k)::r=>match Nat.beq j i with | true=>k | false=>nA r i
theorem rd {id:Nat} (ll:List (Nat×Nat)) (bV:List Nat) (hm:P.follows .mixedOrders=true) (bj:(Region.noSelect ops && (bV.length == ops.size) && kd ops (nA ll) bV (Array.replicate ops.size false))=true)
  (h:fM P n ops Q (nA ll) bV E w):W P n (.region id ops true) Q E w:=fun a ha=>aEj bV hm bj (h a ha)
theorem fn (h:∀ w,Ext w0 w→N n Q E w):fM P n ops Q aT [] E w0:=fun a ha w hw=>h w hw a ha
theorem Aj {o:Oper} (aM:o.guard=none):Region.wanted o (yielded ops a.tmps)=true:=by simp [Region.wanted,aM]
theorem afm {d:Nat} {op:Op} (ar:ops[i]? =some ⟨some d,op,ty,pos,af,none⟩) (au:aT i=0) (hr:∀ w,Ext w0 w→cQ P E ⟨some d,op,ty,pos,af,none⟩ w v w) (hd:Nat.blt d n=true)
  (h:fM P n ops Q aT bV ((d,v)::E) w0):fM P n ops Q aT (i::bV) E w0:=fun a ha =>
 ⟨_,ar, .inl ⟨au,v, .inl ⟨Aj rfl,fun w hw=>by rw [hr w hw n a ha];exact ⟨rfl,rfl⟩⟩,h _ (ha.put hd v)⟩⟩
theorem qJ {d:Nat} {op:Op} (ar:ops[i]? =some ⟨some d,op,ty,pos,af,none⟩) (au:aT i=1) (hr:∀ w,cQ P E ⟨some d,op,ty,pos,af,none⟩ w v w) (hd:Nat.blt d n=true)
  (h:fM P n ops Q aT bV ((d,v)::E) w0):fM P n ops Q aT (i::bV) E w0:=fun a ha =>
 ⟨_,ar, .inr (.inl ⟨au,v, .inl ⟨Aj rfl,fun w=>hr w n a ha⟩,h _ (ha.put hd v)⟩)⟩
theorem pO {d:Nat} {f:FuncId} {xs:Array Operand} {ts:Array TypeId} {args:List Value} (ar:ops[i]? =some ⟨some d, .call {callee:= .value (.func f),args:=xs,argTypes:=ts},ty,pos,af,none⟩) (au:aT i=0) (hf:Enters P f) (he:gX E xs.toList=some args)
  (hr:∀ w,Ext w0 w→Calls P f args.toArray w fun e w'=>e= .returned v∧Ext w w') (hd:Nat.blt d n=true)
  (h:fM P n ops Q aT bV ((d,v)::E) w0):fM P n ops Q aT (i::bV) E w0:=fun a ha =>
 ⟨_,ar, .inl ⟨au,v, .inl ⟨Aj rfl,fun w hw=>by rw [Nl hf ha he];exact ⟨rfl,hr w hw⟩⟩,h _ (ha.put hd v)⟩⟩
theorem B9 {o:Oper} {j:Nat} {q b:Bool} {dc:Oper} {ik:Nat} (aM:o.guard=some (j,q)) (aA:ops[j]? =some dc) (mb:dc.dst=some ik) (γ:look E ik=some (.bool b)) (ha:eD n E a):Region.wanted o (yielded ops a.tmps)=(b == q):=by
 have:=ha.g _ _ γ;cases b<;>cases q<;>simp [Region.wanted,aM,yielded,aA,mb,this]
theorem avC {d:Nat} {op:Op} {j:Nat} {q b c:Bool} {dc:Oper} {ik:Nat} (ar:ops[i]? =some ⟨some d,op,ty,pos,af,some (j,q)⟩) (au:aT i=0) (aA:ops[j]? =some dc) (mb:dc.dst=some ik) (γ:look E ik=some (.bool b)) (hc:(b == q)=c)
  (hr:c=true→∀ w,Ext w0 w→cQ P E ⟨some d,op,ty,pos,af,some (j,q)⟩ w v w) (hd:Nat.blt d n=true)
  (h:fM P n ops Q aT bV ((d,fO c v)::E) w0):fM P n ops Q aT (i::bV) E w0:=fun a ha=>by
 have hw:=B9 (o:=⟨some d,op,ty,pos,af,some (j,q)⟩) rfl aA mb γ ha;rw [hc] at hw;refine ⟨_,ar, .inl ⟨au,fO c v, ?_,h _ (ha.put hd _)⟩⟩;cases c with
 | true=>exact .inl ⟨hw,fun w hx=>by rw [hr rfl w hx n a ha];exact ⟨rfl,rfl⟩⟩
 | false=>exact .inr ⟨hw,rfl⟩
theorem avD {d:Nat} {op:Op} {j:Nat} {q b c:Bool} {dc:Oper} {ik:Nat} (ar:ops[i]? =some ⟨some d,op,ty,pos,af,some (j,q)⟩) (au:aT i=1) (aA:ops[j]? =some dc) (mb:dc.dst=some ik) (γ:look E ik=some (.bool b)) (hc:(b == q)=c)
  (hr:c=true→∀ w,cQ P E ⟨some d,op,ty,pos,af,some (j,q)⟩ w v w) (hd:Nat.blt d n=true)
  (h:fM P n ops Q aT bV ((d,fO c v)::E) w0):fM P n ops Q aT (i::bV) E w0:=fun a ha=>by
 have hw:=B9 (o:=⟨some d,op,ty,pos,af,some (j,q)⟩) rfl aA mb γ ha;rw [hc] at hw;refine ⟨_,ar, .inr (.inl ⟨au,fO c v, ?_,h _ (ha.put hd _)⟩)⟩;cases c with
 | true=>exact .inl ⟨hw,fun w=>hr rfl w n a ha⟩
 | false=>exact .inr ⟨hw,rfl⟩
theorem dJ {d:Nat} {f:FuncId} {xs:Array Operand} {ts:Array TypeId} {args:List Value} {j:Nat} {q b c:Bool} {dc:Oper} {ik:Nat} (ar:ops[i]? =some ⟨some d, .call {callee:= .value (.func f),args:=xs,argTypes:=ts},ty,pos,af,some (j,q)⟩) (au:aT i=0) (aA:ops[j]? =some dc) (mb:dc.dst=some ik) (γ:look E ik=some (.bool b)) (hc:(b == q)=c)
  (hf:Enters P f) (he:c=true→gX E xs.toList=some args)
  (hr:c=true→∀ w,Ext w0 w→Calls P f args.toArray w fun e w'=>e= .returned v∧Ext w w') (hd:Nat.blt d n=true)
  (h:fM P n ops Q aT bV ((d,fO c v)::E) w0):fM P n ops Q aT (i::bV) E w0:=fun a ha=>by
 have hw:=B9 (o:=⟨some d, .call {callee:= .value (.func f),args:=xs,argTypes:=ts},ty,pos,af,some (j,q)⟩) rfl aA mb γ ha;rw [hc] at hw;refine ⟨_,ar, .inl ⟨au,fO c v, ?_,h _ (ha.put hd _)⟩⟩;cases c with
 | true=>exact .inl ⟨hw,fun w hx=>by rw [Nl hf ha (he rfl)];exact ⟨rfl,hr rfl w hx⟩⟩
 | false=>exact .inr ⟨hw,rfl⟩
def ET (P:Program) (n:Nat) (ops:Array Oper) (o:Oper) (E:List (Nat×Value)) (w:World) (K:List (Nat×Value)→World→Prop):Prop :=
 ∀ (Q:Exit→Act→World→Prop),(∀ cO w',K cO w'→cy P n ops Q [] cO w')→cy P n ops Q [o] E w
theorem aHJ {UN ap9:Exit→Act→World→Prop} {o:Oper} {K:Act→World→Prop} (hp:∀ c a w,¬ UN (.panic c) a w) (cc:¬ LetsOut UN) (h:o.wp P a w K UN):o.wp P a w K ap9:=by
 unfold Oper.wp at *
 generalize (execOp a.eval o).run P w=r at *
 cases r with
 | ok m w' =>
  cases m<;>simp only [Oper.upon] at h ⊢ <;>
   first
    | exact h
    | exact aXD h (fun e jM he=>by cases e<;>first | exact he | exact (hp _ _ _ he).elim | exact (cc he).elim)
 | halt x w'=>cases x<;>simp only [Oper.upon] at h ⊢<;>first | exact h | exact (hp _ _ _ h).elim
theorem Jk {o:Oper} (aM:o.guard=none) (ar:ops[i]? =some o) {K:Act→World→Prop} {E:List (Nat×Value)} {w:World} {ab7:List (Nat×Value)→World→Prop} (h:ET P n ops o E w ab7) (hK:∀ cO w' a',ab7 cO w'→eD n cO a'→K a' w') (ha:eD n E a):
  wpOp P ops (hz (Q .normal)) i K a w:=by
 have:=h (hz K) (fun cO w' au a' rK=>hK cO w' a' au rK) a ha;unfold wpList at this;unfold wpOp;simp only [ar];rw [aTO (Aj aM)] at this ⊢;rcases this with h | ⟨h,a,w,ae⟩
 ·exact .inl (aHJ (fun _ _ _ h=>h) (fun ⟨_,_,h⟩=>h) h)
 ·exact ae.elim
theorem gz {o:Oper} (aM:o.guard=none) (ar:ops[i]? =some o) (au:aT i=2) (h:∀ w,Ext w0 w→ET P n ops o E w fun cO w'=>Ext w0 w'∧fM P n ops Q aT bV cO w'):fM P n ops Q aT (i::bV) E w0:=fun a ha =>
 ⟨_,ar, .inr (.inr ⟨by omega,fun w hw=>Jk aM ar (h w hw) (fun cO w' a' au rK=>⟨fun _=>au.1,au.2 a' rK⟩) ha⟩)⟩
theorem eg {o:Oper} (aM:o.guard=none) (ar:ops[i]? =some o) (au:aT i=3) (h:∀ w,Ext w0 w→ET P n ops o E w fun cO w'=>fM P n ops Q aT bV cO w'):fM P n ops Q aT (i::bV) E w0:=fun a ha =>
 ⟨_,ar, .inr (.inr ⟨by omega,fun w hw=>Jk aM ar (h w hw) (fun cO w' a' au rK=>⟨fun ae=>by omega,au a' rK⟩) ha⟩)⟩
end
structure Mod (S:List Nat) (w w':World):Prop where
 os:w'.os=w.os
 tape:w'.tape=w.tape
 output:w'.output=w.output
 size:w.heap.size≤w'.heap.size
 block:∀ k,k<w.heap.size→k∉S→w'.heap[k]? =w.heap[k]?
section
variable {S oM:List Nat} {w w' w0 aS cS:World} {B:Nat}
theorem Mod.bt (h:Ext w w'):Mod S w w':=⟨h.os,h.tape,h.output,h.size,fun k au _=>h.block k au⟩
theorem Mod.below {aE:Nat} (h:Mod S w w') (hS:∀ x∈S,aE≤x) (xq:aE≤w.heap.size):Below aE w w' :=
 ⟨h.os,h.tape,h.output,h.size,fun k au=>h.block k (by omega) fun hm=>by have:=hS k hm;omega⟩
theorem Ext.mod (h:Ext w0 w) (hm:Mod S w w') (hS:∀ x∈S,w0.heap.size≤x):Ext w0 w':=Below.trans h (hm.below hS h.size)
theorem Mod.bg (S:List Nat) (w:World):Mod S w w:=⟨rfl,rfl,rfl,aTK _,fun _ _ _=>rfl⟩
theorem Mod.md (h:Mod S w aS) (c7:Mod oM aS cS) (hs:∀ q∈oM,q∈S∨w.heap.size≤q):Mod S w cS :=
 ⟨c7.os.trans h.os,c7.tape.trans h.tape,c7.output.trans h.output,aUc h.size c7.size,fun k au hn=>(c7.block k (aVl au h.size) fun hm=>(hs k hm).elim hn (fun h=>by omega)).trans (h.block k au hn)⟩
theorem Mod.trans (h:Mod S w aS) (c7:Mod S aS cS):Mod S w cS :=
 ⟨c7.os.trans h.os,c7.tape.trans h.tape,c7.output.trans h.output,aUc h.size c7.size,fun k au hn=>(c7.block k (aVl au h.size) hn).trans (h.block k au hn)⟩
theorem Mod.grown {row:Option Nat} (h:w.grownBy w' row):Mod row.toList w w' :=
 ⟨h.os,h.tape,h.output,h.size,fun k au hn=>h.block k au fun e=>hn (by rw [← e];simp)⟩
theorem Mod.setRow (w:World) (b:Nat) (cs:Array Value):Mod [b] w (w.setRow b cs):=by
 refine ⟨Z,Z,Z,by simp [World.setRow],fun k au hn=> ?_⟩;simp only [World.setRow,aW2];rw [aTL (by simp at hn;omega)]
theorem Mod.setCell (w:World) (p:Addr) (u:Value):Mod [p.block] w (w.setCell p u):=by
 refine ⟨Z,Z,Z,by simp [World.setCell],fun k au hn=> ?_⟩;exact Below.heap_setCell _ _ _ _ (by simpa using hn)
theorem aR.mod {g:Nat} {cur:List Value} {e:TypeId} {aD:Nat×Nat} (h:aR w g cur e aD) (hm:Mod S w w') (aM:g∉S):aR w' g cur e aD:=by
 unfold aR at *
 rw [hm.block g (aUd.1 h).1 aM];exact h
theorem aa.aH.mod {α:Type} {R:aa α} {E by_:Nat} {f:List Nat} {A:Option Addr} {c:Nat} {l:List α} (h:R.aH E by_ w B f A c l) (hm:Mod S w w') (hd:∀ x∈f,x∉S):R.aH E by_ w' B f A c l :=
 h.keep fun g aM=>hm.block g (h.lt g aM).2 (hd g aM)
end
section
variable {P:Program} {n:Nat} {E cO:List (Nat×Value)} {a:Act} {w w' w0 aS:World} {Q:Exit→Act→World→Prop} {ops:Array Oper} {v:Value}
variable {d:Option Nat} {ty:TypeId} {pos:String} {af:Array Edge} {g:Option (Nat×Bool)} {x y z:Operand} {t:TypeId} {rest:List Oper}
theorem ZS {b p:Nat} {cur cs:List Value} {e:TypeId} (bj:aR w b cur e (0,0)) (hc:v.cells=cs.toArray) (hs:eK P t cs.length) (τ:cs.all (·.oneCell')=true) (aC:p+cs.length≤cur.length):
  (storeVar t ⟨b,p,none⟩ v).run P w= .ok () (w.setRow b (cur.take p++cs++cur.drop (p+cs.length)).toArray):=by
 unfold storeVar;simp only [hc,aTQ,hs w,aTJ,aVe,ne_eq,aYO,aU5];have:=run_storeCells_at P b p e cs 0 cur.toArray w bj (by simpa using aC) (fun v hv=>aUp.1 τ v hv);simpa using this
theorem st {b p:Nat} {cur cs new:List Value} {e:TypeId} (hx:ev E x=some (.pointer (some ⟨b,p,none⟩))) (aF:ev E y=some v) (bj:aR w b cur e (0,0)) (hc:v.cells=cs.toArray) (hs:eK P t cs.length) (τ:cs.all (·.oneCell')=true) (aC:Nat.ble (p+cs.length) cur.length=true)
  (hn:cur.take p++cs++cur.drop (p+cs.length)=new)
  (h:∀ aS,Mod [b] w aS→aR aS b new e (0,0)→cy P n ops Q rest E aS):cy P n ops Q (⟨none, .store t x y,ty,pos,af,none⟩::rest) E w:=by
 refine us (w':=w.setRow b new.toArray) (fun n a ha=> ?_) (h _ (Mod.setRow w b _) (by rw [← hn];exact bj.setRow _));have:=ZS (P:=P) bj hc hs τ (aVq aC);rw [hn] at this;simp only [execOp,ha.ev hx,ha.ev aF,Instr.storeAt,Instr.sureAddr,aTQ,aTV,aTJ,this]
theorem bi {acZ:Builtin} {xs:Array Operand} {ts:Array TypeId} {vs:List Value} (he:gX E xs.toList=some vs) (h:∀ cs,(builtin acZ ts ty cs vs.toArray).run P w= .ok (.value v) w'):
  cQ P E ⟨d, .call {callee:= .builtin acZ,args:=xs,argTypes:=ts},ty,pos,af,g⟩ w v w':=fun n a ha=>by
 have hm:xs.map a.eval=vs.toArray:=by rw [← ha.gX he];apply aVc;simp
 simp only [execOp,resolve,invoke,hm,aTQ,aTV,aTJ,h]
theorem cl {A:Option Addr} {len cap e:Nat} (aJ:P.underlying t=some (.slice e)) (hx:ev E x=some (.slice A len cap)):cQ P E ⟨d, .call {callee:= .builtin .len,args:=#[x],argTypes:=#[t]},ty,pos,af,g⟩ w (.int .i64 (len:Int)) w :=
 bi (vs:= [.slice A len cap]) (by simp only [gX,hx]) fun cs=>by
  have τ:P.underlying t=some (.slice (P.elem t)):=by simp [Program.elem,aJ]
  have:=run_len_slice (P:=P) w t ty A len cap τ;simp only [builtin,aTQ,this,aTJ,aTV];rfl
theorem b3 {f:FuncId} {fn:Func} (h:P.funcs[f]? =some fn) (τ:(fn.name == "runtime.NumGoroutine")=false:=by kernel_rfl) (ae:fn.body.isNone=false:=by kernel_rfl):Enters P f:=⟨fn,h,τ,ae⟩
theorem Tl {o:Oper} {c:Bool} (hw:∀ a,eD n E a→Region.wanted o (yielded ops a.tmps)=c) (τ:c=true→∀ a,eD n E a→o.wp P a w (wpList P ops Q rest) Q) (ae:c=false→∀ a,eD n E a→wpList P ops Q rest (a.put o.dst undef) w):cy P n ops Q (o::rest) E w:=fun a ha=>by
 unfold wpList;rw [hw a ha];cases c with
 | true=>rw [aTO rfl];exact .inl (τ Z a ha)
 | false=>rw [aTL (by decide)];exact ae Z a ha
theorem aGX {d:Nat} {op:Op} {j:Nat} {q b c:Bool} {dc:Oper} {ik:Nat} (aA:ops[j]? =some dc) (mb:dc.dst=some ik) (γ:look E ik=some (.bool b)) (hc:(b == q)=c)
  (hr:c=true→cQ P E ⟨some d,op,ty,pos,af,some (j,q)⟩ w v w) (hd:Nat.blt d n=true) (h:cy P n ops Q rest ((d,fO c v)::E) w):cy P n ops Q (⟨some d,op,ty,pos,af,some (j,q)⟩::rest) E w :=
 Tl (c:=c) (fun a ha=>by rw [B9 (o:=⟨some d,op,ty,pos,af,some (j,q)⟩) rfl aA mb γ ha,hc])
  (fun hc a ha=>by unfold Oper.wp;rw [hr hc n a ha];subst hc;exact h _ (ha.put hd v)) (fun hc a ha=>by subst hc;exact h _ (ha.put hd undef))
theorem aGW {d:Nat} {f:FuncId} {xs:Array Operand} {ts:Array TypeId} {args:List Value} {j:Nat} {q b c:Bool} {dc:Oper} {ik:Nat} (aA:ops[j]? =some dc) (mb:dc.dst=some ik) (γ:look E ik=some (.bool b)) (hc:(b == q)=c)
  (hf:Enters P f) (he:c=true→gX E xs.toList=some args) (hr:c=true→Calls P f args.toArray w fun e w'=>e= .returned v∧Ext w w') (hd:Nat.blt d n=true)
  (h:∀ w',Ext w w'→cy P n ops Q rest ((d,fO c v)::E) w'):cy P n ops Q (⟨some d, .call {callee:= .value (.func f),args:=xs,argTypes:=ts},ty,pos,af,some (j,q)⟩::rest) E w :=
 Tl (c:=c) (fun a ha=>by rw [B9 (o:=⟨some d,_,ty,pos,af,some (j,q)⟩) rfl aA mb γ ha,hc])
  (fun hc a ha=>by unfold Oper.wp;rw [Nl hf ha (he hc)];exact (hr hc).mono fun e w' ⟨τ,hx⟩=>by subst τ;subst hc;exact h w' hx _ (ha.put hd v)) (fun hc a ha=>by subst hc;exact h w (Ext.bg w) _ (ha.put hd undef))
theorem lZ {d:Option Nat} {op:Op} {j:Nat} {q:Bool} {dc:Oper} {ik:Nat} (aA:ops[j]? =some dc) (mb:dc.dst=some ik) (γ:look E ik=some (.bool q)) (h:cy P n ops Q (⟨d,op,ty,pos,af,none⟩::rest) E w):cy P n ops Q (⟨d,op,ty,pos,af,some (j,q)⟩::rest) E w:=fun a ha=>by
 have h:=h a ha;have hw:=B9 (o:=⟨d,op,ty,pos,af,some (j,q)⟩) (q:=q) rfl aA mb γ ha;unfold wpList at h ⊢;rw [aTO (Aj rfl)] at h;rw [hw,aTO (by cases q<;>rfl)];exact h
theorem gW {x:Operand} {b c:Bool} (h:ev E x=some (.bool b)) (e:b=c):ev E x=some (.bool c):=by rw [h,e]
theorem M1 {afc:Fn} {fs cs:Array Operand} {l m:List Value} (τ:gX E fs.toList=some l) (ae:gX E cs.toList=some m):cQ P E ⟨d, .makeFunc afc fs cs,ty,pos,af,g⟩ w (.func afc l.toArray m.toArray) w:=fun n a ha=>by
 have aY:fs.map a.eval=l.toArray:=by rw [← ha.gX τ];apply aVc;simp
 have bb:cs.map a.eval=m.toArray:=by rw [← ha.gX ae];apply aVc;simp
 simp only [execOp,aY,bb,Instr.makeFunc,aTQ,aTV,aTJ]
def xm (E:List (Nat×Value)):List (Nat×Operand)→Option (List (Nat×Value))
 | []=>some []
 | (i,x)::r=>match ev E x with
  | some v=>match xm E r with
   | some l=>some ((i,v)::l)
   | none=>none
  | none=>none
theorem eD.xm (h:eD n E a):∀ {l:List (Nat×Operand)} {vs:List (Nat×Value)},xm E l=some vs→l.map (fun (i,x)=>(i,a.eval x))=vs
 | [],vs,e=>by simp only [Proofs.YtmeeljmapailnaaGreat.xm] at e;exact aTA e
 | (i,x)::r,vs,e=>by
  simp only [Proofs.YtmeeljmapailnaaGreat.xm] at e;cases hx:Proofs.YtmeeljmapailnaaGreat.ev E x with
  | none=>rw [hx] at e;cases e
  | some v =>
   rw [hx] at e;simp only at e;cases hr:Proofs.YtmeeljmapailnaaGreat.xm E r with
   | none=>rw [hr] at e;cases e
   | some l =>
    rw [hr] at e;simp only at e;obtain rfl:=aTA e;rw [aUs,eD.xm h hr];simp only [h.ev hx]
theorem cY {ps:Array (Nat×Operand)} {l:List (Nat×Value)} (he:xm E ps.toList=some l) (hr:(Instr.build t l.toArray).run P w= .ok v w):cQ P E ⟨d, .build t ps,ty,pos,af,g⟩ w v w:=fun n a ha=>by
 have aY:ps.map (fun (i,x)=>(i,a.eval x))=l.toArray:=by rw [← ha.xm he];apply aVc;simp
 simp only [execOp,aY,aTQ,hr,aTJ,aTV]
theorem cu {ps:Array (Nat×Operand)} {l:List (Nat×Value)} {d k e:Nat} {cs:List Value} (he:xm E ps.toList=some l) (hr:∀ w,(Instr.buildSlice t k l.toArray).run P w= .ok (.slice (some ⟨w.heap.size,0,none⟩) k k) (w.alloc (.cells cs.toArray e))) (hd:Nat.blt d n=true)
  (h:∀ aS b,Ext w aS→w.heap.size≤b→aR aS b cs e (0,0)→cy P n ops Q rest ((d, .slice (some ⟨b,0,none⟩) k k)::E) aS):cy P n ops Q (⟨some d, .buildSlice t k ps,ty,pos,af,none⟩::rest) E w:=by
 refine iV (w':=w.alloc (.cells cs.toArray e)) (v:= .slice (some ⟨w.heap.size,0,none⟩) k k) (fun n a ha=> ?_) hd (h _ _ ((aUb _ w).alloc (aTK _) _) (aTK _) (aR.new w cs e (0,0)));have aY:ps.map (fun (i,x)=>(i,a.eval x))=l.toArray:=by rw [← ha.xm he];apply aVc;simp
 simp only [execOp,aY,aTQ,hr,aTJ,aTV]
def eV (A:Option Addr):Nat:=match A with | some a=>a.block | none=>0
def kz (A:Option Addr):Nat:=match A with | some a=>a.off | none=>0
theorem aa.aG.bs {α:Type} {R:aa α} {by_ c:Nat} {A:Option Addr} {l:List α} (h:R.aG by_ w A c l) (aK:0<l.length):A=some ⟨eV A,kz A,none⟩:=by
 obtain ⟨b,o,rfl,_⟩:=h.at_ aK;rfl
theorem aa.aG.cg {α:Type} {R:aa α} {by_ c:Nat} {A:Option Addr} {l:List α} (h:R.aG by_ w A c l) (aK:0<l.length):R.aG by_ w (some ⟨eV A,kz A,none⟩) c l:=by
 rw [← h.bs aK];exact h
theorem bT {e:TypeId} {size len cap b o:Nat} {Yt:IntKind} {i:Int} {A:Option Addr} (j:Nat) (aJ:P.underlying t=some (.slice e)) (hs:eK P e size) (hx:ev E x=some (.slice A len cap)) (ar:ev E y=some (.int Yt i)) (hA:A=some ⟨b,o,none⟩) (aA:i=(j:Int)) (bA:j<len):
  cQ P E ⟨d, .indexAddr t x y,ty,pos,af,g⟩ w (.pointer (some ⟨b,o+j * size,none⟩)) w:=by subst hA;exact Mh j aJ hs hx ar aA bA
theorem cA {α:Type} {l:List α} {j:Nat} {u:α} (h:j<l.length):l[j]? =some (l.getD j u):=by rw [aTB,aTF h];rfl
section
variable {α:Type} {R:aa α} {by_ c b o j:Nat} {l:List α} {cells:α→List Value} {q u:α}
theorem aa.aG.jT (hc:∀ {w cs a},R.has w cs a→cs=cells a) (h:R.aG by_ w (some ⟨b,o,none⟩) c l) (k:Nat) (aA:l[j]? =some q) (hu:(cells q)[k]? =some v) (aJ:eQ P t false):lz P w t ⟨b,o+j * R.size+k,none⟩ v:=by
 obtain ⟨pG,I0,e,dD⟩:=h.at_ (by have:=(aTC.1 aA).1;omega);injection e with e;injection e with aY bb;subst aY;subst bb
 obtain ⟨es,τ,ae⟩:=dD j q aA;rw [hc τ] at ae;exact lz.one aJ (by rw [aWl];exact ae k v hu)
theorem aa.aG.eM (hc:∀ {w cs a},R.has w cs a→cs=cells a) (h:R.aG by_ w (some ⟨b,o,none⟩) c l) (aA:l[j]? =some q) (hu:(cells q)[0]? =some v) (aJ:eQ P t false):lz P w t ⟨b,o+j * R.size,none⟩ v:=h.jT hc 0 aA hu aJ
theorem aa.aG.er (hc:∀ {w cs a},R.has w cs a→cs=cells a) (h:R.aG by_ w (some ⟨b,o,none⟩) c l) (aA:l[j]? =some q) (aJ:eQ P t true) (hs:eK P t (cells q).length):lz P w t ⟨b,o+j * R.size,none⟩ (.agg (cells q).toArray):=by
 obtain ⟨pG,I0,e,dD⟩:=h.at_ (by have:=(aTC.1 aA).1;omega);injection e with e;injection e with aY bb;subst aY;subst bb
 obtain ⟨es,τ,ae⟩:=dD j q aA;rw [hc τ] at ae;exact lz.agg aJ hs fun k v au=>by rw [aWl];exact ae k v au
theorem aa.aG.part (hc:∀ {w cs a},R.has w cs a→cs=cells a) (h:R.aG by_ w (some ⟨b,o,none⟩) c l) (k:Nat) {ds:List Value} (aA:l[j]? =some q) (hd:((cells q).drop k).take ds.length=ds) (aJ:eQ P t true) (hs:eK P t ds.length):lz P w t ⟨b,o+j * R.size+k,none⟩ (.agg ds.toArray):=by
 obtain ⟨pG,I0,e,dD⟩:=h.at_ (by have:=(aTC.1 aA).1;omega);injection e with e;injection e with aY bb;subst aY;subst bb
 obtain ⟨es,τ,ae⟩:=dD j q aA;rw [hc τ] at ae;refine lz.agg aJ hs fun i v ar=> ?_;rw [aWl,aWl];refine ae _ v ?_;rw [← hd] at ar;have aC:=(aTC.1 ar).1;rw [aTD] at aC
 rwa [aYa (by omega),aUy] at ar
end
theorem aR.all {b:Nat} {cur:List Value} {e:TypeId} {aD:Nat×Nat} (h:aR w b cur e aD) (aJ:eQ P t true) (hs:eK P t cur.length):lz P w t ⟨b,0,none⟩ (.agg cur.toArray):=
 lz.agg aJ hs fun j v aA=>by rw [h.cell,aUX,aA]
theorem aR.par {b p:Nat} {cur:List Value} {e:TypeId} {aD:Nat×Nat} (h:aR w b cur e aD) (cs:List Value) (aJ:eQ P t true) (hs:eK P t cs.length) (hv:(cur.drop p).take cs.length=cs):lz P w t ⟨b,p,none⟩ (.agg cs.toArray):=h.agg aJ hs hv
end
open Tryz

section
variable {P:Program} {n:Nat} {E cO:List (Nat×Value)} {a:Act} {w w' w0 aS:World} {Q:Exit→Act→World→Prop} {ops:Array Oper} {v:Value}
theorem bf {x:Int} (h: -9223372036854775808≤x∧x≤9223372036854775807):IntKind.i64.wrap x=x:=IntWalk.i64_in x h
section
variable {d:Option Nat} {ty:TypeId} {pos:String} {af:Array Edge} {g:Option (Nat×Bool)} {x y:Operand} {t u:TypeId} {k:IntKind} {i j r:Int}
theorem pH (hx:ev E x=some (.int k i)) (aF:ev E y=some (.int k j)) (h:k.wrap (i+j)=i+j) (he:i+j=r):cQ P E ⟨d, .binOp .add t x y u,ty,pos,af,g⟩ w (.int k r) w:=by subst he;exact bad hx aF h
end
theorem o4 {p:Nat→Prop} {k:Nat} (h:∀ j,j<k→p j) (au:p k):∀ j,j<k+1→p j:=fun j aA=>(aWE.1 aA).elim (h j) fun e=>e ▸ au
theorem gI {w:World} {cs:List Value} {a:Int} (h:bW.has w cs a):cs= [.int .i64 a]:=aVP (show cs= [.int .i64 a]∧e_ a from h)
theorem agq {w:World} {cs:List Value} {a:Bool} (h:zW.has w cs a):cs= [.bool a]:=aVP (show cs= [.bool a]∧True from h)
theorem ez {x:Operand} {r:List Operand} {l:List Value} (h:ev E x=some v) (hr:gX E r=some l):gX E (x::r)=some (v::l):=by simp only [gX,h,hr]
theorem FR {t:Nat} {k:IntKind} {i j:Int} (h:look E t=some (.int k i)) (e:i=j):look E t=some (.int k j):=by rw [h,e]
section
variable {c:Operand} {x y:Code} {i j:Int}
theorem df (hc:ev E c=some (.bool (decide (i<j)))) (τ:i<j→W P n x Q E w) (ae:¬ i<j→W P n y Q E w):W P n (.cond c x y) Q E w:=dn hc (fun h=>τ (aUK h)) (fun h=>ae (aVH h))
theorem CZ (hc:ev E c=some (.bool (decide (i≤j)))) (τ:i≤j→W P n x Q E w) (ae:¬ i≤j→W P n y Q E w):W P n (.cond c x y) Q E w:=dn hc (fun h=>τ (aUK h)) (fun h=>ae (aVH h))
theorem jo (hc:ev E c=some (.bool (i == j))) (τ:i=j→W P n x Q E w) (ae:¬ i=j→W P n y Q E w):W P n (.cond c x y) Q E w:=dn hc (fun h=>τ (by simpa using h)) (fun h=>ae (by simpa using h))
theorem ee (hc:ev E c=some (.bool (i != j))) (τ:¬ i=j→W P n x Q E w) (ae:i=j→W P n y Q E w):W P n (.cond c x y) Q E w:=dn hc (fun h=>τ (by simpa using h)) (fun h=>ae (by simpa using h))
end
end
def fi (P:Program) {α:Type} (R:aa α) (t e:TypeId) (by_:Nat):Prop :=
 ∃ (i:TypeInfo) (z:Value),P.underlying t=some (.slice e)∧P.info? e=some i∧i.zero=some z∧i.size=R.size∧i.bytes=by_∧z.cells.size=R.size∧0<R.size∧∀ (j:Nat) u,z.cells[j]? =some u→R.raw j u
section
variable {P:Program} {n:Nat} {E cO:List (Nat×Value)} {a:Act} {w w' w0 aS:World} {Q:Exit→Act→World→Prop} {ops:Array Oper} {v:Value}
variable {d:Option Nat} {ty:TypeId} {pos:String} {af:Array Edge} {g:Option (Nat×Bool)} {x y z:Operand} {t:TypeId} {rest:List Oper}
theorem fi.lH {α:Type} {R:aa α} {t e by_ k:Nat} {z:Value} (aJ:P.underlying t=some (.slice e)) (ar:(P.info? e).map (fun i=>(i.zero,i.size,i.bytes))=some (some z,k,by_)) (au:R.size=k) (τ:z.cells.size=k) (ae:0<k) (aw:∀ (j:Nat) u,z.cells[j]? =some u→R.raw j u):fi P R t e by_:=by
 cases I:P.info? e with
 | none=>rw [I] at ar;cases ar
 | some i =>
  rw [I] at ar;simp only [aU6,aWg,aXf] at ar;exact ⟨i,z,aJ,I,ar.1,by rw [ar.2.1,au],ar.2.2,by rw [τ,au],by rw [au];exact ae,aw⟩
theorem Jb:∀ (j:Nat) u,(Value.int .i64 0).cells[j]? =some u→bW.raw j u:=by
 intro j u hu;have hu:(#[(.int .i64 0:Value)]:Array Value)[j]? =some u:=hu
 match j,hu with
 | 0,hu=>exact ⟨0,(aTA hu).symm⟩
 | j+1,hu=>simp at hu
theorem ak0:∀ (j:Nat) u,(Value.bool false).cells[j]? =some u→zW.raw j u:=by
 intro j u hu;have hu:(#[(.bool false:Value)]:Array Value)[j]? =some u:=hu
 match j,hu with
 | 0,hu=>exact ⟨false,(aTA hu).symm⟩
 | j+1,hu=>simp at hu
def UO (P:Program) (n:Nat) (c:Code) (Q:Exit→Act→World→Prop) (k:Nat) (E:List (Nat×Value)) (w:World):Prop:=∀ a,eD n E a→Code.rounds P c Q k a w
theorem IL {c:Code} (k:Nat) (h:UO P n c Q k E w):W P n (.loop c) Q E w:=fun a ha=>wp_loop_rounds k (h a ha)
theorem lR {c:Code} {k:Nat} (h:W P n c (Exit.then (Code.rounds P c Q k) Q) E w):UO P n c Q (k+1) E w:=fun a ha=>h a ha
theorem qc {c:Code} {k:Nat} (h:UO P n c Q k E w):N n (Exit.then (Code.rounds P c Q k) Q) E w:=h
theorem aR.gY {α:Type} {R:aa α} {by_ b:Nat} {cs:List Value} {e:TypeId} {aD:Nat×Nat} {q:α} (γ:aR w b cs e aD) (h:R.has w cs q) (pW:by_≤140737488355328):R.aG by_ w (some ⟨b,0,none⟩) 1 [q]:=by
 refine ⟨aTK _,by decide,by simpa using pW,(fun h=>by cases h), [cs],⟨h,trivial⟩, ?_⟩;have aC:=R.len h;refine ⟨by simp [aC],fun _=>⟨b,0,rfl,fun j u hu=> ?_⟩⟩;rw [aUX,γ.cell];simpa using hu
theorem aR.LC {α:Type} {R:aa α} {by_ b:Nat} {cs:List Value} {e:TypeId} {aD:Nat×Nat} {k:List α} (γ:aR w b cs e aD) (ess:List (List Value)) (zC:ess.flatten=cs) (h:dm (fun es a=>R.has w es a) ess k) (rH:k.length≤9223372036854775807) (pW:k.length * by_≤140737488355328):R.aG by_ w (some ⟨b,0,none⟩) k.length k:=by
 refine ⟨aTK _,rH,pW,(fun h=>by cases h),ess,h, ?_⟩;have aC:∀ x∈ess,x.length=R.size:=fun x hx=>by obtain ⟨a,ha⟩:=h.left x hx;exact R.len ha
 refine ⟨by rw [Be aC,h.length],fun _=>⟨b,0,rfl,fun j u hu=> ?_⟩⟩;rw [aUX,γ.cell,← zC];exact hu
theorem aR.vZ {α:Type} {R:aa α} {by_ b B:Nat} {cs:List Value} {e:TypeId} {k:List α} (γ:aR w b cs e (0,0)) (ess:List (List Value)) (zC:ess.flatten=cs) (h:dm (fun es a=>R.has w es a) ess k) (rH:k.length≤9223372036854775807) (pW:k.length * by_≤140737488355328) (aK:0<R.size) (bj:B≤b) (hR:R.Plain:=by exact aa.n1):
  R.aH e by_ w B (aa.aj (some ⟨b,0,none⟩)) (some ⟨b,0,none⟩) k.length k:=by
 have aC:∀ x∈ess,x.length=R.size:=fun x hx=>by obtain ⟨a,ha⟩:=h.left x hx;exact R.len ha
 have hlen:cs.length=k.length * R.size:=by rw [← zC,Be aC,h.length]
 refine aa.aH.zS hR h pW ⟨by rw [zC,hlen], .inr ⟨b,k.length,cs.toArray,rfl,bj,γ,aTK _,rH,by simpa using hlen, ?_,fun j u hu=> ?_⟩⟩
 ·rw [zC];exact aT0 (by simp [hlen])
 ·exact Fg h aK (by rw [zC];simpa using hu)
theorem ap {α:Type} {R:aa α} {e by_ base:Nat} {A dg:Option Addr} {c c2 d:Nat} {l k:List α} (jV:fi P R t e by_) (hR:R.re) (h:R.aH e by_ w base (aa.aj A) A c l) (ae:R.aG by_ w dg c2 k)
  (hs:ev E x=some (.slice A l.length c)) (hx:ev E y=some (.slice dg k.length c2)) (hlen:l.length+k.length≤9223372036854775807) (rM:(l.length+k.length) * by_≤140737488355328) (pU:base≤w.heap.size) (hd:Nat.blt d n=true)
  (au:∀ aS bL bX,Mod (aa.aj A) w aS→R.aH e by_ aS base (aa.aj bL) bL bX (l++k)→(∀ q∈aa.aj bL,q∈aa.aj A∨w.heap.size≤q)→(bL=none↔A=none∧k= [])→cy P n ops Q rest ((d, .slice bL (l++k).length bX)::E) aS):
  cy P n ops Q (⟨some d, .call {callee:= .builtin .append,args:=#[x,y],argTypes:=#[t,t]},ty,pos,af,none⟩::rest) E w:=fun a ha=>by
 obtain ⟨i,z,aY,bb,cP,jq,E6,E7,KY,aev⟩:=jV;obtain ⟨s1,s2,s8,ZU,ess,Je,Gj⟩:=ae;obtain ⟨eH,fa⟩:=aa.akF ess;refine aa.aHI Z x y base t e i z aY bb cP jq E6 E7 KY aev (aa.aj A) A c l h dg k.length c2 k (ess.map fun es=>(([]:List Nat),es)) (aa.dm.plain hR.1 Je) Z (by rw [fa];exact Gj) (by rw [eH,aT6];exact h.nodup) hlen rM pU Z (ha.ev hs) (ha.ev hx) ?_;rintro bL bX f' aS ⟨gR,ia,sb,Sf,Zs,akT⟩;obtain rfl:=gR.av1 hR.2;have hm:Mod (aa.aj A) w aS:=by
  have:=Mod.grown ia
  rwa [aa.R_] at this
 have:=au aS bL bX hm gR (fun q I=>by
  rcases Sf q I with h | h | h
  ·exact .inl h
  ·rw [eH] at h;cases h
  ·exact .inr (by omega)) (by rw [Zs];exact and_congr_right fun _=>List.length_eq_zero_iff)
 rw [aTE] at this;exact this _ (ha.put hd _)
theorem Own.adk {base e size:Nat} {G:Nat→Value→Prop} {b c n:Nat} {xs:List Value} (h:Own w base e size G (.slice (some ⟨b,0,none⟩) n c) n xs):∃ cur:Array Value,w.heap[b]? =some (.cells cur e (0,0))∧cur.size=c * size∧cur.toList.take (n * size)=xs:=by
 obtain ⟨τ,ae⟩:=h;rcases ae with ⟨ae,_⟩ | ⟨g',cap,cur,hv,pG,fI,d,hm,hs,aJ,bQ⟩
 ·cases ae
 ·injection hv with hv _ hc
  injection hv with hv
  injection hv with hv
  subst hv;subst hc;exact ⟨cur,fI,hs,aJ⟩
theorem so {α:Type} {R:aa α} {e by_ B j i:Nat} {A:Option Addr} {c:Nat} {l:List α} {q q':α} {p:Addr} {u:Value} (h:R.aH e by_ w B (aa.aj A) A c l) (hR:R.re) (ar:l[i]? =some q) (aA:Nat.blt j R.size=true) (hx:ev E x=some (.pointer (some p))) (hp:p=⟨eV A,kz A+i * R.size+j,none⟩) (aF:ev E y=some u)
  (hu:∀ (aS:World) cs,R.has w cs q→R.has aS (cs.set j u) q') (τ:u.oneCell'=true) (zC:u.cells=#[u]) (hs:eK P t 1)
  (au:∀ aS,Mod (aa.aj A) w aS→R.aH e by_ aS B (aa.aj A) A c (l.set i q')→cy P n ops Q rest E aS):cy P n ops Q (⟨none, .store t x y,ty,pos,af,none⟩::rest) E w:=by
 obtain ⟨b,rfl⟩:=h.block (by have:=(aTC.1 ar).1;omega);rw [aXk] at aA;have L1:p=⟨b,i * R.size+j,none⟩:=by rw [hp];simp [eV,kz]
 subst L1;have vL:=h.aFk hR ar aA (fun cs hc=>hu _ cs hc);have bA:=(aTC.1 ar).1;have jJ:∃ amf,w.cell? ⟨b,i * R.size+j,none⟩=some amf:=by
  obtain ⟨_,ps,_,_,cc,dD⟩:=h;have aC:=cc.1;rw [cc.cell _ (by rw [aUU i];exact aVl (by rw [aUU];exact (by omega:i * R.size+j<i * R.size+R.size)) (by rw [← aVj];exact aUk _ bA))];exact ⟨_,aTF (by rw [aC];exact aVl (by omega:i * R.size+j<i * R.size+R.size) (by rw [← aVj];exact aUk _ bA))⟩
 obtain ⟨amf,azz⟩:=jJ;have hf:=h.free (i * R.size+j);refine us (w':=w.setCell ⟨b,i * R.size+j,none⟩ u) (fun n a ha=> ?_) (au _ (Mod.setCell w ⟨b,i * R.size+j,none⟩ u) vL);have hY:(storeVar t ⟨b,i * R.size+j,none⟩ u).run P w= .ok () (w.setCell ⟨b,i * R.size+j,none⟩ u):=by
  unfold storeVar;simp only [zC,aTQ,hs w,aTJ,aVe,aTI,aTN,ne_eq,aUX,aYO,aU5,storeCells];have:(⟨b,i * R.size+j,none⟩:Addr).add 0=⟨b,i * R.size+j,none⟩:=rfl;rw [this,run_store P w _ u _ τ,azz];simp only [hf,aUm,aU5,aTJ,aTV]
 simp only [execOp,ha.ev hx,ha.ev aF,Instr.storeAt,Instr.sureAddr,aTQ,aTV,aTJ,hY]
theorem PE {e u:TypeId} {q:Option Addr} (aJ:P.underlying t=some (.pointer e)) (hx:ev E x=some (.pointer q)) (aF:ev E y=some (.pointer none)):cQ P E ⟨d, .binOp .eql t x y u,ty,pos,af,g⟩ w (.bool q.isNone) w:=fun n a ha=>by
 have τ:P.underlying t=some (.pointer (P.pointee t)):=by simp [Program.pointee,aJ]
 have:(eqGuard .eql t x y (.pointer q) (.pointer none)).run P w= .ok () w:=by cases x<;>cases y<;>rfl
 simp only [execOp,ha.ev hx,ha.ev aF,aTQ,this,run_eql_pointer_nil w t q τ,aTJ,aTV]
def G6 (P:Program) {α:Type} [DecidableEq α] (cells:α→List Value) (t:TypeId):Prop:=∀ (a b:α) (w:World),(binOp .eql t (.agg (cells a).toArray) (.agg (cells b).toArray)).run P w= .ok (.bool (decide (a=b))) w∧(binOp .neq t (.agg (cells a).toArray) (.agg (cells b).toArray)).run P w= .ok (.bool (!decide (a=b))) w
theorem avu {o:BinOp} {xs ys:Array Value} (h:P.eqGuardType P.depth t=false):(eqGuard o t x y (.agg xs) (.agg ys)).run P w= .ok () w:=by
 cases o<;>simp [eqGuard,h]
theorem KI {α:Type} [DecidableEq α] {cells:α→List Value} {u:TypeId} {p q:α} (jV:G6 P cells t) (bQ:P.eqGuardType P.depth t=false) (hx:ev E x=some (.agg (cells p).toArray)) (aF:ev E y=some (.agg (cells q).toArray)):cQ P E ⟨d, .binOp .neq t x y u,ty,pos,af,g⟩ w (.bool (!decide (p=q))) w:=fun n a ha=>by
 simp only [execOp,ha.ev hx,ha.ev aF,aTQ,avu bQ,(jV p q w).2,aTJ,aTV]
theorem run_equalIn_bool (d:Nat) {p q:Bool} (aJ:P.underlying t=some .bool):(Op.equalIn (d+1) t (.bool p) (.bool q)).run P w= .ok (p == q) w:=by simp [Op.equalIn,aUQ aJ]
theorem run_equal_bool {p q:Bool} (aJ:P.underlying t=some .bool):(Op.equal t (.bool p) (.bool q)).run P w= .ok (p == q) w:=run_equalIn_bool 9999 aJ
theorem ara {u:TypeId} {p q:Bool} (aJ:P.underlying t=some .bool) (hx:ev E x=some (.bool p)) (aF:ev E y=some (.bool q)):cQ P E ⟨d, .binOp .eql t x y u,ty,pos,af,g⟩ w (.bool (p == q)) w:=fun n a ha=>by
 have:(eqGuard .eql t x y (.bool p) (.bool q)).run P w= .ok () w:=by cases x<;>cases y<;>rfl
 have ae:(binOp .eql t (.bool p) (.bool q)).run P w= .ok (.bool (p == q)) w:=by
  simp only [binOp,aTQ,run_equal_bool aJ,aTJ,aTV]
 simp only [execOp,ha.ev hx,ha.ev aF,aTQ,this,ae,aTJ,aTV]
theorem aq8 {u:TypeId} {p q:Bool} (aJ:P.underlying t=some .bool) (hx:ev E x=some (.bool p)) (aF:ev E y=some (.bool q)):cQ P E ⟨d, .binOp .neq t x y u,ty,pos,af,g⟩ w (.bool (p != q)) w:=fun n a ha=>by
 have:(eqGuard .neq t x y (.bool p) (.bool q)).run P w= .ok () w:=by cases x<;>cases y<;>rfl
 have ae:(binOp .neq t (.bool p) (.bool q)).run P w= .ok (.bool (p != q)) w:=by
  simp only [binOp,aTQ,run_equal_bool aJ,aTJ,aTV];rfl
 simp only [execOp,ha.ev hx,ha.ev aF,aTQ,this,ae,aTJ,aTV]
theorem FP {u i:Value} (hx:ev E x=some u) (aF:ev E y=some i) (hr:(Instr.index t u i).run P w= .ok v w):cQ P E ⟨d, .index t x y,ty,pos,af,g⟩ w v w:=fun n a ha=>by
 simp only [execOp,ha.ev hx,ha.ev aF,aTQ,hr,aTJ,aTV]
theorem mY {k:IntKind} {i j:Int} {ts:Array TypeId} (hx:ev E x=some (.int k i)) (aF:ev E y=some (.int k j)):cQ P E ⟨d, .call {callee:= .builtin .min,args:=#[x,y],argTypes:=ts},ty,pos,af,g⟩ w (.int k (min i j)) w :=
 bi (vs:= [.int k i, .int k j]) (by simp only [gX,hx,aF]) fun cs=>by
  have:=run_min_int2 (P:=P) (w:=w) ts ty k k i j;simp only [builtin,aTQ,this,aTJ,aTV];congr 3;rw [Int.min_def];split<;>split<;>omega
theorem mx {k:IntKind} {i j:Int} {ts:Array TypeId} (hx:ev E x=some (.int k i)) (aF:ev E y=some (.int k j)):cQ P E ⟨d, .call {callee:= .builtin .max,args:=#[x,y],argTypes:=ts},ty,pos,af,g⟩ w (.int k (max i j)) w :=
 bi (vs:= [.int k i, .int k j]) (by simp only [gX,hx,aF]) fun cs=>by
  have:=run_max_int2 (P:=P) (w:=w) ts ty k k i j;simp only [builtin,aTQ,this,aTJ,aTV];congr 3;rw [Int.max_def];split<;>split<;>omega
end
open Tryz

section
variable {P:Program} {n:Nat} {E:List (Nat×Value)} {a:Act} {w w0:World} {Q:Exit→Act→World→Prop} {ops:Array Oper} {aT:Nat→Nat}
def zY (r:List Nat) (l:Array Bool):Array Bool:=match r with | []=>l | i::r=>zY r (l.setIfInBounds i true)
def Fh (ops:Array Oper) (aT:Nat→Nat):List Nat→Array Bool→Bool
 | [],_=>true
 | i::r,l=>(match aT i with
   | 0=>Region.free .any ops l i && (Region.ready .any ops l).contains i && Pw ops aT l i
   | 1=>Region.free .any ops l i && (Region.ready .any ops l).contains i
   | _=>false) && Fh ops aT r (l.setIfInBounds i true)
def acR (ops:Array Oper) (aT:Nat→Nat) (r:List Nat):Nat→List Nat→Array Bool→Bool
 | 0,R,l=>R.isEmpty && kd ops aT r l
 | f+1,R,l=> !(Region.ready .any ops l).isEmpty && (Region.ready .any ops l).all fun j=>R.contains j && Nat.beq (aT j) 2 && acR ops aT r f (R.erase j) (l.setIfInBounds j true)
theorem U0 (hs:Region.noSelect ops=true) (iC:∀ c a w,¬ Q (.panic c) a w) {qF:Exit→Act→World→Prop} {m:Nat}:∀ (r:List Nat) (l:Array Bool) (a:Act) (w0:World),l.size=ops.size→Fh ops aT r l=true→uD P ops qF aT r a w0→
  (∀ a w0,(∀ w,Ext w0 w→qF .normal a w)→CS P ops Q aT m (zY r l) a w0)→CS P ops Q aT (r.length+m) l a w0
 | [],l,a,w0,_,_,h,fr=>by rw [aTN,aUX];exact fr a w0 h
 | i::r,l,a,w0,aC,bj,h,fr=>by
  rw [aTI,Nat.succ_add];obtain ⟨o,cc,h⟩:=h;have ny:=aWn hs;rcases h with ⟨au,v,I,hK⟩ | ⟨au,v,I,hK⟩ | ⟨au,h⟩
  ·simp only [Fh,au,aTM] at bj;obtain ⟨⟨⟨hf,hr⟩,γ⟩,bj⟩:=bj;obtain ⟨R,r1,r2,se⟩:=Px aC γ;exact Qo cc (by omega) ny iC (fun w0 a=>tQ P ops w0 o v a) (fun _ _ h=>h) (fun _ _ _ h he hw=>h.of_same he hw) (fun _ _ _ hx h=>h.on hx) R l r1 (.inr se) _ _ _ _ r2 (fun _ h=>h) (aVp cc hf) (by simpa using hr) I
    (U0 hs iC r _ _ _ (by simpa using aC) bj hK fr)
  ·simp only [Fh,au,aTM] at bj;obtain ⟨⟨hf,hr⟩,bj⟩:=bj;exact Qo cc (by omega) ny iC (fun _ a=>Yields P ops o v a) (fun _ _ h=>Yields.akX h) (fun _ _ _ h he hw=>h.of_same he hw) (fun _ _ _ _ h=>h) (fun _=>true) l (fun _ _ _ _ _=>Z) (.inl fun _ _ _ h=>h) _ _ _ _ (fun _ _=>Z) (fun _ h=>h) (aVp cc hf) (by simpa using hr) I
    (U0 hs iC r _ _ _ (by simpa using aC) bj hK fr)
  ·obtain ⟨k,ff⟩:∃ k,aT i=k+2:=⟨aT i - 2,by omega⟩;simp only [Fh,ff,aXZ,aUm] at bj
theorem eD.ki {d:Nat} (h:eD n E a) (hf:look E d=Option.none) (v:Value):eD n E (a.put (some d) v):=by
 refine ⟨h.d,by simp [Act.put,h.s],fun t u hu=> ?_⟩;have eY:d≠t:=fun e=>by rw [e,hu] at hf;cases hf
 simp only [Act.put];rw [aVA eY];exact h.g t u hu
structure aKn (P:Program) (n:Nat) (ops:Array Oper) (Q:Exit→Act→World→Prop) (E:List (Nat×Value)) (w0:World) (i d:Nat) (aa4:Value→List Nat→World→Prop):Prop where
 mono:∀ v f w w',aa4 v f w→Ext w w'→aa4 v f w'
 free:look E d=none
 cY:Nat.blt d n=true
 run:∀ (a:Act) (w:World) (K:Act→World→Prop),eD n E a→Ext w0 w→(∀ v w' f,Ext w w'→(∀ q∈f,w.heap.size≤q∧q<w'.heap.size)→aa4 v f w'→K (a.put (some d) v) w')→wpOp P ops (hz (Q .normal)) i K a w
abbrev Made:=Nat×Nat×(Value→List Nat→World→Prop)
def aJe (P:Program) (ops:Array Oper) (Q:Exit→Act→World→Prop) (aT:Nat→Nat) (B bV:List Nat) (l:Array Bool):Exit→Act→World→Prop
 | .normal,a,w=>Region.noSelect ops=true→l.size=ops.size→acR ops aT bV B.length B l=true→CS P ops (hz (Q .normal)) aT (B.length+bV.length) l a w
 | _,_,_=>False
theorem Z3:∀ (r:List Nat) (l:Array Bool),(zY r l).size=l.size
 | [],_=>rfl
 | i::r,l=>by unfold zY;rw [Z3 r];simp
def aCk:List Nat→Bool
 | []=>true
 | x::r=> !r.elem x && aCk r
variable {d i:Nat} {ty:TypeId} {pos:String} {af:Array Edge} {x y z:Operand} {t:TypeId} {v:Value}
def aKo (cs:List Value) (t:TypeId) (v:Value) (f:List Nat) (w:World):Prop:=∃ b,v= .pointer (some ⟨b,0,none⟩)∧f= [b]∧aR w b cs t (0,0)
end
open Tryz

section
variable {P:Program} {n:Nat} {E cO:List (Nat×Value)} {a:Act} {w w' w0 aS:World} {Q:Exit→Act→World→Prop} {ops:Array Oper}
variable {d:Option Nat} {ty:TypeId} {pos:String} {af:Array Edge} {g:Option (Nat×Bool)} {x y z u:Operand} {t:TypeId} {rest:List Oper} {v:Value}
theorem Y9 {i:Int} (hx:ev E x=some (.int .i64 i)) (h:IntKind.i64.wrap (-i)= -i):cQ P E ⟨d, .unOp .neg t x,ty,pos,af,g⟩ w (.int .i64 (-i)) w:=fun n a ha=>by
 have:(execOp a.eval ⟨d, .unOp .neg t x,ty,pos,af,g⟩).run P w= .ok (.value (.int .i64 (IntKind.i64.wrap (-i)))) w:=by
  have aK:(0:Int) - i= -i:=Int.zero_sub i;have hu:(Op.unary .neg (.int .i64 i)).run P w= .ok (.int .i64 (IntKind.i64.wrap (-i))) w:=by
   show (Op.intArith .sub .i64 0 i).run P w=_;simp [Op.intArith,aK]
  simp only [execOp,ha.ev hx,aTQ,hu,aTJ,aTV]
 rw [this,h]
theorem aBv {k:IntKind} {i j l m:Int} {ts:Array TypeId} (hx:ev E x=some (.int k i)) (aF:ev E y=some (.int k j)) (bG:ev E z=some (.int k l)) (hu:ev E u=some (.int k m)):cQ P E ⟨d, .call {callee:= .builtin .max,args:=#[x,y,z,u],argTypes:=ts},ty,pos,af,g⟩ w (.int k (max (max (max i j) l) m)) w :=
 bi (vs:= [.int k i, .int k j, .int k l, .int k m]) (by simp only [gX,hx,aF,bG,hu]) fun cs=>by
  have e:∀ a b:Int,(if b > a then b else a)=max a b:=fun a b=>by rw [Int.max_def];split<;>split<;>omega
  have:(Builtin.max_ ts ty #[.int k i, .int k j, .int k l, .int k m]).run P w= .ok (.int k (max (max (max i j) l) m)) w:=by
   rw [← e,← e,← e];simp [Builtin.max_,Builtin.max2]
  simp only [builtin,aTQ,this,aTJ,aTV]
end
def ab5 (e:MapEntry) (p:Int×Int):Prop:=e.key= .int .i64 p.1∧e.val= .int .i64 p.2
def pB (w:World) (r:Nat) (l:List (Int×Int)):Prop:=∃ (es:Array MapEntry) (clock:Nat),w.heap[r]? =some (.map es clock)∧dm ab5 es.toList l
def c6 (l:List (Int×Int)) (k:Int):Option Int:=(l.find? fun p=>p.1 == k).map (·.2)
section
variable {w w':World} {r:Nat} {l:List (Int×Int)} {S:List Nat}
theorem pB.lt (h:pB w r l):r<w.heap.size:=by
 obtain ⟨es,c,τ,_⟩:=h;exact (aUd.1 τ).1
theorem pB.later (h:pB w r l) (x:Ext w w'):pB w' r l:=by
 have aC:=h.lt;obtain ⟨es,c,τ,ae⟩:=h;exact ⟨es,c,by rw [x.block r aC];exact τ,ae⟩
theorem pB.mod (h:pB w r l) (m:Mod S w w') (hs:r∉S):pB w' r l:=by
 have aC:=h.lt;obtain ⟨es,c,τ,ae⟩:=h;exact ⟨es,c,by rw [m.block r aC hs];exact τ,ae⟩
theorem Wq (k:Int):∀ {es:List MapEntry} {l:List (Int×Int)} (i:Nat),dm ab5 es l→(c6 l k=none→Instr.findNow (.int .i64) (.int .i64 k) es i=some none)∧(∀ v,c6 l k=some v→∃ j,Instr.findNow (.int .i64) (.int .i64 k) es i=some (some (j, .int .i64 v)))
 | [], [],i,_=>⟨fun _=>rfl,fun v h=>by simp [c6] at h⟩
 | e::es,p::l,i,h=>by
  obtain ⟨⟨au,hv⟩,ae⟩:=h;have bK:=Wq k (i+1) ae;have FL:Instr.sameNow (.int .i64) (.int .i64 k) e.key=some (decide (k=p.1)):=by
   rw [au];obtain ⟨q,I,ar⟩:=MapKept.sameNow_of_keys (d:= .int .i64) (a:= .int .i64 k) (b:= .int .i64 p.1) rfl rfl;rw [I];cases q with
   | true=>have:=ar.1 rfl;injection this with _ this;rw [aT3 this]
   | false=>rw [aT4 fun e=>by have:=ar.2 (by rw [e]);cases this]
  by_cases he:k=p.1
  ·have γ:(p.1 == k)=true:=by simp [he]
   rw [aT3 he] at FL;refine ⟨fun aK=>by simp [c6,List.find?,γ] at aK,fun v aK=>⟨i, ?_⟩⟩;have:p.2=v:=by simpa [c6,List.find?,γ] using aK
   simp [Instr.findNow,FL,hv,this]
  ·have γ:(p.1 == k)=false:=by simpa using fun e=>he e.symm
   rw [aT4 he] at FL;have aM:c6 (p::l) k=c6 l k:=by simp [c6,List.find?,γ]
   rw [aM];simpa [Instr.findNow,FL] using bK
end
section
variable {P:Program} {n:Nat} {E cO:List (Nat×Value)} {a:Act} {w w' w0 aS:World} {Q:Exit→Act→World→Prop} {ops:Array Oper}
variable {d:Option Nat} {ty:TypeId} {pos:String} {af:Array Edge} {g:Option (Nat×Bool)} {x y z u:Operand} {t:TypeId} {rest:List Oper} {v:Value}
theorem zR {d:Nat} (hd:Nat.blt d n=true) (h:∀ aS r,Ext w aS→w.heap.size≤r→pB aS r []→cy P n ops Q rest ((d, .map (some r))::E) aS):cy P n ops Q (⟨some d, .makeMap t none,ty,pos,af,none⟩::rest) E w:=by
 refine iV (w':=w.alloc (.map #[] 0)) (v:= .map (some w.heap.size)) (fun n a ha=> ?_) hd (h _ _ ((aUb _ w).alloc (aTK _) _) (aTK _) ⟨#[],0,(MapKept.heap_alloc w _).1,trivial⟩);simp only [execOp,Option.map,aTQ,run_makeMap_plain,aTJ,aTV]
theorem lk {MJ Ql:TypeId} {r:Nat} {l:List (Int×Int)} {k:Int} (hm:P.underlying t=some (.map MJ Ql)) (au:P.underlying MJ=some (.int .i64)) (he:l9 P Ql (.int .i64 0)) (h:pB w r l) (hx:ev E x=some (.map (some r))) (aF:ev E y=some (.int .i64 k)):
  cQ P E ⟨d, .lookup t x y true,ty,pos,af,g⟩ w (.tuple #[.int .i64 ((c6 l k).getD 0), .bool (c6 l k).isSome]) w:=fun n a ha=>by
 obtain ⟨es,c,τ,ae⟩:=h;have hf:=Wq k 0 ae;have Q1:=aYT (P:=P) (w:=w) au (show MapKept.IsKey (.int .i64) (.int .i64 k) from rfl) es.isEmpty 9999;have kQ:(Instr.lookup t (.map (some r)) (.int .i64 k) true).run P w= .ok (.tuple #[.int .i64 ((c6 l k).getD 0), .bool (c6 l k).isSome]) w:=by
  cases aM:c6 l k with
  | none =>
   have:=aXp (P:=P) (w:=w) au (hf.1 aM);simp [Instr.lookup,aTQ,aUQ hm,aUA τ,Q1,this,he w,Result.andThen]
  | some v =>
   obtain ⟨j,aA⟩:=hf.2 v aM;have:=aXp (P:=P) (w:=w) au aA;simp [Instr.lookup,aTQ,aUQ hm,aUA τ,Q1,this,Result.andThen]
 simp only [execOp,ha.ev hx,ha.ev aF,aTQ,kQ,aTJ,aTV]
theorem mu {MJ Ql:TypeId} {r:Nat} {l:List (Int×Int)} {k v:Int} (hm:P.underlying t=some (.map MJ Ql)) (au:P.underlying MJ=some (.int .i64)) (h:pB w r l) (aM:c6 l k=none) (hx:ev E x=some (.map (some r))) (aF:ev E y=some (.int .i64 k)) (bG:ev E z=some (.int .i64 v))
  (hK:∀ aS,Mod [r] w aS→pB aS r (l++ [(k,v)])→cy P n ops Q rest E aS):cy P n ops Q (⟨none, .mapUpdate t x y z,ty,pos,af,none⟩::rest) E w:=by
 have bA:=h.lt;obtain ⟨es,c,τ,ae⟩:=h;have hf:=(Wq k 0 ae).1 aM;have Q1:=aYT (P:=P) (w:=w) au (show MapKept.IsKey (.int .i64) (.int .i64 k) from rfl) false 9999;have axX:=aXp (P:=P) (w:=w) au hf;have vL:=aU3 (P:=P) (.map (es.push {key:= .int .i64 k,val:= .int .i64 v,born:=c}) (c+1)) τ;refine us (w':= {w with heap:=w.heap.setIfInBounds r (.map (es.push {key:= .int .i64 k,val:= .int .i64 v,born:=c}) (c+1))}) (fun n a ha=> ?_) (hK _ ⟨Z,Z,Z,by simp,fun q I hn=> ?_⟩ ⟨es.push {key:= .int .i64 k,val:= .int .i64 v,born:=c},c+1,(MapKept.heap_set τ).1, ?_⟩)
 ·have kQ:(Instr.mapUpdate t (.map (some r)) (.int .i64 k) (.int .i64 v)).run P w= .ok () {w with heap:=w.heap.setIfInBounds r (.map (es.push {key:= .int .i64 k,val:= .int .i64 v,born:=c}) (c+1))}:=by
   simp [Instr.mapUpdate,aTQ,aUQ hm,aUA τ,Q1,axX,vL,Result.andThen]
  simp only [execOp,ha.ev hx,ha.ev aF,ha.ev bG,aTQ,kQ,aTJ,aTV]
 ·exact (MapKept.heap_set τ).2 q (by simpa using hn)
 ·rw [Array.toList_push];exact ae.app ⟨⟨Z,Z⟩,trivial⟩
end
theorem aBG {w:World} {B e size c m:Nat} {G:Nat→Value→Prop} {z:Array Value} (bG:z.size=size) (aK:0<size) (bQ:∀ (j:Nat) u,z[j]? =some u→G j u) (bj:B≤w.heap.size) (hm:m≤c) (hc:c≤maxLen):
  Own (w.alloc (.cells (madeCells z (c * size)) e)) B e size G (.slice (some ⟨w.heap.size,0,none⟩) m c) m ((madeCells z (c * size)).toList.take (m * size)):=by
 have ayK:m * size≤c * size:=aUk _ hm;refine ⟨by rw [aTD,aVB,aXe];omega, .inr ⟨w.heap.size,c,_,rfl,bj,(MapKept.heap_alloc w _).1,hm,hc,aXe _ _,rfl,fun j u hu=> ?_⟩⟩;have bA:=(aUd.1 hu).1;simp only [madeCells,aXo] at hu;rw [aXe] at bA;rw [aW8,aTO bA] at hu;have aA:j % size<z.size:=by rw [bG];exact aVI _ aK
 have e:z[j % z.size]! =z[j % size]:=by rw [bG];exact aYf z (j % size) aA
 rw [aU6,e] at hu;exact bQ _ _ (by rw [aV2 aA];exact hu)
section
variable {P:Program} {n:Nat} {E cO:List (Nat×Value)} {a:Act} {w w' w0 aS:World} {Q:Exit→Act→World→Prop} {ops:Array Oper}
variable {d:Nat} {ty:TypeId} {pos:String} {af:Array Edge} {g:Option (Nat×Bool)} {x y z:Operand} {t:TypeId} {rest:List Oper}
theorem Y1 {α:Type} {R:aa α} {e by_ B m c:Nat} {zv:Value} {l:List α} (cq:R.Plain) (aJ:P.underlying t=some (.slice e)) (ar:(P.info? e).map (fun i=>(i.zero,i.size,i.bytes))=some (some zv,R.size,by_)) (τ:zv.cells.size=R.size) (ae:0<R.size) (aw:∀ (j:Nat) u,zv.cells[j]? =some u→R.raw j u)
  (hx:ev E x=some (.int .i64 (m:Int))) (aF:ev E y=some (.int .i64 (c:Int))) (hd:Nat.blt d n=true) (hm:m≤c) (γ:c * by_≤140737488355328) (hc:c≤9223372036854775807) (bj:B≤w.heap.size) (aC:l.length=m) {ess:List (List Value)} (axW:∀ w,dm (fun es a=>R.has w es a) ess l) (qO:ess.flatten=(madeCells zv.cells (c * R.size)).toList.take (m * R.size))
  (h:∀ aS b,Ext w aS→w.heap.size≤b→R.aH e by_ aS B (aa.aj (some ⟨b,0,none⟩)) (some ⟨b,0,none⟩) c l→cy P n ops Q rest ((d, .slice (some ⟨b,0,none⟩) m c)::E) aS):cy P n ops Q (⟨some d, .makeSlice t x y,ty,pos,af,none⟩::rest) E w:=by
 cases I:P.info? e with
 | none=>rw [I] at ar;cases ar
 | some i =>
  rw [I] at ar;simp only [aU6,aWg,aXf] at ar;obtain ⟨i1,i2,i3⟩:=ar;have bF:(i.bytes:Int) * (c:Int)≤281474976710656:=by
   have:i.bytes * c≤281474976710656:=by rw [i3,aUU];omega
   have h:((i.bytes * c:Nat):Int)≤281474976710656:=by omega
   rwa [Int.natCast_mul] at h
  have hr:=run_make (P:=P) w t e i zv aJ I i1 .i64 .i64 (m:Int) (c:Int) (by omega) (by omega) bF (by omega);simp only [aUx] at hr;have cc:=aBG (w:=w) (e:=e) (c:=c) (m:=m) τ ae aw bj hm (by simp [maxLen];omega);rw [← qO] at cc;subst aC;rw [i2] at hr;refine iV (fun n a ha=> ?_) hd (h _ w.heap.size ((aUb _ w).alloc (aTK _) _) (aTK _) (aa.aH.zS (R:=R) cq (axW _) (aUc (aUk _ hm) γ) cc));simp only [execOp,ha.ev hx,ha.ev aF,aTQ,hr,aTJ,aTV]
theorem RL {α:Type} {R:aa α} {e by_ B c:Nat} {zv:Value} (cq:R.Plain) (aJ:P.underlying t=some (.slice e)) (ar:(P.info? e).map (fun i=>(i.zero,i.size,i.bytes))=some (some zv,R.size,by_)) (τ:zv.cells.size=R.size) (ae:0<R.size) (aw:∀ (j:Nat) u,zv.cells[j]? =some u→R.raw j u)
  (hx:ev E x=some (.int .i64 0)) (aF:ev E y=some (.int .i64 (c:Int))) (hd:Nat.blt d n=true) (γ:c * by_≤140737488355328) (hc:c≤9223372036854775807) (bj:B≤w.heap.size)
  (h:∀ aS b,Ext w aS→w.heap.size≤b→R.aH e by_ aS B (aa.aj (some ⟨b,0,none⟩)) (some ⟨b,0,none⟩) c ([]:List α)→cy P n ops Q rest ((d, .slice (some ⟨b,0,none⟩) 0 c)::E) aS):cy P n ops Q (⟨some d, .makeSlice t x y,ty,pos,af,none⟩::rest) E w :=
 Y1 (m:=0) (l:=([]:List α)) (ess:= []) cq aJ ar τ ae aw hx aF hd (aUv _) γ hc bj rfl (fun _=>trivial) (by simp) h
theorem MQ {α:Type} {R:aa α} {e by_ B c:Nat} {zv:Value} {q:α} (cq:R.Plain) (aJ:P.underlying t=some (.slice e)) (ar:(P.info? e).map (fun i=>(i.zero,i.size,i.bytes))=some (some zv,R.size,by_)) (hs:R.size=1) (τ:zv.cells=#[zv]) (aw:∀ (j:Nat) u,zv.cells[j]? =some u→R.raw j u) (I:∀ w,R.has w [zv] q)
  (hx:ev E x=some (.int .i64 (c:Int))) (aF:ev E y=some (.int .i64 (c:Int))) (hd:Nat.blt d n=true) (γ:c * by_≤140737488355328) (hc:c≤9223372036854775807) (bj:B≤w.heap.size)
  (h:∀ aS b,Ext w aS→w.heap.size≤b→R.aH e by_ aS B (aa.aj (some ⟨b,0,none⟩)) (some ⟨b,0,none⟩) c (List.replicate c q)→cy P n ops Q rest ((d, .slice (some ⟨b,0,none⟩) c c)::E) aS):cy P n ops Q (⟨some d, .makeSlice t x y,ty,pos,af,none⟩::rest) E w:=by
 refine Y1 (m:=c) (ess:=List.replicate c [zv]) cq aJ ar (by rw [τ,hs];rfl) (by omega) aw hx aF hd (aTK _) γ hc bj (by simp) (fun w=> ?_) ?_ h
 ·clear h γ hc hx aF;induction c with
  | zero=>trivial
  | succ c bK=>exact ⟨I w,bK⟩
 ·rw [hs,aWB,τ];apply aUS;intro i;simp only [aUf,aUI,madeCells,aXo,aW8];have aY:∀ k:Nat,(List.replicate k [zv]).flatten=List.replicate k zv:=fun k=>by
   induction k with
   | zero=>rfl
   | succ k bK=>simp [aYD,bK]
  rw [aY,aUO];split
  ·simp [Nat.mod_one]
  ·rfl
end
def eB (A:Option Addr) (c lo s:Nat):Option Addr:=if c=lo then A else A.map (·.add (lo * s))
theorem Wv {β:Type} {size:Nat}:∀ (lo:Nat) {ess:List (List β)},(∀ x∈ess,x.length=size)→(ess.drop lo).flatten=ess.flatten.drop (lo * size)
 | 0,ess,_=>by simp
 | lo+1, [],_=>by simp
 | lo+1,x::ess,h=>by
  have hx:=h x aT1;rw [aYG,Wv lo fun y aF=>h y (aTS _ aF),aUw,aVj,aXt,← aUZ];congr 1;rw [aXN (by omega),aYm (by omega)];rfl
theorem Qp {β:Type} {size:Nat}:∀ (n:Nat) {ess:List (List β)},(∀ x∈ess,x.length=size)→(ess.take n).flatten=ess.flatten.take (n * size)
 | 0,ess,_=>by simp
 | n+1, [],_=>by simp
 | n+1,x::ess,h=>by
  have hx:=h x aT1;have e:(n+1) * size=size+n * size:=by rw [aVj,aXt]
  rw [aXa,aUw,Qp n fun y aF=>h y (aTS _ aF),aUw,e,aXG,hx,Nat.add_sub_cancel_left,aT0 (by rw [hx];omega:x.length≤size+n * size)]
theorem dm.drop {α β:Type} {P:β→α→Prop}:∀ (n:Nat) {l:List β} {m:List α},dm P l m→dm P (l.drop n) (m.drop n)
 | 0,_,_,h=>h
 | n+1, [], [],_=>trivial
 | n+1,_::_,_::_,h=>dm.drop n h.2
theorem dm.take {α β:Type} {P:β→α→Prop}:∀ (n:Nat) {l:List β} {m:List α},dm P l m→dm P (l.take n) (m.take n)
 | 0,_,_,_=>trivial
 | n+1, [], [],_=>trivial
 | n+1,_::_,_::_,h=>⟨h.1,dm.take n h.2⟩
theorem aa.aG.sub {α:Type} {R:aa α} {by_ c:Nat} {A:Option Addr} {l:List α} {w:World} (h:R.aG by_ w A c l) (lo ar:Nat) (τ:lo≤ar) (ae:ar≤l.length):R.aG by_ w (eB A c lo R.size) (c - lo) ((l.drop lo).take (ar - lo)):=by
 obtain ⟨g1,g2,g3,g4,ess,g5,g6⟩:=h;have hlen:((l.drop lo).take (ar - lo)).length=ar - lo:=by rw [aTD,aTW];omega
 have hu:∀ x∈ess,x.length=R.size:=fun x hx=>by obtain ⟨a,ha⟩:=g5.left x hx;exact R.len ha
 refine ⟨by rw [hlen];omega,by omega,by rw [hlen];exact aUc (aUk _ (by omega)) g3,fun hn=> ?_,(ess.drop lo).take (ar - lo),(g5.drop lo).take _, ?_⟩
 ·unfold eB at hn;split at hn
  ·omega
  ·cases A with
   | none=>have:=g4 rfl;omega
   | some a=>cases hn
 ·have azA:∀ x∈ess.drop lo,x.length=R.size:=fun x hx=>hu x (aW3 hx);have Il:ess.length=l.length:=g5.length;rw [Qp _ azA,Wv _ hu,hlen];have qO:=Be hu;refine ⟨?_,fun aK=> ?_⟩
  ·rw [aTD,aTW,qO,Il,← Nat.sub_mul,aUJ (aUk _ (by omega))]
  ·obtain ⟨b,o,rfl,hc⟩:=g6.2 (by omega);have eY:¬ c=lo:=by omega
   refine ⟨b,o+lo * R.size,by unfold eB;rw [aTL eY];simp [Addr.add],fun j u aA=> ?_⟩;rw [aUf] at aA;split at aA
   ·rw [aUy] at aA;rw [aWl];exact hc _ u aA
   ·cases aA
section
variable {P:Program} {n:Nat} {E cO:List (Nat×Value)} {w:World} {d:Option Nat} {ty:TypeId} {pos:String} {af:Array Edge} {g:Option (Nat×Bool)} {x y z:Operand} {t:TypeId}
theorem ali {A:Option Addr} {len cap e s:Nat} {k k':IntKind} (lo ar:Nat) {i j:Int} (aJ:P.underlying t=some (.slice e)) (hs:eK P e s) (hx:ev E x=some (.slice A len cap)) (aF:ev E y=some (.int k i)) (bG:ev E z=some (.int k' j)) (xz:i=(lo:Int)) (FD:j=(ar:Int)) (τ:lo≤ar) (ae:ar≤cap):
  cQ P E ⟨d, .slice t x (some y) (some z) none,ty,pos,af,g⟩ w (.slice (eB A cap lo s) (ar - lo) (cap - lo)) w:=fun n a ha=>by
 subst xz;subst FD;have gR:P.underlying t=some (.slice (P.elem t)):=by simp [Program.elem,aJ]
 have ia:P.elem t=e:=by simp [Program.elem,aJ]
 have aw:=run_slice_lh (P:=P) (w:=w) t A len cap gR k k' (lo:Int) (ar:Int) (by omega) (by omega) (by omega);have aU:=aWj (P:=P) (w:=w) t (.slice A len cap) (some (.int k (lo:Int))) (some (.int k' (ar:Int))) none gR;rw [ia,hs w] at aw;simp only [execOp,ha.ev hx,ha.ev aF,ha.ev bG,Option.map,aU,aw,aTQ,aTJ,aTV,sliced,aUx,eB]
end
open Tryz

section
variable {P:Program} {n:Nat} {E cO:List (Nat×Value)} {a:Act} {w w' w0 aS:World} {Q:Exit→Act→World→Prop} {ops:Array Oper}
variable {d:Option Nat} {ty:TypeId} {pos:String} {af:Array Edge} {g:Option (Nat×Bool)} {x y z:Operand} {t:TypeId} {rest:List Oper} {v:Value}
theorem ZP {f:FuncId} (hf:Enters P f) {xs:Array Operand} {ts:Array TypeId} {args xb:List Value} {a:Act} (ha:eD n E a) (hx:ev E x=some (.func (.func f) #[] xb.toArray)) (he:gX E xs.toList=some args):
  (execOp a.eval ⟨d, .call {callee:= .value x,args:=xs,argTypes:=ts},ty,pos,af,g⟩).run P w= .ok (.enter f (args++xb).toArray) w:=by
 obtain ⟨fn,τ,ae,aw⟩:=hf;have hm:xs.map a.eval=args.toArray:=by rw [← ha.gX he];apply aVc;simp
 have hp:Sem.run P program w= .ok P w:=rfl;unfold execOp;simp only [resolve,invoke,Deferred.ofValue,ha.ev hx,callFunc,aTQ,aTV,aTJ,hm,hp,τ,ae,aw,aWv,aUm,aU5];simp
theorem C2 {d:Nat} {f:FuncId} (hf:Enters P f) {xs:Array Operand} {ts:Array TypeId} {args xb:List Value} (hx:ev E x=some (.func (.func f) #[] xb.toArray)) (he:gX E xs.toList=some args) (hd:Nat.blt d n=true)
  (h:Calls P f (args++xb).toArray w fun e w'=>∃ v,e= .returned v∧cy P n ops Q rest ((d,v)::E) w'):cy P n ops Q (⟨some d, .call {callee:= .value x,args:=xs,argTypes:=ts},ty,pos,af,none⟩::rest) E w:=fun a ha=>by
 refine EV Z ?_;unfold Oper.wp;rw [ZP hf ha hx he];refine aXD h fun e w' fI=> ?_;obtain ⟨v,rfl,h⟩:=fI;exact h _ (ha.put hd v)
theorem ne {fn:Func} {R:Ending→World→Prop} (h:T n (bodyPost P fn R) E w):N n (bodyPost P fn R) E w:=fun a ha=>h a ha
end
def Raw (aE size j:Nat) (w:World) (A:Option Addr) (c:Nat):Prop :=
 (A=none∧c=0)∨∃ (b:Nat) (cur:List Value) (e:TypeId),A=some ⟨b,0,none⟩∧aE≤b∧aR w b cur e (0,0)∧∀ i,i<c→∃ m:Int,cur[i * size+j]? =some (.int .i64 m)
section
variable {w w':World} {aE size j c i:Nat} {A:Option Addr} {S:List Nat}
theorem Raw.later (h:Raw aE size j w A c) (x:Ext w w'):Raw aE size j w' A c:=by
 rcases h with h | ⟨b,cur,e,τ,ae,aw,aU⟩
 ·exact .inl h
 ·exact .inr ⟨b,cur,e,τ,ae,aw.later x,aU⟩
theorem Raw.bs (h:Raw aE size j w A c) (aK:0<c):A=some ⟨eV A,kz A,none⟩:=by
 rcases h with ⟨_,h⟩ | ⟨b,cur,e,rfl,_⟩
 ·omega
 ·rfl
theorem Raw.get (h:Raw aE size j w A c) (ar:i<c):∃ m:Int,w.cell? ⟨eV A,kz A+i * size+j,none⟩=some (.int .i64 m):=by
 rcases h with ⟨_,h⟩ | ⟨b,cur,e,rfl,_,aw,aU⟩
 ·omega
 ·obtain ⟨m,hm⟩:=aU i ar;exact ⟨m,by rw [show (⟨eV (some ⟨b,0,none⟩),kz (some ⟨b,0,none⟩)+i * size+j,none⟩:Addr)=⟨b,i * size+j,none⟩ from by simp [eV,kz],aw.cell,hm]⟩
end
open Tryz
end Go.Proofs.YtmeeljmapailnaaGreat
