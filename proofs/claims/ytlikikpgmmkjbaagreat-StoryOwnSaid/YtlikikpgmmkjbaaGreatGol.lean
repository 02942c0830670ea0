import Derived.Test.YtlikikpgmmkjbaaGreatBas
import Derived.Test.YtlikikpgmmkjbaaGreatProg
import Derived.WideMake
set_option linter.unusedVariables false
set_option linter.unusedSimpArgs false
set_option maxRecDepth 100000
set_option maxHeartbeats 4000000
namespace Go.Proofs.YtlikikpgmmkjbaaGreat
open Tryz
end Go.Proofs.YtlikikpgmmkjbaaGreat
set_option linter.unusedVariables false
set_option linter.unusedSimpArgs false
namespace Go.Proofs.YtlikikpgmmkjbaaGreat
open Tryz
open Go.RowKit

def fE (n:Int):Prop:=(Lit.int .i64 n).wf=true
theorem bt {n:Int}:fE n↔ -9223372036854775808≤n∧n≤9223372036854775807:=by
 unfold fE;simp [Lit.wf,IntKind.min,IntKind.max,IntKind.signed,IntKind.bits]
def bz:κ Int:=κ.flat 1 (fun n=> [.int .i64 n]) fE (fun _ u=>∃ n:Int,u= .int .i64 n) (fun _=>rfl) (by intro a u hu;simp at hu;subst hu;rfl) (by
 intro a j u hu;cases j with
 | zero=>simp at hu;exact ⟨a,hu.symm⟩
 | succ j=>simp at hu)
def vS:κ Bool:=κ.flat 1 (fun n=> [.bool n]) (fun _=>True) (fun _ u=>∃ n:Bool,u= .bool n) (fun _=>rfl) (by intro a u hu;simp at hu;subst hu;rfl) (by
 intro a j u hu;cases j with
 | zero=>simp at hu;exact ⟨a,hu.symm⟩
 | succ j=>simp at hu)
def pE:κ ByteArray:=κ.Kc 1 (fun n=> [.string n]) (fun s=>s.size≤140737488351232) (fun _ u=>∃ n:ByteArray,u= .string n∧n.size≤140737488351232) (fun _=>rfl) (by intro a u hu;simp at hu;subst hu;rfl) (by
 intro a ok j u hu;cases j with
 | zero=>simp at hu;exact ⟨a,hu.symm,ok⟩
 | succ j=>simp at hu)
theorem acu:bz.Plain:=κ.r5
theorem asz:pE.sW:=κ.akB
section
variable {by_:Nat} {w:World} {A:Option Addr} {c:Nat}
theorem B1 {l:List Int} (h:bz.aH by_ w A c l) (aE:0<l.length):∃ b o,A=some ⟨b,o,none⟩∧∀ (i:Nat) (a:Int),l[i]? =some a→w.cell? ⟨b,o+i,none⟩=some (.int .i64 a):=by
 obtain ⟨b,o,e,hc⟩:=h.at_ aE;refine ⟨b,o,e,fun i a ha=> ?_⟩;obtain ⟨es,⟨rfl,_⟩,ay⟩:=hc i a ha;have:=ay 0 _ rfl;simpa [bz,κ.flat] using this
theorem asy {l:List ByteArray} (h:pE.aH by_ w A c l) (aE:0<l.length):∃ b o,A=some ⟨b,o,none⟩∧∀ (i:Nat) (a:ByteArray),l[i]? =some a→w.cell? ⟨b,o+i,none⟩=some (.string a):=by
 obtain ⟨b,o,e,hc⟩:=h.at_ aE;refine ⟨b,o,e,fun i a ha=> ?_⟩;obtain ⟨es,⟨rfl,_⟩,ay⟩:=hc i a ha;have:=ay 0 _ rfl;simpa [pE,κ.Kc] using this
end
theorem RU (w:World) (cs:List Value) (h:(.int .i64:fr).gY w cs):∃ a,bz.has w cs a:=by
 obtain ⟨n,rfl,hn⟩:=h;exact ⟨n,Z,hn⟩
theorem En {by_:Nat} {w:World} {A:Option Addr} {c:Nat} {l:List Int} (h:bz.aH by_ w A c l):∀ a∈l,fE a:=κ.aH.AT (R:=bz) (Q:=fE) (fun {w cs a} (h:bz.has w cs a)=>(show cs= [.int .i64 a]∧fE a from h).2) h
theorem zi:(prog.info? 3).map (fun i=>(i.zero,i.size,i.bytes))=some (some (.int .i64 0),1,8):=by kernel_rfl
theorem gg {α:Type} {l:List α} {i:Nat} (h:i<l.length):∃ a,l[i]? =some a:=⟨_,List.getElem?_eq_getElem h⟩
open Tryz
open Go.RowKit
theorem avV:∀ (j:Nat) u,(Value.int .i64 0).cells[j]? =some u→bz.raw j u:=by
 intro j u hu;have hu:(#[Value.int .i64 0]:Array Value)[j]? =some u:=hu
 match j,hu with
 | 0,hu=>exact ⟨0,(Option.some.inj hu).symm⟩
 | j+1,hu=>cases hu
end Go.Proofs.YtlikikpgmmkjbaaGreat
set_option linter.unusedVariables false
set_option linter.unusedSimpArgs false
namespace Go.Proofs.YtlikikpgmmkjbaaGreat
open Tryz
open Go.RowKit

abbrev Env:=List (Nat×Value)
def look:List (Nat×Value)→Nat→Option Value
 | [],_=>none
 | (k,v)::r,t=>match Nat.beq k t with | true=>some v | false=>look r t
structure dH (n:Nat) (E:List (Nat×Value)) (a:Act):Prop where
 d:a.defers= []
 s:a.tmps.size=n
 g:∀ t v,look E t=some v→a.tmps[t]? =some v
def ev (E:List (Nat×Value)):Operand→Option Value
 | .tmp t=>look E t
 | .const v=>some v
 | .global g=>some (.pointer (some ⟨g,0,none⟩))
 | .func f=>some (.func (.func f) #[] #[])
def gd (E:List (Nat×Value)):List Operand→Option (List Value)
 | []=>some []
 | x::r=>match ev E x with
  | some v=>match gd E r with
   | some l=>some (v::l)
   | none=>none
  | none=>none
section
variable {P:Program} {n:Nat} {E cE:List (Nat×Value)} {a:Act} {w w' aM:World} {Q:Exit→Act→World→Prop} {ops:Array Oper} {v:Value}
theorem dH.ev {x:Operand} (h:dH n E a) (hx:ev E x=some v):a.eval x=v:=by
 cases x with
 | tmp t=>have:=h.g t v hx;simp [Act.eval,this]
 | const u=>exact Option.some.inj hx
 | global g=>exact Option.some.inj hx
 | func f=>exact Option.some.inj hx
theorem dH.gd (h:dH n E a):∀ {l:List Operand} {vs:List Value},gd E l=some vs→l.map a.eval=vs
 | [],_,e=>by simp only [Proofs.YtlikikpgmmkjbaaGreat.gd] at e;exact Option.some.inj e
 | x::r,vs,e=>by
  simp only [Proofs.YtlikikpgmmkjbaaGreat.gd] at e;cases hx:Proofs.YtlikikpgmmkjbaaGreat.ev E x with
  | none=>rw [hx] at e;cases e
  | some v =>
   rw [hx] at e;simp only at e;cases hr:Proofs.YtlikikpgmmkjbaaGreat.gd E r with
   | none=>rw [hr] at e;cases e
   | some l =>
    rw [hr] at e;simp only at e;obtain rfl:=Option.some.inj e;rw [List.map_cons,h.ev hx,dH.gd h hr]
theorem dH.put {d:Nat} (h:dH n E a) (hd:Nat.blt d n=true) (v:Value):dH n ((d,v)::E) (a.put (some d) v):=by
 rw [Nat.blt_eq] at hd;refine ⟨h.d,by simp [Act.put,h.s],fun t u hu=> ?_⟩;simp only [look] at hu;cases Φ:Nat.beq d t with
 | true =>
  rw [Φ] at hu;obtain rfl:d=t:=Nat.eq_of_beq_eq_true Φ;obtain rfl:=Option.some.inj hu;simp [Act.put,h.s,hd]
 | false =>
  rw [Φ] at hu;have dK:d≠t:=Nat.ne_of_beq_eq_false Φ;simp only [Act.put];rw [Array.getElem?_setIfInBounds_ne dK];exact h.g t u hu
theorem dH.none (h:dH n E a) (v:Value):dH n E (a.put none v):=h
def Sub (cE E:List (Nat×Value)):Prop:=∀ t v,look cE t=some v→look E t=some v
theorem Sub.nil:Sub [] E:=fun t v h=>by simp [look] at h
theorem Sub.cons {k:Nat} (h:look E k=some v) (hs:Sub cE E):Sub ((k,v)::cE) E:=fun t u hu=>by
 simp only [look] at hu;cases Φ:Nat.beq k t with
 | true=>rw [Φ] at hu;obtain rfl:k=t:=Nat.eq_of_beq_eq_true Φ;obtain rfl:=Option.some.inj hu;exact h
 | false=>rw [Φ] at hu;exact hs t u hu
theorem dH.sub (h:dH n E a) (hs:Sub cE E):dH n cE a:=⟨h.d,h.s,fun t v hv=>h.g t v (hs t v hv)⟩
def W (P:Program) (n:Nat) (c:Code) (Q:Exit→Act→World→Prop) (E:List (Nat×Value)) (w:World):Prop:=∀ a,dH n E a→c.wp P Q a w
def N (n:Nat) (Q:Exit→Act→World→Prop) (E:List (Nat×Value)) (w:World):Prop:=∀ a,dH n E a→Q .normal a w
def X (n:Nat) (Q:Exit→Act→World→Prop) (id:Nat) (E:List (Nat×Value)) (w:World):Prop:=∀ a,dH n E a→Q (.exit id) a w
def T (n:Nat) (Q:Exit→Act→World→Prop) (E:List (Nat×Value)) (w:World):Prop:=∀ a,dH n E a→Q .ret a w
def cm (P:Program) (n:Nat) (ops:Array Oper) (Q:Exit→Act→World→Prop) (l:List Oper) (E:List (Nat×Value)) (w:World):Prop:=∀ a,dH n E a→wpList P ops Q l a w
abbrev oY (P:Program) (y:Code) (Q:Exit→Act→World→Prop):Exit→Act→World→Prop:=Exit.then (fun a w=>y.wp P Q a w) Q
theorem aD {x y:Code} (h:W P n x (oY P y Q) E w):W P n (.seq x y) Q E w:=fun a ha=>wp_seq (h a ha)
theorem hk (h:N n Q E w):W P n .skip Q E w:=fun a ha=>wp_skip (h a ha)
theorem rt (h:T n Q E w):W P n .ret Q E w:=fun a ha=>wp_ret (h a ha)
theorem dG {id:Nat} (h:X n Q id E w):W P n (.exit id) Q E w:=fun a ha=>wp_exit (h a ha)
theorem bP {id:Nat} {c:Code} (h:W P n c (Exit.inBlock id Q) E w):W P n (.block id c) Q E w:=fun a ha=>wp_block (h a ha)
theorem rg {id:Nat} {l:List Oper} (h:cm P n l.toArray Q l E w):W P n (.region id l.toArray false) Q E w:=fun a ha=>wp_region_lit (h a ha)
theorem fL {c:Operand} {x y:Code} (hc:ev E c=some (.bool true)) (h:W P n x Q E w):W P n (.cond c x y) Q E w:=fun a ha=>wp_cond_true (ha.ev hc) (h a ha)
theorem gq {c:Operand} {x y:Code} (hc:ev E c=some (.bool false)) (h:W P n y Q E w):W P n (.cond c x y) Q E w:=fun a ha=>wp_cond_false (ha.ev hc) (h a ha)
theorem N6 {c:Operand} {x y:Code} (b:Bool) (hc:ev E c=some (.bool b)) (γ:b=true→W P n x Q E w) (aa:b=false→W P n y Q E w):W P n (.cond c x y) Q E w :=
 fun a ha=>wp_cond_split (ha.ev hc) (fun h=>γ h a ha) (fun h=>aa h a ha)
theorem fk {c:Operand} {x y:Code} {b:Bool} (hc:ev E c=some (.bool b)) (γ:b=true→W P n x Q E w) (aa:b=false→W P n y Q E w):W P n (.cond c x y) Q E w:=N6 b hc γ aa
theorem nl (h:N n Q E w):cm P n ops Q [] E w:=h
theorem a6 {y:Code} (h:W P n y Q E w):N n (oY P y Q) E w:=h
theorem cg {id:Nat} (h:N n Q E w):N n (Exit.inBlock id Q) E w:=h
theorem dF {y:Code} {id:Nat} (h:X n Q id E w):X n (oY P y Q) id E w:=h
theorem eb {K:Act→World→Prop} {id:Nat} (h:X n Q id E w):X n (Exit.then K Q) id E w:=h
theorem dE {id:Nat} (h:N n Q E w):X n (Exit.inBlock id Q) id E w:=fun a ha=>by simp only [Exit.inBlock,if_true];exact h a ha
theorem Ib {id Ld:Nat} (dK:Nat.beq Ld id=false) (h:X n Q Ld E w):X n (Exit.inBlock id Q) Ld E w:=fun a ha=>by simp only [Exit.inBlock,if_neg (Nat.ne_of_beq_eq_false dK)];exact h a ha
theorem cf {y:Code} (h:T n Q E w):T n (oY P y Q) E w:=h
theorem sA {K:Act→World→Prop} (h:T n Q E w):T n (Exit.then K Q) E w:=h
theorem gF {id:Nat} (h:T n Q E w):T n (Exit.inBlock id Q) E w:=h
def yx:Nat→List Value→List (Nat×Value)
 | _, []=> []
 | i,v::r=>(i,v)::yx (i+1) r
theorem NO:∀ (l:List Value) (i t:Nat) (v:Value),look (yx i l) t=some v→∃ j,t=i+j∧l[j]? =some v
 | [],_,_,_,h=>by simp [yx,look] at h
 | u::r,i,t,v,h=>by
  simp only [yx,look] at h;cases Φ:Nat.beq i t with
  | true=>rw [Φ] at h;exact ⟨0,by have:=Nat.eq_of_beq_eq_true Φ;omega,by simpa using h⟩
  | false =>
   rw [Φ] at h;obtain ⟨j,e,ay⟩:=NO r (i+1) t v h;exact ⟨j+1,by omega,by simpa using ay⟩
theorem cv {f:FuncId} {fn:Func} {c:Code} {l:List Value} {R:Ending→World→Prop} (hf:P.funcs[f]? =some fn) (Φ:fn.body=some c) (hn:fn.ntmps=n) (az:Nat.ble l.length n=true)
  (h:W P n c (bodyPost P fn R) (yx 0 l) w):Calls P f l.toArray w R:=by
 refine calls_of_wp hf Φ (h _ ⟨Z, ?_,fun t v hv=> ?_⟩)
 ·have:=Nat.le_of_ble_eq_true az;simp only [Array.size_append,Array.size_replicate,hn,List.size_toArray];omega
 ·obtain ⟨j,e,ay⟩:=NO l 0 t v hv;have bl:=(List.getElem?_eq_some_iff.1 ay).1;rw [Array.getElem?_append_left (by simp;omega)];simpa [show t=j by omega] using ay
inductive s9 (P:Program) (E:List (Nat×Value)) (w:World):List ResultVar→List Value→Prop
 | nil:s9 P E w [] []
 | tmp {t:Nat} {v:Value} {r:List ResultVar} {vs:List Value} (h:look E t=some v) (hr:s9 P E w r vs):s9 P E w (.tmp t::r) (v::vs)
 | cell {t:Nat} {ty:TypeId} {p:Addr} {v:Value} {r:List ResultVar} {vs:List Value} (h:look E t=some (.pointer (some p))) (az:(loadVar ty p).run P w= .ok v w) (hr:s9 P E w r vs):s9 P E w (.cell t ty::r) (v::vs)
def rz:List Value→Value
 | [v]=>v
 | vs=> .tuple vs.toArray
theorem s9.run {l:List ResultVar} {vs:List Value} (h:s9 P E w l vs) (ha:dH n E a) (f:ResultVar→Sem Value) (f1:∀ t,f (.tmp t)=pure (a.tmps.getD t undef)) (f2:∀ c t,f (.cell c t)=(asAddr (a.tmps.getD c undef)>>= fun p=>loadVar t p)):
  (l.mapM f).run P w= .ok vs w:=by
 induction h with
 | nil=>rfl
 | @tmp t v r vs h hr bk =>
  have aa:a.tmps.getD t undef=v:=by rw [Array.getD_eq_getD_getElem?,ha.g _ _ h];rfl
  simp only [List.mapM_cons,Sem.run_bind,f1,aa,Sem.run_pure,Result.andThen_ok,bk]
 | @cell t ty p v r vs h az hr bk =>
  have aa:a.tmps.getD t undef= .pointer (some p):=by rw [Array.getD_eq_getD_getElem?,ha.g _ _ h];rfl
  simp only [List.mapM_cons,Sem.run_bind,f2,aa,asAddr,Sem.run_pure,Result.andThen_ok,az,bk]
theorem R2 {fn:Func} {vs:List Value} (h:s9 P E w fn.results.toList vs) (ha:dH n E a):(results fn a.tmps).run P w= .ok (rz vs) w:=by
 unfold results;rw [Array.mapM_eq_mapM_toList];simp only [Sem.run_bind,Sem.run_map];rw [h.run ha _ (fun _=>rfl) (fun _ _=>rfl)]
 match vs with
 | []=>rfl
 | [v]=>rfl
 | _::_::_=>simp [rz]
theorem bp {fn:Func} {R:Ending→World→Prop} {vs:List Value} (h:s9 P E w fn.results.toList vs) (hR:R (.returned (rz vs)) w):T n (bodyPost P fn R) E w :=
 fun a ha=>⟨ha.d,_,R2 h ha,hR⟩
def I2 (n:Nat) (i_:Nat→List (Nat×Value)→World→Prop) (m:Nat):Act→World→Prop:=fun a w=>∃ m',m'<m∧∃ cE,i_ m' cE w∧dH n cE a
theorem fe {c:Code} (i_:Nat→List (Nat×Value)→World→Prop) (m:Nat) (cE:List (Nat×Value)) (aE:i_ m cE w) (hs:Sub cE E)
  (round:∀ m E w,i_ m E w→W P n c (Exit.then (I2 n i_ m) Q) E w):W P n (.loop c) Q E w:=fun a ha=>by
 intro b k cs;have key:∀ m a w,(∃ E,i_ m E w∧dH n E a)→∃ e a' w',Q e a' w'∧Arrives P (lone (b.at a (.code c:: .inLoop c::k)) cs w) b k cs e a' w':=by
  intro m;induction m using Nat.strongRecOn with
  | _ m bk =>
   intro a w ⟨E,tG,ha⟩;obtain ⟨e,b7,aM,I,nL⟩:=round m E w tG a ha b (.inLoop c::k) cs;cases e with
   | normal =>
    obtain ⟨m',bl,Pr⟩:=I;obtain ⟨bc,a2,cl,Qo,PW⟩:=bk m' bl b7 aM Pr;exact ⟨bc,a2,cl,Qo, .of_steps (Steps.trans nL (.one step_inLoop)) PW⟩
   | exit id=>exact ⟨_,b7,aM,I, .pass (x:= .inLoop c) rfl (fun _ _=> .inl (by simp)) nL⟩
   | goto l=>exact ⟨_,b7,aM,I, .pass (x:= .inLoop c) rfl (fun _ _=> .inl (by simp)) nL⟩
   | ret=>exact ⟨_,b7,aM,I, .pass (x:= .inLoop c) rfl (fun _ _=> .inl (by simp)) nL⟩
   | panic ahD=>exact ⟨_,b7,aM,I, .pass (x:= .inLoop c) rfl (fun _ _=> .inl (by simp)) nL⟩
   | outgrown=>exact ⟨_,b7,aM,I, .pass (x:= .inLoop c) rfl (fun _ _=> .inl (by simp)) nL⟩
 obtain ⟨e,a',w',I,nL⟩:=key m a w ⟨cE,aE,ha.sub hs⟩;exact ⟨e,a',w',I, .of_steps (.one step_loop) nL⟩
theorem du {i_:Nat→List (Nat×Value)→World→Prop} {m:Nat} (m':Nat) (cE:List (Nat×Value)) (h:i_ m' cE w) (hm:m'<m) (hs:Sub cE E):N n (Exit.then (I2 n i_ m) Q) E w :=
 fun a ha=>⟨m',hm,cE,h,ha.sub hs⟩
variable {d:Option Nat} {ty:TypeId} {pos:String} {bn:Array Edge} {g:Option (Nat×Bool)} {x y z:Operand} {t:TypeId} {rest:List Oper}
def c8 (P:Program) (E:List (Nat×Value)) (o:Oper) (w:World) (v:Value) (w':World):Prop:=∀ n a,dH n E a→(execOp a.eval o).run P w= .ok (.value v) w'
def af8 (P:Program) (E:List (Nat×Value)) (o:Oper) (w w':World):Prop:=∀ n a,dH n E a→(execOp a.eval o).run P w= .ok .skip w'
theorem CW {o:Oper} (aO:o.guard=none) {a:Act} (h:o.wp P a w (wpList P ops Q rest) Q):wpList P ops Q (o::rest) a w:=by
 unfold wpList;rw [if_pos (by simp [Region.wanted,aO])];exact .inl h
theorem gR {d:Nat} {op:Op} (hr:c8 P E ⟨some d,op,ty,pos,bn,none⟩ w v w') (hd:Nat.blt d n=true) (h:cm P n ops Q rest ((d,v)::E) w'):cm P n ops Q (⟨some d,op,ty,pos,bn,none⟩::rest) E w:=fun a ha=>by
 refine CW Z ?_;unfold Oper.wp;rw [hr n a ha];exact h _ (ha.put hd v)
theorem us {op:Op} (hr:af8 P E ⟨none,op,ty,pos,bn,none⟩ w w') (h:cm P n ops Q rest E w'):cm P n ops Q (⟨none,op,ty,pos,bn,none⟩::rest) E w:=fun a ha=>by
 refine CW Z ?_;unfold Oper.wp;rw [hr n a ha];exact h _ ha
def Enters (P:Program) (f:FuncId):Prop:=∃ fn,P.funcs[f]? =some fn∧(fn.name == "runtime.NumGoroutine")=false∧fn.body.isNone=false
theorem HP {f:FuncId} (hf:Enters P f) {xs:Array Operand} {ts:Array TypeId} {args:List Value} {a:Act} (ha:dH n E a) (he:gd E xs.toList=some args):
  (execOp a.eval ⟨d, .call {callee:= .value (.func f),args:=xs,argTypes:=ts},ty,pos,bn,g⟩).run P w= .ok (.enter f args.toArray) w:=by
 obtain ⟨fn,γ,aa,au⟩:=hf;have hm:xs.map a.eval=args.toArray:=by rw [← ha.gd he];apply Array.ext';simp
 exact acD f fn γ aa au xs ts Z _ hm
theorem ca {d:Nat} {f:FuncId} (hf:Enters P f) {xs:Array Operand} {ts:Array TypeId} {args:List Value} (he:gd E xs.toList=some args) (hd:Nat.blt d n=true)
  (h:Calls P f args.toArray w fun e w'=>∃ v,e= .returned v∧cm P n ops Q rest ((d,v)::E) w'):cm P n ops Q (⟨some d, .call {callee:= .value (.func f),args:=xs,argTypes:=ts},ty,pos,bn,none⟩::rest) E w:=fun a ha=>by
 refine CW Z ?_;unfold Oper.wp;rw [HP hf ha he];refine Calls.mono h fun e w' ey=> ?_;obtain ⟨v,rfl,h⟩:=ey;exact h _ (ha.put hd v)
theorem aJ (hx:ev E x=some v):c8 P E ⟨d, .move x,ty,pos,bn,g⟩ w v w:=fun n a ha=>by simp only [execOp,ha.ev hx];rfl
theorem eV (hx:ev E x=some v):c8 P E ⟨d, .assign x,ty,pos,bn,g⟩ w v w:=fun n a ha=>by simp only [execOp,ha.ev hx];rfl
theorem ex {l:List Value} {k:Nat} (hx:ev E x=some (.tuple l.toArray)) (av:l[k]? =some v):c8 P E ⟨d, .extract x k,ty,pos,bn,g⟩ w v w:=fun n a ha=>by
 simp only [execOp,ha.ev hx,Instr.extract,List.getElem?_toArray,av];rfl
theorem cn {p:Addr} (hx:ev E x=some (.pointer (some p))):c8 P E ⟨d, .nilCheck x,ty,pos,bn,g⟩ w (.pointer (some p)) w:=fun n a ha=>by simp only [execOp,ha.ev hx];rfl
theorem eo {b:Bool} (hx:ev E x=some (.bool b)):c8 P E ⟨d, .unOp .not t x,ty,pos,bn,g⟩ w (.bool !b) w:=fun n a ha=>by
 simp only [execOp,ha.ev hx];cases b<;>rfl
theorem n2 {v:Value} (hx:ev E x=some (.bool true)) (aG:ev E y=some v):c8 P E ⟨d, .pick x y z,ty,pos,bn,g⟩ w v w:=fun n a ha=>by
 simp only [execOp,ha.ev hx,ha.ev aG];rfl
theorem qj {v:Value} (hx:ev E x=some (.bool false)) (bw:ev E z=some v):c8 P E ⟨d, .pick x y z,ty,pos,bn,g⟩ w v w:=fun n a ha=>by
 simp only [execOp,ha.ev hx,ha.ev bw];rfl
def ie (c:Bool) (v:Value):Value:=if c=true then v else undef
theorem gt {c:Bool} (hc:c=true) (h:ev E x=some (ie c v)):ev E x=some v:=by rw [h,hc];rfl
theorem gy {b c q:Bool} (hx:ev E x=some (.bool b)) (aG:ev E y=some (.bool true)) (I:(b == false)=q) (bw:ev E z=some (ie q (.bool c))):c8 P E ⟨d, .pick x y z,ty,pos,bn,g⟩ w (.bool (b || c)) w:=fun n a ha=>by
 subst I;simp only [execOp,ha.ev hx,ha.ev aG,ha.ev bw];cases b<;>rfl
theorem eA {b c q:Bool} (hx:ev E x=some (.bool b)) (bw:ev E z=some (.bool false)) (I:(b == true)=q) (aG:ev E y=some (ie q (.bool c))):c8 P E ⟨d, .pick x y z,ty,pos,bn,g⟩ w (.bool (b && c)) w:=fun n a ha=>by
 subst I;simp only [execOp,ha.ev hx,ha.ev aG,ha.ev bw];cases b<;>rfl
section
variable {k k':IntKind} {i j:Int} {u:TypeId}
theorem sy {op:BinOp} {s:Sem Value} (hx:ev E x=some (.int k i)) (aG:ev E y=some (.int k' j)) (h:binOp op t (.int k i) (.int k' j)=s) (hr:s.run P w= .ok v w):c8 P E ⟨d, .binOp op t x y u,ty,pos,bn,g⟩ w v w:=fun n a ha=>by
 simp only [execOp,ha.ev hx,ha.ev aG,eqGuard_at_int,h,Sem.run_bind,Sem.run_pure,Result.andThen_ok,hr]
theorem bad (hx:ev E x=some (.int k i)) (aG:ev E y=some (.int k j)) (h:k.wrap (i+j)=i+j):c8 P E ⟨d, .binOp .add t x y u,ty,pos,bn,g⟩ w (.int k (i+j)) w:=sy hx aG (binOp_add t k i j) (by simp [Op.intArith,h])
theorem kB (hx:ev E x=some (.int k i)) (aG:ev E y=some (.int k j)) (h:k.wrap (i - j)=i - j):c8 P E ⟨d, .binOp .sub t x y u,ty,pos,bn,g⟩ w (.int k (i - j)) w:=sy hx aG (binOp_sub t k i j) (by simp [Op.intArith,h])
theorem yB (hx:ev E x=some (.int k i)) (aG:ev E y=some (.int k j)) (h:k.wrap (i * j)=i * j):c8 P E ⟨d, .binOp .mul t x y u,ty,pos,bn,g⟩ w (.int k (i * j)) w:=sy hx aG (binOp_mul t k i j) (by simp [Op.intArith,h])
theorem C4 (hx:ev E x=some (.int k i)) (aG:ev E y=some (.int k j)):c8 P E ⟨d, .binOp .add t x y u,ty,pos,bn,g⟩ w (.int k (k.wrap (i+j))) w:=sy hx aG (binOp_add t k i j) (by simp [Op.intArith])
theorem blt (hx:ev E x=some (.int k i)) (aG:ev E y=some (.int k j)):c8 P E ⟨d, .binOp .lss t x y u,ty,pos,bn,g⟩ w (.bool (decide (i<j))) w:=sy hx aG (binOp_lss t k i j) rfl
theorem ble (hx:ev E x=some (.int k i)) (aG:ev E y=some (.int k j)):c8 P E ⟨d, .binOp .leq t x y u,ty,pos,bn,g⟩ w (.bool (decide (i≤j))) w:=sy hx aG (binOp_leq t k i j) rfl
theorem jC (hx:ev E x=some (.int k i)) (aG:ev E y=some (.int k j)):c8 P E ⟨d, .binOp .gtr t x y u,ty,pos,bn,g⟩ w (.bool (decide (j<i))) w:=sy hx aG (binOp_gtr t k i j) rfl
theorem l1 (hx:ev E x=some (.int k i)) (aG:ev E y=some (.int k j)):c8 P E ⟨d, .binOp .geq t x y u,ty,pos,bn,g⟩ w (.bool (decide (j≤i))) w:=sy hx aG (binOp_geq t k i j) rfl
theorem beq (hx:ev E x=some (.int k i)) (aG:ev E y=some (.int k j)):c8 P E ⟨d, .binOp .eql t x y u,ty,pos,bn,g⟩ w (.bool (i == j)) w:=sy hx aG (binOp_eql t k i j) rfl
theorem bne (hx:ev E x=some (.int k i)) (aG:ev E y=some (.int k j)):c8 P E ⟨d, .binOp .neq t x y u,ty,pos,bn,g⟩ w (.bool (i != j)) w:=sy hx aG (binOp_neq t k i j) rfl
end
def ej (P:Program) (t:TypeId) (k:Nat):Prop:=∀ w,(sizeOf t).run P w= .ok k w
def eL (P:Program) (t:TypeId) (b:Bool):Prop:=∀ w,(isAgg t).run P w= .ok b w
def mI (P:Program) (t:TypeId) (v:Value):Prop:=∀ w,(zeroValue t).run P w= .ok v w
def Fd (P:Program) (t:TypeId) (i off:Nat):Prop:=∀ w g o,(Instr.fieldAt t (.pointer (some ⟨g,o,none⟩)) i).run P w= .ok (.pointer (some ⟨g,o+off,none⟩)) w
section
variable {b o k:Nat} {cs:List Value}
theorem aw {i off:Nat} (hf:Fd P t i off) (hx:ev E x=some (.pointer (some ⟨b,o,none⟩))):c8 P E ⟨d, .fieldAddr t x i,ty,pos,bn,g⟩ w (.pointer (some ⟨b,o+off,none⟩)) w:=fun n a ha=>by
 simp only [execOp,ha.ev hx,Sem.run_bind,hf w b o,Result.andThen_ok,Sem.run_pure]
theorem G5 {e:TypeId} {size len cap:Nat} {QJ:IntKind} {i:Int} (j:Nat) (aA:P.underlying t=some (.slice e)) (hs:ej P e size) (hx:ev E x=some (.slice (some ⟨b,o,none⟩) len cap)) (ao:ev E y=some (.int QJ i)) (ay:i=(j:Int)) (bl:j<len):
  c8 P E ⟨d, .indexAddr t x y,ty,pos,bn,g⟩ w (.pointer (some ⟨b,o+j * size,none⟩)) w:=fun n a ha=>by
 subst ay;simp only [execOp,ha.ev hx,ha.ev ao,Instr.indexAt,asIntOf,Sem.run_bind,Sem.run_pure,Result.andThen_ok,run_underlying aA];rw [if_pos ⟨by omega,by omega⟩];simp only [Sem.run_bind,hs w,Result.andThen_ok,Sem.run_pure,Int.toNat_natCast,CY]
def hV (P:Program) (w:World) (t:TypeId) (p:Addr) (v:Value):Prop:=(loadVar t p).run P w= .ok v w
theorem hV.one {p:Addr} (aA:eL P t false) (h:w.cell? p=some v):hV P w t p v:=by
 unfold hV loadVar;simp only [Sem.run_bind,aA w,Result.andThen_ok,Bool.false_eq_true,if_false,run_load,h]
theorem hV.agg (aA:eL P t true) (hs:ej P t cs.length) (h:∀ j v,cs[j]? =some v→w.cell? ⟨b,o+j,none⟩=some v):hV P w t ⟨b,o,none⟩ (.agg cs.toArray):=by
 unfold hV loadVar;simp only [Sem.run_bind,aA w,Result.andThen_ok,if_true,hs w,run_loadCells_list w ⟨b,o,none⟩ cs (fun j v ay=>by rw [CY];exact h j v ay),Sem.run_pure]
theorem ak {p:Addr} (hx:ev E x=some (.pointer (some p))) (h:hV P w t p v):c8 P E ⟨d, .load t x,ty,pos,bn,g⟩ w v w:=fun n a ha=>by
 unfold hV at h;simp only [execOp,ha.ev hx,Instr.loadAt,Instr.sureAddr,Sem.run_bind,Sem.run_pure,Result.andThen_ok,h]
theorem aK.one {p:Nat} {cur:List Value} {e:TypeId} {ax:Nat×Nat} (h:aK w b cur e ax) (aA:eL P t false) (hv:cur[p]? =some v):hV P w t ⟨b,p,none⟩ v:=hV.one aA (by rw [h.cell,hv])
theorem aK.agg {p:Nat} {cur:List Value} {e:TypeId} {ax:Nat×Nat} (h:aK w b cur e ax) (aA:eL P t true) (hs:ej P t cs.length) (hv:(cur.drop p).take cs.length=cs):hV P w t ⟨b,p,none⟩ (.agg cs.toArray):=
 hV.agg aA hs fun j v ay=>by
  rw [h.cell,← ay];have az:=(List.getElem?_eq_some_iff.1 ay).1
  conv=>rhs;rw [← hv]
  rw [List.getElem?_take_of_lt az,List.getElem?_drop]
theorem cI {op:Op} {d:Nat} {cs:List Value} (si:op= .box t x) (hx:ev E x=some v) (hc:v.cells=cs.toArray) (hd:Nat.blt d n=true)
  (h:∀ aM b,Ext w aM→w.heap.size≤b→aK aM b cs t (0,0)→cm P n ops Q rest ((d, .pointer (some ⟨b,0,none⟩))::E) aM):cm P n ops Q (⟨some d,op,ty,pos,bn,none⟩::rest) E w:=by
 subst si;refine gR (w':=w.alloc (.cells v.cells t)) (v:= .pointer (some ⟨w.heap.size,0,none⟩)) (fun n a ha=> ?_) hd (h _ _ ((Below.refl _ w).alloc (Nat.le_refl _) _) (Nat.le_refl _) (by rw [hc];exact aK.new w cs t (0,0)));simp only [execOp,ha.ev hx,Instr.box,newVar,newRow,Sem.run_bind,run_newObj_alloc,Result.andThen_ok,Sem.run_pure]
theorem al {op:Op} {d:Nat} {cs:List Value} (si:op= .alloc t) (bw:mI P t v) (hc:v.cells=cs.toArray) (hd:Nat.blt d n=true)
  (h:∀ aM b,Ext w aM→w.heap.size≤b→aK aM b cs t (0,0)→cm P n ops Q rest ((d, .pointer (some ⟨b,0,none⟩))::E) aM):cm P n ops Q (⟨some d,op,ty,pos,bn,none⟩::rest) E w:=by
 subst si;refine gR (w':=w.alloc (.cells v.cells t)) (v:= .pointer (some ⟨w.heap.size,0,none⟩)) (fun n a ha=> ?_) hd (h _ _ ((Below.refl _ w).alloc (Nat.le_refl _) _) (Nat.le_refl _) (by rw [hc];exact aK.new w cs t (0,0)));simp only [execOp,Instr.alloc,Sem.run_bind,bw w,newVar,newRow,run_newObj_alloc,Result.andThen_ok,Sem.run_pure]
end
end
section
variable {P:Program} {n:Nat} {E cE:List (Nat×Value)} {a:Act} {w w' w0 aM:World} {Q:Exit→Act→World→Prop} {ops:Array Oper} {v:Value} {aR:Nat→Nat}
variable {d:Option Nat} {ty:TypeId} {pos:String} {bn:Array Edge} {g:Option (Nat×Bool)} {x y z:Operand} {t:TypeId} {rest:List Oper} {bN:List Nat} {i:Nat}
def iz (P:Program) (n:Nat) (ops:Array Oper) (Q:Exit→Act→World→Prop) (aR:Nat→Nat) (bN:List Nat) (E:List (Nat×Value)) (w0:World):Prop:=∀ a,dH n E a→rC P ops (fX (Q .normal)) aR bN a w0
def mV (l:List (Nat×Nat)) (i:Nat):Nat:=match l with
 | []=>1
 | (j,k)::r=>match Nat.beq j i with | true=>k | false=>mV r i
theorem rd {id:Nat} (kY:List (Nat×Nat)) (bN:List Nat) (hm:P.follows .mixedOrders=true) (aX:(Region.noSelect ops && (bN.length == ops.size) && iP ops (mV kY) bN (Array.replicate ops.size false))=true)
  (h:iz P n ops Q (mV kY) bN E w):W P n (.region id ops true) Q E w:=fun a ha=>asv bN hm aX (h a ha)
theorem fn (h:∀ w,Ext w0 w→N n Q E w):iz P n ops Q aR [] E w0:=fun a ha w hw=>h w hw a ha
theorem xZ {o:Oper} (aO:o.guard=none):Region.wanted o (yielded ops a.tmps)=true:=by simp [Region.wanted,aO]
theorem XM {d:Nat} {op:Op} (ao:ops[i]? =some ⟨some d,op,ty,pos,bn,none⟩) (av:aR i=0) (hr:∀ w,Ext w0 w→c8 P E ⟨some d,op,ty,pos,bn,none⟩ w v w) (hd:Nat.blt d n=true)
  (h:iz P n ops Q aR bN ((d,v)::E) w0):iz P n ops Q aR (i::bN) E w0:=fun a ha =>
 ⟨_,ao, .inl ⟨av,v, .inl ⟨xZ rfl,fun w hw=>by rw [hr w hw n a ha];exact ⟨rfl,rfl⟩⟩,h _ (ha.put hd v)⟩⟩
theorem r7 {d:Nat} {op:Op} (ao:ops[i]? =some ⟨some d,op,ty,pos,bn,none⟩) (av:aR i=1) (hr:∀ w,c8 P E ⟨some d,op,ty,pos,bn,none⟩ w v w) (hd:Nat.blt d n=true)
  (h:iz P n ops Q aR bN ((d,v)::E) w0):iz P n ops Q aR (i::bN) E w0:=fun a ha =>
 ⟨_,ao, .inr (.inl ⟨av,v, .inl ⟨xZ rfl,fun w=>hr w n a ha⟩,h _ (ha.put hd v)⟩)⟩
theorem o8 {d:Nat} {f:FuncId} {xs:Array Operand} {ts:Array TypeId} {args:List Value} (ao:ops[i]? =some ⟨some d, .call {callee:= .value (.func f),args:=xs,argTypes:=ts},ty,pos,bn,none⟩) (av:aR i=0) (hf:Enters P f) (he:gd E xs.toList=some args)
  (hr:∀ w,Ext w0 w→Calls P f args.toArray w fun e w'=>e= .returned v∧Ext w w') (hd:Nat.blt d n=true)
  (h:iz P n ops Q aR bN ((d,v)::E) w0):iz P n ops Q aR (i::bN) E w0:=fun a ha =>
 ⟨_,ao, .inl ⟨av,v, .inl ⟨xZ rfl,fun w hw=>by rw [HP hf ha he];exact ⟨rfl,hr w hw⟩⟩,h _ (ha.put hd v)⟩⟩
theorem Ce {o:Oper} {j:Nat} {q b:Bool} {cQ:Oper} {jc:Nat} (aO:o.guard=some (j,q)) (ay:ops[j]? =some cQ) (nN:cQ.dst=some jc) (Φ:look E jc=some (.bool b)) (ha:dH n E a):Region.wanted o (yielded ops a.tmps)=(b == q):=by
 have:=ha.g _ _ Φ;cases b<;>cases q<;>simp [Region.wanted,aO,yielded,ay,nN,this]
theorem cc {d:Nat} {op:Op} {j:Nat} {q b c:Bool} {cQ:Oper} {jc:Nat} (ao:ops[i]? =some ⟨some d,op,ty,pos,bn,some (j,q)⟩) (av:aR i=0) (ay:ops[j]? =some cQ) (nN:cQ.dst=some jc) (Φ:look E jc=some (.bool b)) (hc:(b == q)=c)
  (hr:c=true→∀ w,Ext w0 w→c8 P E ⟨some d,op,ty,pos,bn,some (j,q)⟩ w v w) (hd:Nat.blt d n=true)
  (h:iz P n ops Q aR bN ((d,ie c v)::E) w0):iz P n ops Q aR (i::bN) E w0:=fun a ha=>by
 have hw:=Ce (o:=⟨some d,op,ty,pos,bn,some (j,q)⟩) rfl ay nN Φ ha;rw [hc] at hw;refine ⟨_,ao, .inl ⟨av,ie c v, ?_,h _ (ha.put hd _)⟩⟩;cases c with
 | true=>exact .inl ⟨hw,fun w hx=>by rw [hr rfl w hx n a ha];exact ⟨rfl,rfl⟩⟩
 | false=>exact .inr ⟨hw,rfl⟩
theorem aQ {d:Nat} {op:Op} {j:Nat} {q b c:Bool} {cQ:Oper} {jc:Nat} (ao:ops[i]? =some ⟨some d,op,ty,pos,bn,some (j,q)⟩) (av:aR i=1) (ay:ops[j]? =some cQ) (nN:cQ.dst=some jc) (Φ:look E jc=some (.bool b)) (hc:(b == q)=c)
  (hr:c=true→∀ w,c8 P E ⟨some d,op,ty,pos,bn,some (j,q)⟩ w v w) (hd:Nat.blt d n=true)
  (h:iz P n ops Q aR bN ((d,ie c v)::E) w0):iz P n ops Q aR (i::bN) E w0:=fun a ha=>by
 have hw:=Ce (o:=⟨some d,op,ty,pos,bn,some (j,q)⟩) rfl ay nN Φ ha;rw [hc] at hw;refine ⟨_,ao, .inr (.inl ⟨av,ie c v, ?_,h _ (ha.put hd _)⟩)⟩;cases c with
 | true=>exact .inl ⟨hw,fun w=>hr rfl w n a ha⟩
 | false=>exact .inr ⟨hw,rfl⟩
theorem h3 {d:Nat} {f:FuncId} {xs:Array Operand} {ts:Array TypeId} {args:List Value} {j:Nat} {q b c:Bool} {cQ:Oper} {jc:Nat} (ao:ops[i]? =some ⟨some d, .call {callee:= .value (.func f),args:=xs,argTypes:=ts},ty,pos,bn,some (j,q)⟩) (av:aR i=0) (ay:ops[j]? =some cQ) (nN:cQ.dst=some jc) (Φ:look E jc=some (.bool b)) (hc:(b == q)=c)
  (hf:Enters P f) (he:c=true→gd E xs.toList=some args)
  (hr:c=true→∀ w,Ext w0 w→Calls P f args.toArray w fun e w'=>e= .returned v∧Ext w w') (hd:Nat.blt d n=true)
  (h:iz P n ops Q aR bN ((d,ie c v)::E) w0):iz P n ops Q aR (i::bN) E w0:=fun a ha=>by
 have hw:=Ce (o:=⟨some d, .call {callee:= .value (.func f),args:=xs,argTypes:=ts},ty,pos,bn,some (j,q)⟩) rfl ay nN Φ ha;rw [hc] at hw;refine ⟨_,ao, .inl ⟨av,ie c v, ?_,h _ (ha.put hd _)⟩⟩;cases c with
 | true=>exact .inl ⟨hw,fun w hx=>by rw [HP hf ha (he rfl)];exact ⟨rfl,hr rfl w hx⟩⟩
 | false=>exact .inr ⟨hw,rfl⟩
def AS (P:Program) (n:Nat) (ops:Array Oper) (o:Oper) (E:List (Nat×Value)) (w:World) (K:List (Nat×Value)→World→Prop):Prop :=
 ∀ (Q:Exit→Act→World→Prop),(∀ cE w',K cE w'→cm P n ops Q [] cE w')→cm P n ops Q [o] E w
theorem avz {Ny af5:Exit→Act→World→Prop} {o:Oper} {K:Act→World→Prop} (hp:∀ c a w,¬ Ny (.panic c) a w) (bJ:¬ LetsOut Ny) (h:o.wp P a w K Ny):o.wp P a w K af5:=by
 unfold Oper.wp at *
 generalize (execOp a.eval o).run P w=r at *
 cases r with
 | ok m w' =>
  cases m<;>simp only [Oper.upon] at h ⊢ <;>
   first
    | exact h
    | exact Calls.mono h (fun e lK he=>by cases e<;>first | exact he | exact (hp _ _ _ he).elim | exact (bJ he).elim)
 | halt x w'=>cases x<;>simp only [Oper.upon] at h ⊢<;>first | exact h | exact (hp _ _ _ h).elim
theorem Er {o:Oper} (aO:o.guard=none) (ao:ops[i]? =some o) {K:Act→World→Prop} {E:List (Nat×Value)} {w:World} {UC:List (Nat×Value)→World→Prop} (h:AS P n ops o E w UC) (hK:∀ cE w' a',UC cE w'→dH n cE a'→K a' w') (ha:dH n E a):
  wpOp P ops (fX (Q .normal)) i K a w:=by
 have:=h (fX K) (fun cE w' av a' o_=>hK cE w' a' av o_) a ha;unfold wpList at this;unfold wpOp;simp only [ao];rw [if_pos (xZ aO)] at this ⊢;rcases this with h | ⟨h,a,w,aa⟩
 ·exact .inl (avz (fun _ _ _ h=>h) (fun ⟨_,_,h⟩=>h) h)
 ·exact aa.elim
theorem gu {o:Oper} (aO:o.guard=none) (ao:ops[i]? =some o) (av:aR i=2) (h:∀ w,Ext w0 w→AS P n ops o E w fun cE w'=>Ext w0 w'∧iz P n ops Q aR bN cE w'):iz P n ops Q aR (i::bN) E w0:=fun a ha =>
 ⟨_,ao, .inr (.inr ⟨by omega,fun w hw=>Er aO ao (h w hw) (fun cE w' a' av o_=>⟨fun _=>av.1,av.2 a' o_⟩) ha⟩)⟩
theorem fc {o:Oper} (aO:o.guard=none) (ao:ops[i]? =some o) (av:aR i=3) (h:∀ w,Ext w0 w→AS P n ops o E w fun cE w'=>iz P n ops Q aR bN cE w'):iz P n ops Q aR (i::bN) E w0:=fun a ha =>
 ⟨_,ao, .inr (.inr ⟨by omega,fun w hw=>Er aO ao (h w hw) (fun cE w' a' av o_=>⟨fun aa=>by omega,av a' o_⟩) ha⟩)⟩
end
structure Mod (S:List Nat) (w w':World):Prop where
 os:w'.os=w.os
 tape:w'.tape=w.tape
 output:w'.output=w.output
 size:w.heap.size≤w'.heap.size
 block:∀ k,k<w.heap.size→k∉S→w'.heap[k]? =w.heap[k]?
section
variable {S I':List Nat} {w w' w0 aM cl:World} {B:Nat}
theorem Mod.bG (h:Ext w w'):Mod S w w':=⟨h.os,h.tape,h.output,h.size,fun k av _=>h.block k av⟩
theorem Mod.below {aB:Nat} (h:Mod S w w') (hS:∀ x∈S,aB≤x) (tJ:aB≤w.heap.size):Below aB w w' :=
 ⟨h.os,h.tape,h.output,h.size,fun k av=>h.block k (by omega) fun hm=>by have:=hS k hm;omega⟩
theorem Ext.mod (h:Ext w0 w) (hm:Mod S w w') (hS:∀ x∈S,w0.heap.size≤x):Ext w0 w':=Below.trans h (hm.below hS h.size)
theorem Mod.bM (S:List Nat) (w:World):Mod S w w:=⟨rfl,rfl,rfl,Nat.le_refl _,fun _ _ _=>rfl⟩
theorem Mod.md (h:Mod S w aM) (cU:Mod I' aM cl) (hs:∀ q∈I',q∈S∨w.heap.size≤q):Mod S w cl :=
 ⟨cU.os.trans h.os,cU.tape.trans h.tape,cU.output.trans h.output,Nat.le_trans h.size cU.size,fun k av hn=>(cU.block k (Nat.lt_of_lt_of_le av h.size) fun hm=>(hs k hm).elim hn (fun h=>by omega)).trans (h.block k av hn)⟩
theorem Mod.sub (h:Mod S w w') (hs:∀ x∈S,x∈I'):Mod I' w w':=⟨h.os,h.tape,h.output,h.size,fun k av hn=>h.block k av fun hm=>hn (hs k hm)⟩
theorem Mod.trans (h:Mod S w aM) (cU:Mod S aM cl):Mod S w cl :=
 ⟨cU.os.trans h.os,cU.tape.trans h.tape,cU.output.trans h.output,Nat.le_trans h.size cU.size,fun k av hn=>(cU.block k (Nat.lt_of_lt_of_le av h.size) hn).trans (h.block k av hn)⟩
theorem Mod.grown {row:Option Nat} (h:w.grownBy w' row):Mod row.toList w w' :=
 ⟨h.os,h.tape,h.output,h.size,fun k av hn=>h.block k av fun e=>hn (by rw [← e];simp)⟩
theorem Mod.setRow (w:World) (b:Nat) (cs:Array Value):Mod [b] w (w.setRow b cs):=by
 refine ⟨Z,Z,Z,by simp [World.setRow],fun k av hn=> ?_⟩;simp only [World.setRow,Array.getElem?_modify];rw [if_neg (by simp at hn;omega)]
theorem Mod.setCell (w:World) (p:Addr) (u:Value):Mod [p.block] w (w.setCell p u):=by
 refine ⟨Z,Z,Z,by simp [World.setCell],fun k av hn=> ?_⟩;exact Below.heap_setCell _ _ _ _ (by simpa using hn)
theorem aK.mod {g:Nat} {cur:List Value} {e:TypeId} {ax:Nat×Nat} (h:aK w g cur e ax) (hm:Mod S w w') (aO:g∉S):aK w' g cur e ax:=by
 unfold aK at *
 rw [hm.block g (Array.getElem?_eq_some_iff.1 h).1 aO];exact h
theorem κ.aF.mod {α:Type} {R:κ α} {E by_:Nat} {f:List Nat} {A:Option Addr} {c:Nat} {l:List α} (h:R.aF E by_ w B f A c l) (hm:Mod S w w') (hd:∀ x∈f,x∉S):R.aF E by_ w' B f A c l :=
 h.keep fun g aO=>hm.block g (h.lt g aO).2 (hd g aO)
end
section
variable {P:Program} {n:Nat} {E cE:List (Nat×Value)} {a:Act} {w w' w0 aM:World} {Q:Exit→Act→World→Prop} {ops:Array Oper} {v:Value}
variable {d:Option Nat} {ty:TypeId} {pos:String} {bn:Array Edge} {g:Option (Nat×Bool)} {x y z:Operand} {t:TypeId} {rest:List Oper}
theorem R4 {b p:Nat} {cur cs:List Value} {e:TypeId} (aX:aK w b cur e (0,0)) (hc:v.cells=cs.toArray) (hs:ej P t cs.length) (γ:cs.all (·.oneCell')=true) (az:p+cs.length≤cur.length):
  (storeVar t ⟨b,p,none⟩ v).run P w= .ok () (w.setRow b (cur.take p++cs++cur.drop (p+cs.length)).toArray):=by
 unfold storeVar;simp only [hc,Sem.run_bind,hs w,Result.andThen_ok,List.size_toArray,ne_eq,not_true_eq_false,if_false];have:=run_storeCells_at P b p e cs 0 cur.toArray w aX (by simpa using az) (fun v hv=>List.all_eq_true.1 γ v hv);simpa using this
theorem st {b p:Nat} {cur cs new:List Value} {e:TypeId} (hx:ev E x=some (.pointer (some ⟨b,p,none⟩))) (aG:ev E y=some v) (aX:aK w b cur e (0,0)) (hc:v.cells=cs.toArray) (hs:ej P t cs.length) (γ:cs.all (·.oneCell')=true) (az:Nat.ble (p+cs.length) cur.length=true)
  (hn:cur.take p++cs++cur.drop (p+cs.length)=new)
  (h:∀ aM,Mod [b] w aM→aK aM b new e (0,0)→cm P n ops Q rest E aM):cm P n ops Q (⟨none, .store t x y,ty,pos,bn,none⟩::rest) E w:=by
 refine us (w':=w.setRow b new.toArray) (fun n a ha=> ?_) (h _ (Mod.setRow w b _) (by rw [← hn];exact aX.setRow _));have:=R4 (P:=P) aX hc hs γ (Nat.le_of_ble_eq_true az);rw [hn] at this;simp only [execOp,ha.ev hx,ha.ev aG,Instr.storeAt,Instr.sureAddr,Sem.run_bind,Sem.run_pure,Result.andThen_ok,this]
theorem bi {VK:Builtin} {xs:Array Operand} {ts:Array TypeId} {vs:List Value} (he:gd E xs.toList=some vs) (h:∀ cs,(builtin VK ts ty cs vs.toArray).run P w= .ok (.value v) w'):
  c8 P E ⟨d, .call {callee:= .builtin VK,args:=xs,argTypes:=ts},ty,pos,bn,g⟩ w v w':=fun n a ha=>by
 have hm:xs.map a.eval=vs.toArray:=by rw [← ha.gd he];apply Array.ext';simp
 simp only [execOp,resolve,invoke,hm,Sem.run_bind,Sem.run_pure,Result.andThen_ok,h]
theorem cW {A:Option Addr} {len cap e:Nat} (aA:P.underlying t=some (.slice e)) (hx:ev E x=some (.slice A len cap)):c8 P E ⟨d, .call {callee:= .builtin .len,args:=#[x],argTypes:=#[t]},ty,pos,bn,g⟩ w (.int .i64 (len:Int)) w :=
 bi (vs:= [.slice A len cap]) (by simp only [gd,hx]) fun cs=>by
  have γ:P.underlying t=some (.slice (P.elem t)):=by simp [Program.elem,aA]
  have:=run_len_slice (P:=P) w t ty A len cap γ;simp only [builtin,Sem.run_bind,this,Result.andThen_ok,Sem.run_pure];rfl
theorem cd {f:FuncId} {fn:Func} (h:P.funcs[f]? =some fn) (γ:(fn.name == "runtime.NumGoroutine")=false) (aa:fn.body.isNone=false):Enters P f:=⟨fn,h,γ,aa⟩
theorem SW {o:Oper} {c:Bool} (hw:∀ a,dH n E a→Region.wanted o (yielded ops a.tmps)=c) (γ:c=true→∀ a,dH n E a→o.wp P a w (wpList P ops Q rest) Q) (aa:c=false→∀ a,dH n E a→wpList P ops Q rest (a.put o.dst undef) w):cm P n ops Q (o::rest) E w:=fun a ha=>by
 unfold wpList;rw [hw a ha];cases c with
 | true=>rw [if_pos rfl];exact .inl (γ Z a ha)
 | false=>rw [if_neg (by decide)];exact aa Z a ha
theorem bB {d:Nat} {op:Op} {j:Nat} {q b c:Bool} {cQ:Oper} {jc:Nat} (ay:ops[j]? =some cQ) (nN:cQ.dst=some jc) (Φ:look E jc=some (.bool b)) (hc:(b == q)=c)
  (hr:c=true→c8 P E ⟨some d,op,ty,pos,bn,some (j,q)⟩ w v w) (hd:Nat.blt d n=true) (h:cm P n ops Q rest ((d,ie c v)::E) w):cm P n ops Q (⟨some d,op,ty,pos,bn,some (j,q)⟩::rest) E w :=
 SW (c:=c) (fun a ha=>by rw [Ce (o:=⟨some d,op,ty,pos,bn,some (j,q)⟩) rfl ay nN Φ ha,hc])
  (fun hc a ha=>by unfold Oper.wp;rw [hr hc n a ha];subst hc;exact h _ (ha.put hd v)) (fun hc a ha=>by subst hc;exact h _ (ha.put hd undef))
theorem uH {d:Nat} {f:FuncId} {xs:Array Operand} {ts:Array TypeId} {args:List Value} {j:Nat} {q b c:Bool} {cQ:Oper} {jc:Nat} (ay:ops[j]? =some cQ) (nN:cQ.dst=some jc) (Φ:look E jc=some (.bool b)) (hc:(b == q)=c)
  (hf:Enters P f) (he:c=true→gd E xs.toList=some args) (hr:c=true→Calls P f args.toArray w fun e w'=>e= .returned v∧Ext w w') (hd:Nat.blt d n=true)
  (h:∀ w',Ext w w'→cm P n ops Q rest ((d,ie c v)::E) w'):cm P n ops Q (⟨some d, .call {callee:= .value (.func f),args:=xs,argTypes:=ts},ty,pos,bn,some (j,q)⟩::rest) E w :=
 SW (c:=c) (fun a ha=>by rw [Ce (o:=⟨some d,_,ty,pos,bn,some (j,q)⟩) rfl ay nN Φ ha,hc])
  (fun hc a ha=>by unfold Oper.wp;rw [HP hf ha (he hc)];exact (hr hc).mono fun e w' ⟨γ,hx⟩=>by subst γ;subst hc;exact h w' hx _ (ha.put hd v)) (fun hc a ha=>by subst hc;exact h w (Ext.bM w) _ (ha.put hd undef))
theorem jG {d:Option Nat} {op:Op} {j:Nat} {q:Bool} {cQ:Oper} {jc:Nat} (ay:ops[j]? =some cQ) (nN:cQ.dst=some jc) (Φ:look E jc=some (.bool q)) (h:cm P n ops Q (⟨d,op,ty,pos,bn,none⟩::rest) E w):cm P n ops Q (⟨d,op,ty,pos,bn,some (j,q)⟩::rest) E w:=fun a ha=>by
 have h:=h a ha;have hw:=Ce (o:=⟨d,op,ty,pos,bn,some (j,q)⟩) (q:=q) rfl ay nN Φ ha;unfold wpList at h ⊢;rw [if_pos (xZ rfl)] at h;rw [hw,if_pos (by cases q<;>rfl)];exact h
theorem fC {x:Operand} {b c:Bool} (h:ev E x=some (.bool b)) (e:b=c):ev E x=some (.bool c):=by rw [h,e]
theorem Rk {XB:Fn} {fs cs:Array Operand} {l m:List Value} (γ:gd E fs.toList=some l) (aa:gd E cs.toList=some m):c8 P E ⟨d, .makeFunc XB fs cs,ty,pos,bn,g⟩ w (.func XB l.toArray m.toArray) w:=fun n a ha=>by
 have aU:fs.map a.eval=l.toArray:=by rw [← ha.gd γ];apply Array.ext';simp
 have bc:cs.map a.eval=m.toArray:=by rw [← ha.gd aa];apply Array.ext';simp
 simp only [execOp,aU,bc,Instr.makeFunc,Sem.run_bind,Sem.run_pure,Result.andThen_ok]
def tE (E:List (Nat×Value)):List (Nat×Operand)→Option (List (Nat×Value))
 | []=>some []
 | (i,x)::r=>match ev E x with
  | some v=>match tE E r with
   | some l=>some ((i,v)::l)
   | none=>none
  | none=>none
theorem dH.tE (h:dH n E a):∀ {l:List (Nat×Operand)} {vs:List (Nat×Value)},tE E l=some vs→l.map (fun (i,x)=>(i,a.eval x))=vs
 | [],vs,e=>by simp only [Proofs.YtlikikpgmmkjbaaGreat.tE] at e;exact Option.some.inj e
 | (i,x)::r,vs,e=>by
  simp only [Proofs.YtlikikpgmmkjbaaGreat.tE] at e;cases hx:Proofs.YtlikikpgmmkjbaaGreat.ev E x with
  | none=>rw [hx] at e;cases e
  | some v =>
   rw [hx] at e;simp only at e;cases hr:Proofs.YtlikikpgmmkjbaaGreat.tE E r with
   | none=>rw [hr] at e;cases e
   | some l =>
    rw [hr] at e;simp only at e;obtain rfl:=Option.some.inj e;rw [List.map_cons,dH.tE h hr];simp only [h.ev hx]
theorem cO {ps:Array (Nat×Operand)} {l:List (Nat×Value)} (he:tE E ps.toList=some l) (hr:(Instr.build t l.toArray).run P w= .ok v w):c8 P E ⟨d, .build t ps,ty,pos,bn,g⟩ w v w:=fun n a ha=>by
 have aU:ps.map (fun (i,x)=>(i,a.eval x))=l.toArray:=by rw [← ha.tE he];apply Array.ext';simp
 simp only [execOp,aU,Sem.run_bind,hr,Result.andThen_ok,Sem.run_pure]
theorem cH {ps:Array (Nat×Operand)} {l:List (Nat×Value)} {d k e:Nat} {cs:List Value} (he:tE E ps.toList=some l) (hr:∀ w,(Instr.buildSlice t k l.toArray).run P w= .ok (.slice (some ⟨w.heap.size,0,none⟩) k k) (w.alloc (.cells cs.toArray e))) (hd:Nat.blt d n=true)
  (h:∀ aM b,Ext w aM→w.heap.size≤b→aK aM b cs e (0,0)→cm P n ops Q rest ((d, .slice (some ⟨b,0,none⟩) k k)::E) aM):cm P n ops Q (⟨some d, .buildSlice t k ps,ty,pos,bn,none⟩::rest) E w:=by
 refine gR (w':=w.alloc (.cells cs.toArray e)) (v:= .slice (some ⟨w.heap.size,0,none⟩) k k) (fun n a ha=> ?_) hd (h _ _ ((Below.refl _ w).alloc (Nat.le_refl _) _) (Nat.le_refl _) (aK.new w cs e (0,0)));have aU:ps.map (fun (i,x)=>(i,a.eval x))=l.toArray:=by rw [← ha.tE he];apply Array.ext';simp
 simp only [execOp,aU,Sem.run_bind,hr,Result.andThen_ok,Sem.run_pure]
def b' (A:Option Addr):Nat:=match A with | some a=>a.block | none=>0
def cX (A:Option Addr):Nat:=match A with | some a=>a.off | none=>0
theorem κ.aH.bA {α:Type} {R:κ α} {by_ c:Nat} {A:Option Addr} {l:List α} (h:R.aH by_ w A c l) (aE:0<l.length):A=some ⟨b' A,cX A,none⟩:=by
 obtain ⟨b,o,rfl,_⟩:=h.at_ aE;rfl
theorem κ.aH.cL {α:Type} {R:κ α} {by_ c:Nat} {A:Option Addr} {l:List α} (h:R.aH by_ w A c l) (aE:0<l.length):R.aH by_ w (some ⟨b' A,cX A,none⟩) c l:=by
 rw [← h.bA aE];exact h
theorem bY {e:TypeId} {size len cap b o:Nat} {QJ:IntKind} {i:Int} {A:Option Addr} (j:Nat) (aA:P.underlying t=some (.slice e)) (hs:ej P e size) (hx:ev E x=some (.slice A len cap)) (ao:ev E y=some (.int QJ i)) (hA:A=some ⟨b,o,none⟩) (ay:i=(j:Int)) (bl:j<len):
  c8 P E ⟨d, .indexAddr t x y,ty,pos,bn,g⟩ w (.pointer (some ⟨b,o+j * size,none⟩)) w:=by subst hA;exact G5 j aA hs hx ao ay bl
theorem dO {α:Type} {l:List α} {j:Nat} {u:α} (h:j<l.length):l[j]? =some (l.getD j u):=by rw [List.getD_eq_getElem?_getD,List.getElem?_eq_getElem h];rfl
section
variable {α:Type} {R:κ α} {by_ c b o j:Nat} {l:List α} {cells:α→List Value} {q u:α}
theorem κ.aH.nH (hc:∀ {w cs a},R.has w cs a→cs=cells a) (h:R.aH by_ w (some ⟨b,o,none⟩) c l) (k:Nat) (ay:l[j]? =some q) (hu:(cells q)[k]? =some v) (aA:eL P t false):hV P w t ⟨b,o+j * R.size+k,none⟩ v:=by
 obtain ⟨kz,zC,e,di⟩:=h.at_ (by have:=(List.getElem?_eq_some_iff.1 ay).1;omega);injection e with e;injection e with aU bc;subst aU;subst bc
 obtain ⟨es,γ,aa⟩:=di j q ay;rw [hc γ] at aa;exact hV.one aA (by rw [Nat.add_assoc];exact aa k v hu)
theorem κ.aH.e9 (hc:∀ {w cs a},R.has w cs a→cs=cells a) (h:R.aH by_ w (some ⟨b,o,none⟩) c l) (ay:l[j]? =some q) (hu:(cells q)[0]? =some v) (aA:eL P t false):hV P w t ⟨b,o+j * R.size,none⟩ v:=h.nH hc 0 ay hu aA
theorem κ.aH.ic (hc:∀ {w cs a},R.has w cs a→cs=cells a) (h:R.aH by_ w (some ⟨b,o,none⟩) c l) (ay:l[j]? =some q) (aA:eL P t true) (hs:ej P t (cells q).length):hV P w t ⟨b,o+j * R.size,none⟩ (.agg (cells q).toArray):=by
 obtain ⟨kz,zC,e,di⟩:=h.at_ (by have:=(List.getElem?_eq_some_iff.1 ay).1;omega);injection e with e;injection e with aU bc;subst aU;subst bc
 obtain ⟨es,γ,aa⟩:=di j q ay;rw [hc γ] at aa;exact hV.agg aA hs fun k v av=>by rw [Nat.add_assoc];exact aa k v av
theorem κ.aH.part (hc:∀ {w cs a},R.has w cs a→cs=cells a) (h:R.aH by_ w (some ⟨b,o,none⟩) c l) (k:Nat) {ds:List Value} (ay:l[j]? =some q) (hd:((cells q).drop k).take ds.length=ds) (aA:eL P t true) (hs:ej P t ds.length):hV P w t ⟨b,o+j * R.size+k,none⟩ (.agg ds.toArray):=by
 obtain ⟨kz,zC,e,di⟩:=h.at_ (by have:=(List.getElem?_eq_some_iff.1 ay).1;omega);injection e with e;injection e with aU bc;subst aU;subst bc
 obtain ⟨es,γ,aa⟩:=di j q ay;rw [hc γ] at aa;refine hV.agg aA hs fun i v ao=> ?_;rw [Nat.add_assoc,Nat.add_assoc];refine aa _ v ?_;rw [← hd] at ao;have az:=(List.getElem?_eq_some_iff.1 ao).1;rw [List.length_take] at az
 rwa [List.getElem?_take_of_lt (by omega),List.getElem?_drop] at ao
end
theorem aK.all {b:Nat} {cur:List Value} {e:TypeId} {ax:Nat×Nat} (h:aK w b cur e ax) (aA:eL P t true) (hs:ej P t cur.length):hV P w t ⟨b,0,none⟩ (.agg cur.toArray):=
 hV.agg aA hs fun j v ay=>by rw [h.cell,Nat.zero_add,ay]
theorem aK.par {b p:Nat} {cur:List Value} {e:TypeId} {ax:Nat×Nat} (h:aK w b cur e ax) (cs:List Value) (aA:eL P t true) (hs:ej P t cs.length) (hv:(cur.drop p).take cs.length=cs):hV P w t ⟨b,p,none⟩ (.agg cs.toArray):=h.agg aA hs hv
end
end Go.Proofs.YtlikikpgmmkjbaaGreat
set_option linter.unusedVariables false
set_option linter.unusedSimpArgs false
namespace Go.Proofs.YtlikikpgmmkjbaaGreat
open Tryz
open Go.RowKit

section
variable {P:Program} {n:Nat} {E cE:List (Nat×Value)} {a:Act} {w w' w0 aM:World} {Q:Exit→Act→World→Prop} {ops:Array Oper} {v:Value}
theorem bF {x:Int} (h: -9223372036854775808≤x∧x≤9223372036854775807):IntKind.i64.wrap x=x:=IntWalk.i64_in x h
section
variable {d:Option Nat} {ty:TypeId} {pos:String} {bn:Array Edge} {g:Option (Nat×Bool)} {x y:Operand} {t u:TypeId} {k:IntKind} {i j r:Int}
theorem nD (hx:ev E x=some (.int k i)) (aG:ev E y=some (.int k j)) (h:k.wrap (i+j)=i+j) (he:i+j=r):c8 P E ⟨d, .binOp .add t x y u,ty,pos,bn,g⟩ w (.int k r) w:=by subst he;exact bad hx aG h
end
theorem vE {p:Nat→Prop} {k:Nat} (h:∀ j,j<k→p j) (av:p k):∀ j,j<k+1→p j:=fun j ay=>(Nat.lt_succ_iff_lt_or_eq.1 ay).elim (h j) fun e=>e ▸ av
theorem fo {w:World} {cs:List Value} {a:Int} (h:bz.has w cs a):cs= [.int .i64 a]:=And.left (show cs= [.int .i64 a]∧fE a from h)
theorem YA {w:World} {cs:List Value} {a:Bool} (h:vS.has w cs a):cs= [.bool a]:=And.left (show cs= [.bool a]∧True from h)
theorem fB {x:Operand} {r:List Operand} {l:List Value} (h:ev E x=some v) (hr:gd E r=some l):gd E (x::r)=some (v::l):=by simp only [gd,h,hr]
theorem bX {t:Nat} {k:IntKind} {i j:Int} (h:look E t=some (.int k i)) (e:i=j):look E t=some (.int k j):=by rw [h,e]
section
variable {c:Operand} {x y:Code} {i j:Int}
theorem ef (hc:ev E c=some (.bool (decide (i<j)))) (γ:i<j→W P n x Q E w) (aa:¬ i<j→W P n y Q E w):W P n (.cond c x y) Q E w:=fk hc (fun h=>γ (of_decide_eq_true h)) (fun h=>aa (of_decide_eq_false h))
theorem Od (hc:ev E c=some (.bool (decide (i≤j)))) (γ:i≤j→W P n x Q E w) (aa:¬ i≤j→W P n y Q E w):W P n (.cond c x y) Q E w:=fk hc (fun h=>γ (of_decide_eq_true h)) (fun h=>aa (of_decide_eq_false h))
theorem l3 (hc:ev E c=some (.bool (i == j))) (γ:i=j→W P n x Q E w) (aa:¬ i=j→W P n y Q E w):W P n (.cond c x y) Q E w:=fk hc (fun h=>γ (by simpa using h)) (fun h=>aa (by simpa using h))
theorem hg (hc:ev E c=some (.bool (i != j))) (γ:¬ i=j→W P n x Q E w) (aa:i=j→W P n y Q E w):W P n (.cond c x y) Q E w:=fk hc (fun h=>γ (by simpa using h)) (fun h=>aa (by simpa using h))
end
end
def ff (P:Program) {α:Type} (R:κ α) (t e:TypeId) (by_:Nat):Prop :=
 ∃ (i:TypeInfo) (z:Value),P.underlying t=some (.slice e)∧P.info? e=some i∧i.zero=some z∧i.size=R.size∧i.bytes=by_∧z.cells.size=R.size∧0<R.size∧∀ (j:Nat) u,z.cells[j]? =some u→R.raw j u
section
variable {P:Program} {n:Nat} {E cE:List (Nat×Value)} {a:Act} {w w' w0 aM:World} {Q:Exit→Act→World→Prop} {ops:Array Oper} {v:Value}
variable {d:Option Nat} {ty:TypeId} {pos:String} {bn:Array Edge} {g:Option (Nat×Bool)} {x y z:Operand} {t:TypeId} {rest:List Oper}
theorem ff.lB {α:Type} {R:κ α} {t e by_ k:Nat} {z:Value} (aA:P.underlying t=some (.slice e)) (ao:(P.info? e).map (fun i=>(i.zero,i.size,i.bytes))=some (some z,k,by_)) (av:R.size=k) (γ:z.cells.size=k) (aa:0<k) (au:∀ (j:Nat) u,z.cells[j]? =some u→R.raw j u):ff P R t e by_:=by
 cases I:P.info? e with
 | none=>rw [I] at ao;cases ao
 | some i =>
  rw [I] at ao;simp only [Option.map_some,Option.some.injEq,Prod.mk.injEq] at ao;exact ⟨i,z,aA,I,ao.1,by rw [ao.2.1,av],ao.2.2,by rw [γ,av],by rw [av];exact aa,au⟩
theorem El:∀ (j:Nat) u,(Value.int .i64 0).cells[j]? =some u→bz.raw j u:=by
 intro j u hu;have hu:(#[(.int .i64 0:Value)]:Array Value)[j]? =some u:=hu
 match j,hu with
 | 0,hu=>exact ⟨0,(Option.some.inj hu).symm⟩
 | j+1,hu=>simp at hu
theorem acj:∀ (j:Nat) u,(Value.bool false).cells[j]? =some u→vS.raw j u:=by
 intro j u hu;have hu:(#[(.bool false:Value)]:Array Value)[j]? =some u:=hu
 match j,hu with
 | 0,hu=>exact ⟨false,(Option.some.inj hu).symm⟩
 | j+1,hu=>simp at hu
def NA (P:Program) (n:Nat) (c:Code) (Q:Exit→Act→World→Prop) (k:Nat) (E:List (Nat×Value)) (w:World):Prop:=∀ a,dH n E a→Code.rounds P c Q k a w
theorem DZ {c:Code} (k:Nat) (h:NA P n c Q k E w):W P n (.loop c) Q E w:=fun a ha=>wp_loop_rounds k (h a ha)
theorem kf {c:Code} {k:Nat} (h:W P n c (Exit.then (Code.rounds P c Q k) Q) E w):NA P n c Q (k+1) E w:=fun a ha=>h a ha
theorem nY {c:Code} {k:Nat} (h:NA P n c Q k E w):N n (Exit.then (Code.rounds P c Q k) Q) E w:=h
theorem aK.gv {α:Type} {R:κ α} {by_ b:Nat} {cs:List Value} {e:TypeId} {ax:Nat×Nat} {q:α} (Φ:aK w b cs e ax) (h:R.has w cs q) (l':by_≤140737488355328):R.aH by_ w (some ⟨b,0,none⟩) 1 [q]:=by
 refine ⟨Nat.le_refl _,by decide,by simpa using l',(fun h=>by cases h), [cs],⟨h,trivial⟩, ?_⟩;have az:=R.len h;refine ⟨by simp [az],fun _=>⟨b,0,rfl,fun j u hu=> ?_⟩⟩;rw [Nat.zero_add,Φ.cell];simpa using hu
theorem aK.yX {α:Type} {R:κ α} {by_ b:Nat} {cs:List Value} {e:TypeId} {ax:Nat×Nat} {k:List α} (Φ:aK w b cs e ax) (ess:List (List Value)) (mQ:ess.flatten=cs) (h:cD (fun es a=>R.has w es a) ess k) (nJ:k.length≤9223372036854775807) (l':k.length * by_≤140737488355328):R.aH by_ w (some ⟨b,0,none⟩) k.length k:=by
 refine ⟨Nat.le_refl _,nJ,l',(fun h=>by cases h),ess,h, ?_⟩;have az:∀ x∈ess,x.length=R.size:=fun x hx=>by obtain ⟨a,ha⟩:=h.left x hx;exact R.len ha
 refine ⟨by rw [w5 az,h.length],fun _=>⟨b,0,rfl,fun j u hu=> ?_⟩⟩;rw [Nat.zero_add,Φ.cell,← mQ];exact hu
theorem aK.ru {α:Type} {R:κ α} {by_ b B:Nat} {cs:List Value} {e:TypeId} {k:List α} (Φ:aK w b cs e (0,0)) (ess:List (List Value)) (mQ:ess.flatten=cs) (h:cD (fun es a=>R.has w es a) ess k) (nJ:k.length≤9223372036854775807) (l':k.length * by_≤140737488355328) (aE:0<R.size) (aX:B≤b) (hR:R.Plain:=by exact κ.r5):
  R.aF e by_ w B (κ.af (some ⟨b,0,none⟩)) (some ⟨b,0,none⟩) k.length k:=by
 have az:∀ x∈ess,x.length=R.size:=fun x hx=>by obtain ⟨a,ha⟩:=h.left x hx;exact R.len ha
 have hlen:cs.length=k.length * R.size:=by rw [← mQ,w5 az,h.length]
 refine κ.aF.xF hR h l' ⟨by rw [mQ,hlen], .inr ⟨b,k.length,cs.toArray,rfl,aX,Φ,Nat.le_refl _,nJ,by simpa using hlen, ?_,fun j u hu=> ?_⟩⟩
 ·rw [mQ];exact List.take_of_length_le (by simp [hlen])
 ·exact F0 h aE (by rw [mQ];simpa using hu)
theorem ap {α:Type} {R:κ α} {e by_ base:Nat} {A cC:Option Addr} {c c2 d:Nat} {l k:List α} (r_:ff P R t e by_) (hR:R.sW) (h:R.aF e by_ w base (κ.af A) A c l) (aa:R.aH by_ w cC c2 k)
  (hs:ev E x=some (.slice A l.length c)) (hx:ev E y=some (.slice cC k.length c2)) (hlen:l.length+k.length≤9223372036854775807) (nM:(l.length+k.length) * by_≤140737488355328) (l_:base≤w.heap.size) (hd:Nat.blt d n=true)
  (av:∀ aM bH bW,Mod (κ.af A) w aM→R.aF e by_ aM base (κ.af bH) bH bW (l++k)→(∀ q∈κ.af bH,q∈κ.af A∨w.heap.size≤q)→(bH=none↔A=none∧k= [])→cm P n ops Q rest ((d, .slice bH (l++k).length bW)::E) aM):
  cm P n ops Q (⟨some d, .call {callee:= .builtin .append,args:=#[x,y],argTypes:=#[t,t]},ty,pos,bn,none⟩::rest) E w:=fun a ha=>by
 obtain ⟨i,z,aU,bc,cy,jd,FP,FQ,W3,W4⟩:=r_;obtain ⟨s1,s2,LX,LY,ess,B3,xM⟩:=aa;obtain ⟨dY,eS⟩:=κ.abT ess;refine κ.avy Z x y base t e i z aU bc cy jd FP FQ W3 W4 (κ.af A) A c l h cC k.length c2 k (ess.map fun es=>(([]:List Nat),es)) (κ.cD.plain hR.1 B3) Z (by rw [eS];exact xM) (by rw [dY,List.append_nil];exact h.nodup) hlen nM l_ Z (ha.ev hs) (ha.ev hx) ?_;rintro bH bW f' aM ⟨j1,nd,xJ,Ei,RH,ab6⟩;obtain rfl:=j1.akP hR.2;have hm:Mod (κ.af A) w aM:=by
  have:=Mod.grown nd
  rwa [κ.LM] at this
 have:=av aM bH bW hm j1 (fun q I=>by
  rcases Ei q I with h | h | h
  ·exact .inl h
  ·rw [dY] at h;cases h
  ·exact .inr (by omega)) (by rw [RH];exact and_congr_right fun _=>List.length_eq_zero_iff)
 rw [List.length_append] at this;exact this _ (ha.put hd _)
theorem Own.V3 {base e size:Nat} {G:Nat→Value→Prop} {b c n:Nat} {xs:List Value} (h:Own w base e size G (.slice (some ⟨b,0,none⟩) n c) n xs):∃ cur:Array Value,w.heap[b]? =some (.cells cur e (0,0))∧cur.size=c * size∧cur.toList.take (n * size)=xs:=by
 obtain ⟨γ,aa⟩:=h;rcases aa with ⟨aa,_⟩ | ⟨g',cap,cur,hv,kz,ey,d,hm,hs,aA,bq⟩
 ·cases aa
 ·injection hv with hv _ hc
  injection hv with hv
  injection hv with hv
  subst hv;subst hc;exact ⟨cur,ey,hs,aA⟩
theorem so {α:Type} {R:κ α} {e by_ B j i:Nat} {A:Option Addr} {c:Nat} {l:List α} {q q':α} {p:Addr} {u:Value} (h:R.aF e by_ w B (κ.af A) A c l) (hR:R.sW) (ao:l[i]? =some q) (ay:Nat.blt j R.size=true) (hx:ev E x=some (.pointer (some p))) (hp:p=⟨b' A,cX A+i * R.size+j,none⟩) (aG:ev E y=some u)
  (hu:∀ (aM:World) cs,R.has w cs q→R.has aM (cs.set j u) q') (γ:u.oneCell'=true) (mQ:u.cells=#[u]) (hs:ej P t 1)
  (av:∀ aM,Mod (κ.af A) w aM→R.aF e by_ aM B (κ.af A) A c (l.set i q')→cm P n ops Q rest E aM):cm P n ops Q (⟨none, .store t x y,ty,pos,bn,none⟩::rest) E w:=by
 obtain ⟨b,rfl⟩:=h.block (by have:=(List.getElem?_eq_some_iff.1 ao).1;omega);rw [Nat.blt_eq] at ay;have GL:p=⟨b,i * R.size+j,none⟩:=by rw [hp];simp [b',cX]
 subst GL;have sj:=h.as3 hR ao ay (fun cs hc=>hu _ cs hc);have bl:=(List.getElem?_eq_some_iff.1 ao).1;have h5:∃ adl,w.cell? ⟨b,i * R.size+j,none⟩=some adl:=by
  obtain ⟨_,ps,_,_,bJ,di⟩:=h;have az:=bJ.1;rw [bJ.cell _ (by rw [Nat.mul_comm i];exact Nat.lt_of_lt_of_le (by rw [Nat.mul_comm];exact (by omega:i * R.size+j<i * R.size+R.size)) (by rw [← Nat.succ_mul];exact Nat.mul_le_mul_right _ bl))];exact ⟨_,List.getElem?_eq_getElem (by rw [az];exact Nat.lt_of_lt_of_le (by omega:i * R.size+j<i * R.size+R.size) (by rw [← Nat.succ_mul];exact Nat.mul_le_mul_right _ bl))⟩
 obtain ⟨adl,anS⟩:=h5;have hf:=h.free (i * R.size+j);refine us (w':=w.setCell ⟨b,i * R.size+j,none⟩ u) (fun n a ha=> ?_) (av _ (Mod.setCell w ⟨b,i * R.size+j,none⟩ u) sj);have fM:(storeVar t ⟨b,i * R.size+j,none⟩ u).run P w= .ok () (w.setCell ⟨b,i * R.size+j,none⟩ u):=by
  unfold storeVar;simp only [mQ,Sem.run_bind,hs w,Result.andThen_ok,List.size_toArray,List.length_cons,List.length_nil,ne_eq,Nat.zero_add,not_true_eq_false,if_false,storeCells];have:(⟨b,i * R.size+j,none⟩:Addr).add 0=⟨b,i * R.size+j,none⟩:=rfl;rw [this,run_store P w _ u _ γ,anS];simp only [hf,Bool.false_eq_true,if_false,Result.andThen_ok,Sem.run_pure]
 simp only [execOp,ha.ev hx,ha.ev aG,Instr.storeAt,Instr.sureAddr,Sem.run_bind,Sem.run_pure,Result.andThen_ok,fM]
theorem Jy {e u:TypeId} {q:Option Addr} (aA:P.underlying t=some (.pointer e)) (hx:ev E x=some (.pointer q)) (aG:ev E y=some (.pointer none)):c8 P E ⟨d, .binOp .eql t x y u,ty,pos,bn,g⟩ w (.bool q.isNone) w:=fun n a ha=>by
 have γ:P.underlying t=some (.pointer (P.pointee t)):=by simp [Program.pointee,aA]
 have:(eqGuard .eql t x y (.pointer q) (.pointer none)).run P w= .ok () w:=by cases x<;>cases y<;>rfl
 simp only [execOp,ha.ev hx,ha.ev aG,Sem.run_bind,this,run_eql_pointer_nil w t q γ,Result.andThen_ok,Sem.run_pure]
def Fa (P:Program) {α:Type} [DecidableEq α] (cells:α→List Value) (t:TypeId):Prop:=∀ (a b:α) (w:World),(binOp .eql t (.agg (cells a).toArray) (.agg (cells b).toArray)).run P w= .ok (.bool (decide (a=b))) w∧(binOp .neq t (.agg (cells a).toArray) (.agg (cells b).toArray)).run P w= .ok (.bool (!decide (a=b))) w
theorem akn {o:BinOp} {xs ys:Array Value} (h:P.eqGuardType P.depth t=false):(eqGuard o t x y (.agg xs) (.agg ys)).run P w= .ok () w:=by
 cases o<;>simp [eqGuard,h]
theorem Jx {α:Type} [DecidableEq α] {cells:α→List Value} {u:TypeId} {p q:α} (r_:Fa P cells t) (bq:P.eqGuardType P.depth t=false) (hx:ev E x=some (.agg (cells p).toArray)) (aG:ev E y=some (.agg (cells q).toArray)):c8 P E ⟨d, .binOp .neq t x y u,ty,pos,bn,g⟩ w (.bool (!decide (p=q))) w:=fun n a ha=>by
 simp only [execOp,ha.ev hx,ha.ev aG,Sem.run_bind,akn bq,(r_ p q w).2,Result.andThen_ok,Sem.run_pure]
theorem BC {u i:Value} (hx:ev E x=some u) (aG:ev E y=some i) (hr:(Instr.index t u i).run P w= .ok v w):c8 P E ⟨d, .index t x y,ty,pos,bn,g⟩ w v w:=fun n a ha=>by
 simp only [execOp,ha.ev hx,ha.ev aG,Sem.run_bind,hr,Result.andThen_ok,Sem.run_pure]
theorem nb {k:IntKind} {i j:Int} {ts:Array TypeId} (hx:ev E x=some (.int k i)) (aG:ev E y=some (.int k j)):c8 P E ⟨d, .call {callee:= .builtin .min,args:=#[x,y],argTypes:=ts},ty,pos,bn,g⟩ w (.int k (min i j)) w :=
 bi (vs:= [.int k i, .int k j]) (by simp only [gd,hx,aG]) fun cs=>by
  have:=run_min_int2 (P:=P) (w:=w) ts ty k k i j;simp only [builtin,Sem.run_bind,this,Result.andThen_ok,Sem.run_pure];congr 3;rw [Int.min_def];split<;>split<;>omega
theorem mx {k:IntKind} {i j:Int} {ts:Array TypeId} (hx:ev E x=some (.int k i)) (aG:ev E y=some (.int k j)):c8 P E ⟨d, .call {callee:= .builtin .max,args:=#[x,y],argTypes:=ts},ty,pos,bn,g⟩ w (.int k (max i j)) w :=
 bi (vs:= [.int k i, .int k j]) (by simp only [gd,hx,aG]) fun cs=>by
  have:=run_max_int2 (P:=P) (w:=w) ts ty k k i j;simp only [builtin,Sem.run_bind,this,Result.andThen_ok,Sem.run_pure];congr 3;rw [Int.max_def];split<;>split<;>omega
end
end Go.Proofs.YtlikikpgmmkjbaaGreat
set_option linter.unusedVariables false
set_option linter.unusedSimpArgs false
namespace Go.Proofs.YtlikikpgmmkjbaaGreat
open Tryz
open Go.RowKit

section
variable {P:Program} {n:Nat} {E:List (Nat×Value)} {a:Act} {w w0:World} {Q:Exit→Act→World→Prop} {ops:Array Oper} {aR:Nat→Nat}
def vT (r:List Nat) (l:Array Bool):Array Bool:=match r with | []=>l | i::r=>vT r (l.setIfInBounds i true)
def A_ (ops:Array Oper) (aR:Nat→Nat):List Nat→Array Bool→Bool
 | [],_=>true
 | i::r,l=>(match aR i with
   | 0=>Region.free .any ops l i && (Region.ready .any ops l).contains i && Jp ops aR l i
   | 1=>Region.free .any ops l i && (Region.ready .any ops l).contains i
   | _=>false) && A_ ops aR r (l.setIfInBounds i true)
def VC (ops:Array Oper) (aR:Nat→Nat) (r:List Nat):Nat→List Nat→Array Bool→Bool
 | 0,R,l=>R.isEmpty && iP ops aR r l
 | f+1,R,l=> !(Region.ready .any ops l).isEmpty && (Region.ready .any ops l).all fun j=>R.contains j && Nat.beq (aR j) 2 && VC ops aR r f (R.erase j) (l.setIfInBounds j true)
theorem NN (hs:Region.noSelect ops=true) (gK:∀ c a w,¬ Q (.panic c) a w) {od:Exit→Act→World→Prop} {m:Nat}:∀ (r:List Nat) (l:Array Bool) (a:Act) (w0:World),l.size=ops.size→A_ ops aR r l=true→rC P ops od aR r a w0→
  (∀ a w0,(∀ w,Ext w0 w→od .normal a w)→yv P ops Q aR m (vT r l) a w0)→yv P ops Q aR (r.length+m) l a w0
 | [],l,a,w0,_,_,h,e8=>by rw [List.length_nil,Nat.zero_add];exact e8 a w0 h
 | i::r,l,a,w0,az,aX,h,e8=>by
  rw [List.length_cons,Nat.succ_add];obtain ⟨o,bJ,h⟩:=h;have lr:=Region.noSelect_spec hs;rcases h with ⟨av,v,I,hK⟩ | ⟨av,v,I,hK⟩ | ⟨av,h⟩
  ·simp only [A_,av,Bool.and_eq_true] at aX;obtain ⟨⟨⟨hf,hr⟩,Φ⟩,aX⟩:=aX;obtain ⟨R,r1,r2,uC⟩:=Jq az Φ;exact Kb bJ (by omega) lr gK (fun w0 a=>qT P ops w0 o v a) (fun _ _ h=>h) (fun _ _ _ h he hw=>h.of_same he hw) (fun _ _ _ hx h=>h.on hx) R l r1 (.inr uC) _ _ _ _ r2 (fun _ h=>h) (Region.free_spec bJ hf) (by simpa using hr) I
    (NN hs gK r _ _ _ (by simpa using az) aX hK e8)
  ·simp only [A_,av,Bool.and_eq_true] at aX;obtain ⟨⟨hf,hr⟩,aX⟩:=aX;exact Kb bJ (by omega) lr gK (fun _ a=>Yields P ops o v a) (fun _ _ h=>Yields.acf h) (fun _ _ _ h he hw=>h.of_same he hw) (fun _ _ _ _ h=>h) (fun _=>true) l (fun _ _ _ _ _=>Z) (.inl fun _ _ _ h=>h) _ _ _ _ (fun _ _=>Z) (fun _ h=>h) (Region.free_spec bJ hf) (by simpa using hr) I
    (NN hs gK r _ _ _ (by simpa using az) aX hK e8)
  ·obtain ⟨k,gP⟩:∃ k,aR i=k+2:=⟨aR i - 2,by omega⟩;simp only [A_,gP,Bool.false_and,Bool.false_eq_true] at aX
theorem dH.iI {d:Nat} (h:dH n E a) (hf:look E d=Option.none) (v:Value):dH n E (a.put (some d) v):=by
 refine ⟨h.d,by simp [Act.put,h.s],fun t u hu=> ?_⟩;have dK:d≠t:=fun e=>by rw [e,hu] at hf;cases hf
 simp only [Act.put];rw [Array.getElem?_setIfInBounds_ne dK];exact h.g t u hu
structure axA (P:Program) (n:Nat) (ops:Array Oper) (Q:Exit→Act→World→Prop) (E:List (Nat×Value)) (w0:World) (i d:Nat) (Tu:Value→List Nat→World→Prop):Prop where
 mono:∀ v f w w',Tu v f w→Ext w w'→Tu v f w'
 free:look E d=none
 cO:Nat.blt d n=true
 run:∀ (a:Act) (w:World) (K:Act→World→Prop),dH n E a→Ext w0 w→(∀ v w' f,Ext w w'→(∀ q∈f,w.heap.size≤q∧q<w'.heap.size)→Tu v f w'→K (a.put (some d) v) w')→wpOp P ops (fX (Q .normal)) i K a w
abbrev Made:=Nat×Nat×(Value→List Nat→World→Prop)
def awI (P:Program) (ops:Array Oper) (Q:Exit→Act→World→Prop) (aR:Nat→Nat) (B bN:List Nat) (l:Array Bool):Exit→Act→World→Prop
 | .normal,a,w=>Region.noSelect ops=true→l.size=ops.size→VC ops aR bN B.length B l=true→yv P ops (fX (Q .normal)) aR (B.length+bN.length) l a w
 | _,_,_=>False
theorem R8:∀ (r:List Nat) (l:Array Bool),(vT r l).size=l.size
 | [],_=>rfl
 | i::r,l=>by unfold vT;rw [R8 r];simp
def aqo:List Nat→Bool
 | []=>true
 | x::r=> !r.elem x && aqo r
variable {d i:Nat} {ty:TypeId} {pos:String} {bn:Array Edge} {x y z:Operand} {t:TypeId} {v:Value}
def axB (cs:List Value) (t:TypeId) (v:Value) (f:List Nat) (w:World):Prop:=∃ b,v= .pointer (some ⟨b,0,none⟩)∧f= [b]∧aK w b cs t (0,0)
end
end Go.Proofs.YtlikikpgmmkjbaaGreat
set_option linter.unusedVariables false
set_option linter.unusedSimpArgs false
namespace Go.Proofs.YtlikikpgmmkjbaaGreat
open Tryz
open Go.RowKit

section
variable {P:Program} {n:Nat} {E cE:List (Nat×Value)} {a:Act} {w w' w0 aM:World} {Q:Exit→Act→World→Prop} {ops:Array Oper}
variable {d:Option Nat} {ty:TypeId} {pos:String} {bn:Array Edge} {g:Option (Nat×Bool)} {x y z u:Operand} {t:TypeId} {rest:List Oper} {v:Value}
theorem Rp {i:Int} (hx:ev E x=some (.int .i64 i)) (h:IntKind.i64.wrap (-i)= -i):c8 P E ⟨d, .unOp .neg t x,ty,pos,bn,g⟩ w (.int .i64 (-i)) w:=fun n a ha=>by
 have:(execOp a.eval ⟨d, .unOp .neg t x,ty,pos,bn,g⟩).run P w= .ok (.value (.int .i64 (IntKind.i64.wrap (-i)))) w:=by
  have aE:(0:Int) - i= -i:=Int.zero_sub i;have hu:(Op.unary .neg (.int .i64 i)).run P w= .ok (.int .i64 (IntKind.i64.wrap (-i))) w:=by
   show (Op.intArith .sub .i64 0 i).run P w=_;simp [Op.intArith,aE]
  simp only [execOp,ha.ev hx,Sem.run_bind,hu,Result.andThen_ok,Sem.run_pure]
 rw [this,h]
theorem apM {k:IntKind} {i j l m:Int} {ts:Array TypeId} (hx:ev E x=some (.int k i)) (aG:ev E y=some (.int k j)) (bw:ev E z=some (.int k l)) (hu:ev E u=some (.int k m)):c8 P E ⟨d, .call {callee:= .builtin .max,args:=#[x,y,z,u],argTypes:=ts},ty,pos,bn,g⟩ w (.int k (max (max (max i j) l) m)) w :=
 bi (vs:= [.int k i, .int k j, .int k l, .int k m]) (by simp only [gd,hx,aG,bw,hu]) fun cs=>by
  have e:∀ a b:Int,(if b > a then b else a)=max a b:=fun a b=>by rw [Int.max_def];split<;>split<;>omega
  have:(Builtin.max_ ts ty #[.int k i, .int k j, .int k l, .int k m]).run P w= .ok (.int k (max (max (max i j) l) m)) w:=by
   rw [← e,← e,← e];simp [Builtin.max_,Builtin.max2]
  simp only [builtin,Sem.run_bind,this,Result.andThen_ok,Sem.run_pure]
end
def UB (e:MapEntry) (p:Int×Int):Prop:=e.key= .int .i64 p.1∧e.val= .int .i64 p.2
def nA (w:World) (r:Nat) (l:List (Int×Int)):Prop:=∃ (es:Array MapEntry) (clock:Nat),w.heap[r]? =some (.map es clock)∧cD UB es.toList l
def cq (l:List (Int×Int)) (k:Int):Option Int:=(l.find? fun p=>p.1 == k).map (·.2)
section
variable {w w':World} {r:Nat} {l:List (Int×Int)} {S:List Nat}
theorem nA.lt (h:nA w r l):r<w.heap.size:=by
 obtain ⟨es,c,γ,_⟩:=h;exact (Array.getElem?_eq_some_iff.1 γ).1
theorem nA.later (h:nA w r l) (x:Ext w w'):nA w' r l:=by
 have az:=h.lt;obtain ⟨es,c,γ,aa⟩:=h;exact ⟨es,c,by rw [x.block r az];exact γ,aa⟩
theorem nA.mod (h:nA w r l) (m:Mod S w w') (hs:r∉S):nA w' r l:=by
 have az:=h.lt;obtain ⟨es,c,γ,aa⟩:=h;exact ⟨es,c,by rw [m.block r az hs];exact γ,aa⟩
theorem OW (k:Int):∀ {es:List MapEntry} {l:List (Int×Int)} (i:Nat),cD UB es l→(cq l k=none→Instr.findNow (.int .i64) (.int .i64 k) es i=some none)∧(∀ v,cq l k=some v→∃ j,Instr.findNow (.int .i64) (.int .i64 k) es i=some (some (j, .int .i64 v)))
 | [], [],i,_=>⟨fun _=>rfl,fun v h=>by simp [cq] at h⟩
 | e::es,p::l,i,h=>by
  obtain ⟨⟨av,hv⟩,aa⟩:=h;have bk:=OW k (i+1) aa;have xo:Instr.sameNow (.int .i64) (.int .i64 k) e.key=some (decide (k=p.1)):=by
   rw [av];obtain ⟨q,I,ao⟩:=MapKept.sameNow_of_keys (d:= .int .i64) (a:= .int .i64 k) (b:= .int .i64 p.1) rfl rfl;rw [I];cases q with
   | true=>have:=ao.1 rfl;injection this with _ this;rw [decide_eq_true this]
   | false=>rw [decide_eq_false fun e=>by have:=ao.2 (by rw [e]);cases this]
  by_cases he:k=p.1
  ·have Φ:(p.1 == k)=true:=by simp [he]
   rw [decide_eq_true he] at xo;refine ⟨fun aE=>by simp [cq,List.find?,Φ] at aE,fun v aE=>⟨i, ?_⟩⟩;have:p.2=v:=by simpa [cq,List.find?,Φ] using aE
   simp [Instr.findNow,xo,hv,this]
  ·have Φ:(p.1 == k)=false:=by simpa using fun e=>he e.symm
   rw [decide_eq_false he] at xo;have aO:cq (p::l) k=cq l k:=by simp [cq,List.find?,Φ]
   rw [aO];simpa [Instr.findNow,xo] using bk
end
section
variable {P:Program} {n:Nat} {E cE:List (Nat×Value)} {a:Act} {w w' w0 aM:World} {Q:Exit→Act→World→Prop} {ops:Array Oper}
variable {d:Option Nat} {ty:TypeId} {pos:String} {bn:Array Edge} {g:Option (Nat×Bool)} {x y z u:Operand} {t:TypeId} {rest:List Oper} {v:Value}
theorem Rm {d:Nat} (hd:Nat.blt d n=true) (h:∀ aM r,Ext w aM→w.heap.size≤r→nA aM r []→cm P n ops Q rest ((d, .map (some r))::E) aM):cm P n ops Q (⟨some d, .makeMap t none,ty,pos,bn,none⟩::rest) E w:=by
 refine gR (w':=w.alloc (.map #[] 0)) (v:= .map (some w.heap.size)) (fun n a ha=> ?_) hd (h _ _ ((Below.refl _ w).alloc (Nat.le_refl _) _) (Nat.le_refl _) ⟨#[],0,(MapKept.heap_alloc w _).1,trivial⟩);simp only [execOp,Option.map,Sem.run_bind,run_makeMap_plain,Result.andThen_ok,Sem.run_pure]
theorem lk {Hn J_:TypeId} {r:Nat} {l:List (Int×Int)} {k:Int} (hm:P.underlying t=some (.map Hn J_)) (av:P.underlying Hn=some (.int .i64)) (he:mI P J_ (.int .i64 0)) (h:nA w r l) (hx:ev E x=some (.map (some r))) (aG:ev E y=some (.int .i64 k)):
  c8 P E ⟨d, .lookup t x y true,ty,pos,bn,g⟩ w (.tuple #[.int .i64 ((cq l k).getD 0), .bool (cq l k).isSome]) w:=fun n a ha=>by
 obtain ⟨es,c,γ,aa⟩:=h;have hf:=OW k 0 aa;have KK:=MapKept.run_checkKey (P:=P) (w:=w) av (show MapKept.IsKey (.int .i64) (.int .i64 k) from rfl) es.isEmpty 9999;have jY:(Instr.lookup t (.map (some r)) (.int .i64 k) true).run P w= .ok (.tuple #[.int .i64 ((cq l k).getD 0), .bool (cq l k).isSome]) w:=by
  cases aO:cq l k with
  | none =>
   have:=MapKept.run_findKey (P:=P) (w:=w) av (hf.1 aO);simp [Instr.lookup,Sem.run_bind,run_underlying hm,MapKept.run_getObj_map γ,KK,this,he w,Result.andThen]
  | some v =>
   obtain ⟨j,ay⟩:=hf.2 v aO;have:=MapKept.run_findKey (P:=P) (w:=w) av ay;simp [Instr.lookup,Sem.run_bind,run_underlying hm,MapKept.run_getObj_map γ,KK,this,Result.andThen]
 simp only [execOp,ha.ev hx,ha.ev aG,Sem.run_bind,jY,Result.andThen_ok,Sem.run_pure]
theorem mu {Hn J_:TypeId} {r:Nat} {l:List (Int×Int)} {k v:Int} (hm:P.underlying t=some (.map Hn J_)) (av:P.underlying Hn=some (.int .i64)) (h:nA w r l) (aO:cq l k=none) (hx:ev E x=some (.map (some r))) (aG:ev E y=some (.int .i64 k)) (bw:ev E z=some (.int .i64 v))
  (hK:∀ aM,Mod [r] w aM→nA aM r (l++ [(k,v)])→cm P n ops Q rest E aM):cm P n ops Q (⟨none, .mapUpdate t x y z,ty,pos,bn,none⟩::rest) E w:=by
 have bl:=h.lt;obtain ⟨es,c,γ,aa⟩:=h;have hf:=(OW k 0 aa).1 aO;have KK:=MapKept.run_checkKey (P:=P) (w:=w) av (show MapKept.IsKey (.int .i64) (.int .i64 k) from rfl) false 9999;have amw:=MapKept.run_findKey (P:=P) (w:=w) av hf;have sj:=MapKept.run_setObj_map (P:=P) (.map (es.push {key:= .int .i64 k,val:= .int .i64 v,born:=c}) (c+1)) γ;refine us (w':= {w with heap:=w.heap.setIfInBounds r (.map (es.push {key:= .int .i64 k,val:= .int .i64 v,born:=c}) (c+1))}) (fun n a ha=> ?_) (hK _ ⟨Z,Z,Z,by simp,fun q I hn=> ?_⟩ ⟨es.push {key:= .int .i64 k,val:= .int .i64 v,born:=c},c+1,(MapKept.heap_set γ).1, ?_⟩)
 ·have jY:(Instr.mapUpdate t (.map (some r)) (.int .i64 k) (.int .i64 v)).run P w= .ok () {w with heap:=w.heap.setIfInBounds r (.map (es.push {key:= .int .i64 k,val:= .int .i64 v,born:=c}) (c+1))}:=by
   simp [Instr.mapUpdate,Sem.run_bind,run_underlying hm,MapKept.run_getObj_map γ,KK,amw,sj,Result.andThen]
  simp only [execOp,ha.ev hx,ha.ev aG,ha.ev bw,Sem.run_bind,jY,Result.andThen_ok,Sem.run_pure]
 ·exact (MapKept.heap_set γ).2 q (by simpa using hn)
 ·rw [Array.toList_push];exact aa.app ⟨⟨Z,Z⟩,trivial⟩
end
theorem apO {w:World} {B e size c m:Nat} {G:Nat→Value→Prop} {z:Array Value} (bw:z.size=size) (aE:0<size) (bq:∀ (j:Nat) u,z[j]? =some u→G j u) (aX:B≤w.heap.size) (hm:m≤c) (hc:c≤maxLen):
  Own (w.alloc (.cells (madeCells z (c * size)) e)) B e size G (.slice (some ⟨w.heap.size,0,none⟩) m c) m ((madeCells z (c * size)).toList.take (m * size)):=by
 have ane:m * size≤c * size:=Nat.mul_le_mul_right _ hm;refine ⟨by rw [List.length_take,Array.length_toList,size_madeCells];omega, .inr ⟨w.heap.size,c,_,rfl,aX,(MapKept.heap_alloc w _).1,hm,hc,size_madeCells _ _,rfl,fun j u hu=> ?_⟩⟩;have bl:=(Array.getElem?_eq_some_iff.1 hu).1;simp only [madeCells,Array.getElem?_map] at hu;rw [size_madeCells] at bl;rw [Array.getElem?_range,if_pos bl] at hu;have ay:j % size<z.size:=by rw [bw];exact Nat.mod_lt _ aE
 have e:z[j % z.size]! =z[j % size]:=by rw [bw];exact getElem!_pos z (j % size) ay
 rw [Option.map_some,e] at hu;exact bq _ _ (by rw [Array.getElem?_eq_getElem ay];exact hu)
section
variable {P:Program} {n:Nat} {E cE:List (Nat×Value)} {a:Act} {w w' w0 aM:World} {Q:Exit→Act→World→Prop} {ops:Array Oper}
variable {d:Nat} {ty:TypeId} {pos:String} {bn:Array Edge} {g:Option (Nat×Bool)} {x y z:Operand} {t:TypeId} {rest:List Oper}
theorem abi {α:Type} {R:κ α} {e by_ B m c:Nat} {zv:Value} {l:List α} (b3:R.Plain) (aA:P.underlying t=some (.slice e)) (ao:(P.info? e).map (fun i=>(i.zero,i.size,i.bytes))=some (some zv,R.size,by_)) (γ:zv.cells.size=R.size) (aa:0<R.size) (au:∀ (j:Nat) u,zv.cells[j]? =some u→R.raw j u)
  (hx:ev E x=some (.int .i64 (m:Int))) (aG:ev E y=some (.int .i64 (c:Int))) (hd:Nat.blt d n=true) (hm:m≤c) (Φ:c * by_≤140737488355328) (hc:c≤9223372036854775807) (aX:B≤w.heap.size) (az:l.length=m) {ess:List (List Value)} (amt:∀ w,cD (fun es a=>R.has w es a) ess l) (oo:ess.flatten=(madeCells zv.cells (c * R.size)).toList.take (m * R.size))
  (h:∀ aM b,Ext w aM→w.heap.size≤b→R.aF e by_ aM B (κ.af (some ⟨b,0,none⟩)) (some ⟨b,0,none⟩) c l→cm P n ops Q rest ((d, .slice (some ⟨b,0,none⟩) m c)::E) aM):cm P n ops Q (⟨some d, .makeSlice t x y,ty,pos,bn,none⟩::rest) E w:=by
 cases I:P.info? e with
 | none=>rw [I] at ao;cases ao
 | some i =>
  rw [I] at ao;simp only [Option.map_some,Option.some.injEq,Prod.mk.injEq] at ao;obtain ⟨i1,i2,i3⟩:=ao;have bo:(i.bytes:Int) * (c:Int)≤281474976710656:=by
   have:i.bytes * c≤281474976710656:=by rw [i3,Nat.mul_comm];omega
   have h:((i.bytes * c:Nat):Int)≤281474976710656:=by omega
   rwa [Int.natCast_mul] at h
  have hr:=run_make (P:=P) w t e i zv aA I i1 .i64 .i64 (m:Int) (c:Int) (by omega) (by omega) bo (by omega);simp only [Int.toNat_natCast] at hr;have bJ:=apO (w:=w) (e:=e) (c:=c) (m:=m) γ aa au aX hm (by simp [maxLen];omega);rw [← oo] at bJ;subst az;rw [i2] at hr;refine gR (fun n a ha=> ?_) hd (h _ w.heap.size ((Below.refl _ w).alloc (Nat.le_refl _) _) (Nat.le_refl _) (κ.aF.xF (R:=R) b3 (amt _) (Nat.le_trans (Nat.mul_le_mul_right _ hm) Φ) bJ));simp only [execOp,ha.ev hx,ha.ev aG,Sem.run_bind,hr,Result.andThen_ok,Sem.run_pure]
theorem apN {α:Type} {R:κ α} {e by_ B c:Nat} {zv:Value} (b3:R.Plain) (aA:P.underlying t=some (.slice e)) (ao:(P.info? e).map (fun i=>(i.zero,i.size,i.bytes))=some (some zv,R.size,by_)) (γ:zv.cells.size=R.size) (aa:0<R.size) (au:∀ (j:Nat) u,zv.cells[j]? =some u→R.raw j u)
  (hx:ev E x=some (.int .i64 0)) (aG:ev E y=some (.int .i64 (c:Int))) (hd:Nat.blt d n=true) (Φ:c * by_≤140737488355328) (hc:c≤9223372036854775807) (aX:B≤w.heap.size)
  (h:∀ aM b,Ext w aM→w.heap.size≤b→R.aF e by_ aM B (κ.af (some ⟨b,0,none⟩)) (some ⟨b,0,none⟩) c ([]:List α)→cm P n ops Q rest ((d, .slice (some ⟨b,0,none⟩) 0 c)::E) aM):cm P n ops Q (⟨some d, .makeSlice t x y,ty,pos,bn,none⟩::rest) E w :=
 abi (m:=0) (l:=([]:List α)) (ess:= []) b3 aA ao γ aa au hx aG hd (Nat.zero_le _) Φ hc aX rfl (fun _=>trivial) (by simp) h
theorem Q6 {α:Type} {R:κ α} {e by_ B c:Nat} {zv:Value} {q:α} (b3:R.Plain) (aA:P.underlying t=some (.slice e)) (ao:(P.info? e).map (fun i=>(i.zero,i.size,i.bytes))=some (some zv,R.size,by_)) (hs:R.size=1) (γ:zv.cells=#[zv]) (au:∀ (j:Nat) u,zv.cells[j]? =some u→R.raw j u) (I:∀ w,R.has w [zv] q)
  (hx:ev E x=some (.int .i64 (c:Int))) (aG:ev E y=some (.int .i64 (c:Int))) (hd:Nat.blt d n=true) (Φ:c * by_≤140737488355328) (hc:c≤9223372036854775807) (aX:B≤w.heap.size)
  (h:∀ aM b,Ext w aM→w.heap.size≤b→R.aF e by_ aM B (κ.af (some ⟨b,0,none⟩)) (some ⟨b,0,none⟩) c (List.replicate c q)→cm P n ops Q rest ((d, .slice (some ⟨b,0,none⟩) c c)::E) aM):cm P n ops Q (⟨some d, .makeSlice t x y,ty,pos,bn,none⟩::rest) E w:=by
 refine abi (m:=c) (ess:=List.replicate c [zv]) b3 aA ao (by rw [γ,hs];rfl) (by omega) au hx aG hd (Nat.le_refl _) Φ hc aX (by simp) (fun w=> ?_) ?_ h
 ·clear h Φ hc hx aG;induction c with
  | zero=>trivial
  | succ c bk=>exact ⟨I w,bk⟩
 ·rw [hs,Nat.mul_one,γ];apply List.ext_getElem?;intro i;simp only [List.getElem?_take,Array.getElem?_toList,madeCells,Array.getElem?_map,Array.getElem?_range];have aU:∀ k:Nat,(List.replicate k [zv]).flatten=List.replicate k zv:=fun k=>by
   induction k with
   | zero=>rfl
   | succ k bk=>simp [List.replicate_succ,bk]
  rw [aU,List.getElem?_replicate];split
  ·simp [Nat.mod_one]
  ·rfl
end
def e1 (A:Option Addr) (c lo s:Nat):Option Addr:=if c=lo then A else A.map (·.add (lo * s))
theorem O0 {β:Type} {size:Nat}:∀ (lo:Nat) {ess:List (List β)},(∀ x∈ess,x.length=size)→(ess.drop lo).flatten=ess.flatten.drop (lo * size)
 | 0,ess,_=>by simp
 | lo+1, [],_=>by simp
 | lo+1,x::ess,h=>by
  have hx:=h x List.mem_cons_self;rw [List.drop_succ_cons,O0 lo fun y aG=>h y (List.mem_cons_of_mem _ aG),List.flatten_cons,Nat.succ_mul,Nat.add_comm,← List.drop_drop];congr 1;rw [List.drop_append_of_le_length (by omega),List.drop_of_length_le (by omega)];rfl
theorem Kd {β:Type} {size:Nat}:∀ (n:Nat) {ess:List (List β)},(∀ x∈ess,x.length=size)→(ess.take n).flatten=ess.flatten.take (n * size)
 | 0,ess,_=>by simp
 | n+1, [],_=>by simp
 | n+1,x::ess,h=>by
  have hx:=h x List.mem_cons_self;have e:(n+1) * size=size+n * size:=by rw [Nat.succ_mul,Nat.add_comm]
  rw [List.take_succ_cons,List.flatten_cons,Kd n fun y aG=>h y (List.mem_cons_of_mem _ aG),List.flatten_cons,e,List.take_append,hx,Nat.add_sub_cancel_left,List.take_of_length_le (by rw [hx];omega:x.length≤size+n * size)]
theorem cD.drop {α β:Type} {P:β→α→Prop}:∀ (n:Nat) {l:List β} {m:List α},cD P l m→cD P (l.drop n) (m.drop n)
 | 0,_,_,h=>h
 | n+1, [], [],_=>trivial
 | n+1,_::_,_::_,h=>cD.drop n h.2
theorem cD.take {α β:Type} {P:β→α→Prop}:∀ (n:Nat) {l:List β} {m:List α},cD P l m→cD P (l.take n) (m.take n)
 | 0,_,_,_=>trivial
 | n+1, [], [],_=>trivial
 | n+1,_::_,_::_,h=>⟨h.1,cD.take n h.2⟩
theorem κ.aH.sub {α:Type} {R:κ α} {by_ c:Nat} {A:Option Addr} {l:List α} {w:World} (h:R.aH by_ w A c l) (lo ao:Nat) (γ:lo≤ao) (aa:ao≤l.length):R.aH by_ w (e1 A c lo R.size) (c - lo) ((l.drop lo).take (ao - lo)):=by
 obtain ⟨g1,g2,g3,g4,ess,g5,g6⟩:=h;have hlen:((l.drop lo).take (ao - lo)).length=ao - lo:=by rw [List.length_take,List.length_drop];omega
 have hu:∀ x∈ess,x.length=R.size:=fun x hx=>by obtain ⟨a,ha⟩:=g5.left x hx;exact R.len ha
 refine ⟨by rw [hlen];omega,by omega,by rw [hlen];exact Nat.le_trans (Nat.mul_le_mul_right _ (by omega)) g3,fun hn=> ?_,(ess.drop lo).take (ao - lo),(g5.drop lo).take _, ?_⟩
 ·unfold e1 at hn;split at hn
  ·omega
  ·cases A with
   | none=>have:=g4 rfl;omega
   | some a=>cases hn
 ·have anT:∀ x∈ess.drop lo,x.length=R.size:=fun x hx=>hu x (List.mem_of_mem_drop hx);have DG:ess.length=l.length:=g5.length;rw [Kd _ anT,O0 _ hu,hlen];have oo:=w5 hu;refine ⟨?_,fun aE=> ?_⟩
  ·rw [List.length_take,List.length_drop,oo,DG,← Nat.sub_mul,Nat.min_eq_left (Nat.mul_le_mul_right _ (by omega))]
  ·obtain ⟨b,o,rfl,hc⟩:=g6.2 (by omega);have dK:¬ c=lo:=by omega
   refine ⟨b,o+lo * R.size,by unfold e1;rw [if_neg dK];simp [Addr.add],fun j u ay=> ?_⟩;rw [List.getElem?_take] at ay;split at ay
   ·rw [List.getElem?_drop] at ay;rw [Nat.add_assoc];exact hc _ u ay
   ·cases ay
section
variable {P:Program} {n:Nat} {E cE:List (Nat×Value)} {w:World} {d:Option Nat} {ty:TypeId} {pos:String} {bn:Array Edge} {g:Option (Nat×Bool)} {x y z:Operand} {t:TypeId}
theorem asR {A:Option Addr} {len cap e s:Nat} {k k':IntKind} (lo ao:Nat) {i j:Int} (aA:P.underlying t=some (.slice e)) (hs:ej P e s) (hx:ev E x=some (.slice A len cap)) (aG:ev E y=some (.int k i)) (bw:ev E z=some (.int k' j)) (xj:i=(lo:Int)) (Bt:j=(ao:Int)) (γ:lo≤ao) (aa:ao≤cap):
  c8 P E ⟨d, .slice t x (some y) (some z) none,ty,pos,bn,g⟩ w (.slice (e1 A cap lo s) (ao - lo) (cap - lo)) w:=fun n a ha=>by
 subst xj;subst Bt;have j1:P.underlying t=some (.slice (P.elem t)):=by simp [Program.elem,aA]
 have nd:P.elem t=e:=by simp [Program.elem,aA]
 have au:=run_slice_lh (P:=P) (w:=w) t A len cap j1 k k' (lo:Int) (ao:Int) (by omega) (by omega) (by omega);have a1:=run_sliceAt_slice (P:=P) (w:=w) t (.slice A len cap) (some (.int k (lo:Int))) (some (.int k' (ao:Int))) none j1;rw [nd,hs w] at au;simp only [execOp,ha.ev hx,ha.ev aG,ha.ev bw,Option.map,a1,au,Sem.run_bind,Result.andThen_ok,Sem.run_pure,sliced,Int.toNat_natCast,e1]
end
end Go.Proofs.YtlikikpgmmkjbaaGreat
set_option linter.unusedVariables false
set_option linter.unusedSimpArgs false
namespace Go.Proofs.YtlikikpgmmkjbaaGreat
open Tryz
open Go.RowKit

section
variable {P:Program} {n:Nat} {E cE:List (Nat×Value)} {a:Act} {w w' w0 aM:World} {Q:Exit→Act→World→Prop} {ops:Array Oper}
variable {d:Option Nat} {ty:TypeId} {pos:String} {bn:Array Edge} {g:Option (Nat×Bool)} {x y z:Operand} {t:TypeId} {rest:List Oper} {v:Value}
theorem asL {f:FuncId} (hf:Enters P f) {xs:Array Operand} {ts:Array TypeId} {args tr:List Value} {a:Act} (ha:dH n E a) (hx:ev E x=some (.func (.func f) #[] tr.toArray)) (he:gd E xs.toList=some args):
  (execOp a.eval ⟨d, .call {callee:= .value x,args:=xs,argTypes:=ts},ty,pos,bn,g⟩).run P w= .ok (.enter f (args++tr).toArray) w:=by
 obtain ⟨fn,γ,aa,au⟩:=hf;have hm:xs.map a.eval=args.toArray:=by rw [← ha.gd he];apply Array.ext';simp
 have hp:Sem.run P program w= .ok P w:=rfl;unfold execOp;simp only [resolve,invoke,Deferred.ofValue,ha.ev hx,callFunc,Sem.run_bind,Sem.run_pure,Result.andThen_ok,hm,hp,γ,aa,au,Array.empty_append,Bool.false_eq_true,if_false];simp
theorem Wb {d:Nat} {f:FuncId} (hf:Enters P f) {xs:Array Operand} {ts:Array TypeId} {args tr:List Value} (hx:ev E x=some (.func (.func f) #[] tr.toArray)) (he:gd E xs.toList=some args) (hd:Nat.blt d n=true)
  (h:Calls P f (args++tr).toArray w fun e w'=>∃ v,e= .returned v∧cm P n ops Q rest ((d,v)::E) w'):cm P n ops Q (⟨some d, .call {callee:= .value x,args:=xs,argTypes:=ts},ty,pos,bn,none⟩::rest) E w:=fun a ha=>by
 refine CW Z ?_;unfold Oper.wp;rw [asL hf ha hx he];refine Calls.mono h fun e w' ey=> ?_;obtain ⟨v,rfl,h⟩:=ey;exact h _ (ha.put hd v)
theorem wW {A:Option Addr} {len cap e:Nat} (aA:P.underlying t=some (.slice e)) (hx:ev E x=some (.slice A len cap)):c8 P E ⟨d, .call {callee:= .builtin .cap,args:=#[x],argTypes:=#[t]},ty,pos,bn,g⟩ w (.int .i64 (cap:Int)) w :=
 bi (vs:= [.slice A len cap]) (by simp only [gd,hx]) fun cs=>by
  have γ:P.underlying t=some (.slice (P.elem t)):=by simp [Program.elem,aA]
  have:=run_cap_slice (P:=P) (w:=w) t ty A len cap γ;simp only [builtin,Sem.run_bind,this,Result.andThen_ok,Sem.run_pure];rfl
theorem ne {fn:Func} {R:Ending→World→Prop} (h:T n (bodyPost P fn R) E w):N n (bodyPost P fn R) E w:=fun a ha=>h a ha
theorem xN {A:Option Addr} {len cap e s:Nat} {k:IntKind} (aA:P.underlying t=some (.slice e)) (hs:ej P e s) (hx:ev E x=some (.slice A len cap)) (aG:ev E y=some (.int k (cap:Int))):c8 P E ⟨d, .slice t x none (some y) none,ty,pos,bn,g⟩ w (.slice A cap cap) w:=fun n a ha=>by
 have γ:P.underlying t=some (.slice (P.elem t)):=by simp [Program.elem,aA]
 have aa:P.elem t=e:=by simp [Program.elem,aA]
 have au:=run_slice_h (P:=P) (w:=w) t A len cap γ k (cap:Int) (by omega) (by omega);have a1:=run_sliceAt_slice (P:=P) (w:=w) t (.slice A len cap) none (some (.int k (cap:Int))) none γ;rw [aa,hs w] at au;simp only [execOp,ha.ev hx,ha.ev aG,Option.map,a1,au,Sem.run_bind,Result.andThen_ok,Sem.run_pure,sliced,Int.toNat_natCast,Nat.sub_zero];cases A with
 | none=>simp
 | some a=>simp [Addr.add]
end
def Raw (aB size j:Nat) (w:World) (A:Option Addr) (c:Nat):Prop :=
 (A=none∧c=0)∨∃ (b:Nat) (cur:List Value) (e:TypeId),A=some ⟨b,0,none⟩∧aB≤b∧aK w b cur e (0,0)∧∀ i,i<c→∃ m:Int,cur[i * size+j]? =some (.int .i64 m)
section
variable {w w':World} {aB size j c i:Nat} {A:Option Addr} {S:List Nat}
theorem Raw.of {α:Type} {R:κ α} {e by_:Nat} {l:List α} (h:R.aF e by_ w aB (κ.af A) A c l) (ay:Nat.blt j R.size=true) (hr:∀ u,R.raw j u→∃ m:Int,u= .int .i64 m):Raw aB R.size j w A c:=by
 rw [Nat.blt_eq] at ay;obtain ⟨_,ps,_,_,⟨_,bJ⟩,_⟩:=h;rcases bJ with ⟨γ,_⟩ | ⟨b,cap,cur,γ,aa,au,a1,bO,b_,dW,fu⟩
 ·injection γ with γ _ aa;exact .inl ⟨γ,aa⟩
 ·injection γ with γ _ p5
  subst p5;refine .inr ⟨b,cur.toList,e,γ,aa,by unfold aK;simpa using au,fun i ao=> ?_⟩;have bl:i * R.size+j<cur.size:=by
   rw [b_];exact Nat.lt_of_lt_of_le (by omega:i * R.size+j<i * R.size+R.size) (by rw [← Nat.succ_mul];exact Nat.mul_le_mul_right _ ao)
  have I:=fu (i * R.size+j) _ (Array.getElem?_eq_getElem bl);have hm:(i * R.size+j) % R.size=j:=by rw [Nat.add_comm,Nat.add_mul_mod_self_right,Nat.mod_eq_of_lt ay]
  rw [hm] at I;obtain ⟨m,hm⟩:=hr _ I;exact ⟨m,by rw [Array.getElem?_toList,Array.getElem?_eq_getElem bl,hm]⟩
theorem Raw.lt (h:Raw aB size j w A c):∀ q∈κ.af A,aB≤q∧q<w.heap.size:=by
 intro q I;rcases h with ⟨rfl,_⟩ | ⟨b,cur,e,rfl,γ,aa,_⟩
 ·simp [κ.af] at I
 ·obtain rfl:q=b:=List.mem_singleton.1 I;exact ⟨γ,aa.lt⟩
theorem Raw.later (h:Raw aB size j w A c) (x:Ext w w'):Raw aB size j w' A c:=by
 rcases h with h | ⟨b,cur,e,γ,aa,au,a1⟩
 ·exact .inl h
 ·exact .inr ⟨b,cur,e,γ,aa,au.later x,a1⟩
theorem Raw.mod (h:Raw aB size j w A c) (m:Mod S w w') (hd:∀ q∈κ.af A,q∉S):Raw aB size j w' A c:=by
 rcases h with h | ⟨b,cur,e,γ,aa,au,a1⟩
 ·exact .inl h
 ·exact .inr ⟨b,cur,e,γ,aa,au.mod m (hd b (by rw [γ];exact List.mem_singleton.2 rfl)),a1⟩
theorem Raw.bA (h:Raw aB size j w A c) (aE:0<c):A=some ⟨b' A,cX A,none⟩:=by
 rcases h with ⟨_,h⟩ | ⟨b,cur,e,rfl,_⟩
 ·omega
 ·rfl
theorem Raw.get (h:Raw aB size j w A c) (ao:i<c):∃ m:Int,w.cell? ⟨b' A,cX A+i * size+j,none⟩=some (.int .i64 m):=by
 rcases h with ⟨_,h⟩ | ⟨b,cur,e,rfl,_,au,a1⟩
 ·omega
 ·obtain ⟨m,hm⟩:=a1 i ao;exact ⟨m,by rw [show (⟨b' (some ⟨b,0,none⟩),cX (some ⟨b,0,none⟩)+i * size+j,none⟩:Addr)=⟨b,i * size+j,none⟩ from by simp [b',cX],au.cell,hm]⟩
theorem Raw.set (h:Raw aB size j w A c) (ao:i<c) (v:Int):Raw aB size j (w.setCell ⟨b' A,cX A+i * size+j,none⟩ (.int .i64 v)) A c:=by
 rcases h with ⟨_,h⟩ | ⟨b,cur,e,rfl,γ,au,a1⟩
 ·omega
 ·rw [show (⟨b' (some ⟨b,0,none⟩),cX (some ⟨b,0,none⟩)+i * size+j,none⟩:Addr)=⟨b,i * size+j,none⟩ from by simp [b',cX]];refine .inr ⟨b,_,e,Z,γ,au.set _ _,fun k av=> ?_⟩;obtain ⟨m,hm⟩:=a1 k av;by_cases he:i * size+j=k * size+j
  ·rw [← he] at hm ⊢;exact ⟨v,List.getElem?_set_self (List.getElem?_eq_some_iff.1 hm).1⟩
  ·exact ⟨m,by rw [List.getElem?_set_ne he];exact hm⟩
theorem Raw.free (h:Raw aB size j w A c) (ao:i<c) (k:Nat):w.frozen? ⟨b' A,k,none⟩=false:=by
 rcases h with ⟨_,h⟩ | ⟨b,cur,e,rfl,γ,au,a1⟩
 ·omega
 ·exact au.free k (.inr (Nat.zero_le _))
end
theorem HT {P:Program} {n:Nat} {E:List (Nat×Value)} {w:World} {Q:Exit→Act→World→Prop} {ops:Array Oper} {ty:TypeId} {pos:String} {bn:Array Edge} {x y:Operand} {t:TypeId} {rest:List Oper} {aB size j c i:Nat} {A:Option Addr} {v:Int}
  (h:Raw aB size j w A c) (ao:i<c) (hx:ev E x=some (.pointer (some ⟨b' A,cX A+i * size+j,none⟩))) (aG:ev E y=some (.int .i64 v)) (hs:ej P t 1)
  (av:∀ aM,Mod (κ.af A) w aM→Raw aB size j aM A c→cm P n ops Q rest E aM):cm P n ops Q (⟨none, .store t x y,ty,pos,bn,none⟩::rest) E w:=by
 obtain ⟨m,hm⟩:=h.get ao;have hA:=h.bA (by omega);have hf:=h.free ao (cX A+i * size+j);have tT:Mod (κ.af A) w (w.setCell ⟨b' A,cX A+i * size+j,none⟩ (.int .i64 v)):=by
  have:=Mod.setCell w ⟨b' A,cX A+i * size+j,none⟩ (.int .i64 v);refine this.sub fun q I=> ?_;rw [hA];exact List.mem_singleton.2 (List.mem_singleton.1 I)
 refine us (w':=w.setCell ⟨b' A,cX A+i * size+j,none⟩ (.int .i64 v)) (fun n a ha=> ?_) (av _ tT (h.set ao v));have fM:(storeVar t ⟨b' A,cX A+i * size+j,none⟩ (.int .i64 v)).run P w= .ok () (w.setCell ⟨b' A,cX A+i * size+j,none⟩ (.int .i64 v)):=by
  have mQ:(Value.int .i64 v).cells=#[.int .i64 v]:=rfl;unfold storeVar;simp only [mQ,Sem.run_bind,hs w,Result.andThen_ok,List.size_toArray,List.length_cons,List.length_nil,ne_eq,Nat.zero_add,not_true_eq_false,if_false,storeCells];have:(⟨b' A,cX A+i * size+j,none⟩:Addr).add 0=⟨b' A,cX A+i * size+j,none⟩:=rfl;rw [this,run_store P w _ (.int .i64 v) _ rfl,hm];simp only [hf,Bool.false_eq_true,if_false,Result.andThen_ok,Sem.run_pure]
 simp only [execOp,ha.ev hx,ha.ev aG,Instr.storeAt,Instr.sureAddr,Sem.run_bind,Sem.run_pure,Result.andThen_ok,fM]
open Tryz
end Go.Proofs.YtlikikpgmmkjbaaGreat
