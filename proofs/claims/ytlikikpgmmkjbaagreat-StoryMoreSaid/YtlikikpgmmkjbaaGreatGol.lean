import Derived.Test.YtlikikpgmmkjbaaGreatBas
import Derived.Test.YtlikikpgmmkjbaaGreatProg
import Derived.Laws.Cells
import Derived.Laws.Entries
import Derived.Laws.NewFold
import Derived.Laws.CopyRow
import Derived.IntWalk
import Derived.LoopN
import Derived.WalkKit
import Derived.Laws.MakeOwn
import Derived.Laws.Cover1
import Derived.Laws.Small
import Derived.Laws.Pointers
import Derived.MapKept
import Derived.WideMake
set_option linter.unusedVariables false
set_option linter.unusedSimpArgs false
set_option maxRecDepth 100000
set_option maxHeartbeats 4000000
namespace Go.Proofs.YtlikikpgmmkjbaaGreat
end Go.Proofs.YtlikikpgmmkjbaaGreat
set_option linter.unusedVariables false
set_option linter.unusedSimpArgs false
namespace Go.Proofs.YtlikikpgmmkjbaaGreat
open Go.RowKit

def okI (n:Int):Prop:=(Lit.int .i64 n).wf=true
theorem okI_iff {n:Int}:okI n↔ -9223372036854775808≤n∧n≤9223372036854775807:=by
 unfold okI
 simp [Lit.wf,IntKind.min,IntKind.max,IntKind.signed,IntKind.bits]
def repI:Rep Int:=Rep.flat 1 (fun n=> [.int .i64 n]) okI (fun _ u=>∃ n:Int,u= .int .i64 n) (fun _=>rfl) (by intro a u hu;simp at hu;subst hu;rfl) (by
 intro a j u hu
 cases j with
 | zero=>simp at hu;exact ⟨a,hu.symm⟩
 | succ j=>simp at hu)
def repB:Rep Bool:=Rep.flat 1 (fun n=> [.bool n]) (fun _=>True) (fun _ u=>∃ n:Bool,u= .bool n) (fun _=>rfl) (by intro a u hu;simp at hu;subst hu;rfl) (by
 intro a j u hu
 cases j with
 | zero=>simp at hu;exact ⟨a,hu.symm⟩
 | succ j=>simp at hu)
def repS:Rep ByteArray:=Rep.flatO 1 (fun n=> [.string n]) (fun s=>s.size≤140737488351232) (fun _ u=>∃ n:ByteArray,u= .string n∧n.size≤140737488351232) (fun _=>rfl) (by intro a u hu;simp at hu;subst hu;rfl) (by
 intro a ok j u hu
 cases j with
 | zero=>simp at hu;exact ⟨a,hu.symm,ok⟩
 | succ j=>simp at hu)
theorem repI_plain:repI.Plain:=Rep.flat_plain
theorem repS_bare:repS.Bare:=Rep.flatO_bare
section
variable {by_:Nat} {w:World} {A:Option Addr} {c:Nat}
theorem repI_at {l:List Int} (h:repI.SHas by_ w A c l) (h0:0<l.length):∃ b o,A=some ⟨b,o,none⟩∧∀ (i:Nat) (a:Int),l[i]? =some a→w.cell? ⟨b,o+i,none⟩=some (.int .i64 a):=by
 obtain ⟨b,o,e,hc⟩:=h.at_ h0
 refine ⟨b,o,e,fun i a ha=> ?_⟩
 obtain ⟨es,⟨rfl,_⟩,hj⟩:=hc i a ha
 have:=hj 0 _ rfl
 simpa [repI,Rep.flat] using this
theorem repS_at {l:List ByteArray} (h:repS.SHas by_ w A c l) (h0:0<l.length):∃ b o,A=some ⟨b,o,none⟩∧∀ (i:Nat) (a:ByteArray),l[i]? =some a→w.cell? ⟨b,o+i,none⟩=some (.string a):=by
 obtain ⟨b,o,e,hc⟩:=h.at_ h0
 refine ⟨b,o,e,fun i a ha=> ?_⟩
 obtain ⟨es,⟨rfl,_⟩,hj⟩:=hc i a ha
 have:=hj 0 _ rfl
 simpa [repS,Rep.flatO] using this
end
theorem repI_opens (w:World) (cs:List Value) (h:(.int .i64:Sh).Ok w cs):∃ a,repI.has w cs a:=by
 obtain ⟨n,rfl,hn⟩:=h
 exact ⟨n,rfl,hn⟩
theorem repI_ok {by_:Nat} {w:World} {A:Option Addr} {c:Nat} {l:List Int} (h:repI.SHas by_ w A c l):∀ a∈l,okI a:=Rep.SHas.all_ (R:=repI) (Q:=okI) (fun {w cs a} (h:repI.has w cs a)=>(show cs= [.int .i64 a]∧okI a from h).2) h
theorem info_int:(Tryz.prog.info? 3).map (fun i=>(i.zero,i.size,i.bytes))=some (some (.int .i64 0),1,8):=by kernel_rfl
theorem get_of {α:Type} {l:List α} {i:Nat} (h:i<l.length):∃ a,l[i]? =some a:=⟨_,List.getElem?_eq_getElem h⟩
end Go.Proofs.YtlikikpgmmkjbaaGreat
namespace Go.Proofs.YtlikikpgmmkjbaaGreat
open Go.RowKit
theorem zI:∀ (j:Nat) u,(Value.int .i64 0).cells[j]? =some u→repI.raw j u:=by
 intro j u hu
 have hu:(#[Value.int .i64 0]:Array Value)[j]? =some u:=hu
 match j,hu with
 | 0,hu=>exact ⟨0,(Option.some.inj hu).symm⟩
 | j+1,hu=>cases hu
end Go.Proofs.YtlikikpgmmkjbaaGreat
set_option linter.unusedVariables false
set_option linter.unusedSimpArgs false
namespace Go.Proofs.YtlikikpgmmkjbaaGreat
open Go.RowKit

abbrev Env:=List (Nat×Value)
def look:List (Nat×Value)→Nat→Option Value
 | [],_=>none
 | (k,v)::r,t=>match Nat.beq k t with | true=>some v | false=>look r t
structure Agr (n:Nat) (E:List (Nat×Value)) (a:Act):Prop where
 d:a.defers= []
 s:a.tmps.size=n
 g:∀ t v,look E t=some v→a.tmps[t]? =some v
def ev (E:List (Nat×Value)):Operand→Option Value
 | .tmp t=>look E t
 | .const v=>some v
 | .global g=>some (.pointer (some ⟨g,0,none⟩))
 | .func f=>some (.func (.func f) #[] #[])
def evs (E:List (Nat×Value)):List Operand→Option (List Value)
 | []=>some []
 | x::r=>match ev E x with
  | some v=>match evs E r with
   | some l=>some (v::l)
   | none=>none
  | none=>none
section
variable {P:Program} {n:Nat} {E E':List (Nat×Value)} {a:Act} {w w' w1:World} {Q:Exit→Act→World→Prop} {ops:Array Oper} {v:Value}
theorem Agr.ev {x:Operand} (h:Agr n E a) (hx:ev E x=some v):a.eval x=v:=by
 cases x with
 | tmp t=>have:=h.g t v hx;simp [Act.eval,this]
 | const u=>exact Option.some.inj hx
 | global g=>exact Option.some.inj hx
 | func f=>exact Option.some.inj hx
theorem Agr.evs (h:Agr n E a):∀ {l:List Operand} {vs:List Value},evs E l=some vs→l.map a.eval=vs
 | [],_,e=>by simp only [Proofs.YtlikikpgmmkjbaaGreat.evs] at e;exact Option.some.inj e
 | x::r,vs,e=>by
  simp only [Proofs.YtlikikpgmmkjbaaGreat.evs] at e
  cases hx:Proofs.YtlikikpgmmkjbaaGreat.ev E x with
  | none=>rw [hx] at e;cases e
  | some v =>
   rw [hx] at e
   simp only at e
   cases hr:Proofs.YtlikikpgmmkjbaaGreat.evs E r with
   | none=>rw [hr] at e;cases e
   | some l =>
    rw [hr] at e
    simp only at e
    obtain rfl:=Option.some.inj e
    rw [List.map_cons,h.ev hx,Agr.evs h hr]
theorem Agr.put {d:Nat} (h:Agr n E a) (hd:Nat.blt d n=true) (v:Value):Agr n ((d,v)::E) (a.put (some d) v):=by
 rw [Nat.blt_eq] at hd
 refine ⟨h.d,by simp [Act.put,h.s],fun t u hu=> ?_⟩
 simp only [look] at hu
 cases hb:Nat.beq d t with
 | true =>
  rw [hb] at hu
  obtain rfl:d=t:=Nat.eq_of_beq_eq_true hb
  obtain rfl:=Option.some.inj hu
  simp [Act.put,h.s,hd]
 | false =>
  rw [hb] at hu
  have hne:d≠t:=Nat.ne_of_beq_eq_false hb
  simp only [Act.put]
  rw [Array.getElem?_setIfInBounds_ne hne]
  exact h.g t u hu
theorem Agr.none (h:Agr n E a) (v:Value):Agr n E (a.put none v):=h
def Sub (E' E:List (Nat×Value)):Prop:=∀ t v,look E' t=some v→look E t=some v
theorem Sub.nil:Sub [] E:=fun t v h=>by simp [look] at h
theorem Sub.cons {k:Nat} (h:look E k=some v) (hs:Sub E' E):Sub ((k,v)::E') E:=fun t u hu=>by
 simp only [look] at hu
 cases hb:Nat.beq k t with
 | true=>rw [hb] at hu;obtain rfl:k=t:=Nat.eq_of_beq_eq_true hb;obtain rfl:=Option.some.inj hu;exact h
 | false=>rw [hb] at hu;exact hs t u hu
theorem Agr.sub (h:Agr n E a) (hs:Sub E' E):Agr n E' a:=⟨h.d,h.s,fun t v hv=>h.g t v (hs t v hv)⟩
def W (P:Program) (n:Nat) (c:Code) (Q:Exit→Act→World→Prop) (E:List (Nat×Value)) (w:World):Prop:=∀ a,Agr n E a→c.wp P Q a w
def N (n:Nat) (Q:Exit→Act→World→Prop) (E:List (Nat×Value)) (w:World):Prop:=∀ a,Agr n E a→Q .normal a w
def X (n:Nat) (Q:Exit→Act→World→Prop) (id:Nat) (E:List (Nat×Value)) (w:World):Prop:=∀ a,Agr n E a→Q (.exit id) a w
def T (n:Nat) (Q:Exit→Act→World→Prop) (E:List (Nat×Value)) (w:World):Prop:=∀ a,Agr n E a→Q .ret a w
def WL (P:Program) (n:Nat) (ops:Array Oper) (Q:Exit→Act→World→Prop) (l:List Oper) (E:List (Nat×Value)) (w:World):Prop:=∀ a,Agr n E a→wpList P ops Q l a w
abbrev Th (P:Program) (y:Code) (Q:Exit→Act→World→Prop):Exit→Act→World→Prop:=Exit.then (fun a w=>y.wp P Q a w) Q
theorem sq {x y:Code} (h:W P n x (Th P y Q) E w):W P n (.seq x y) Q E w:=fun a ha=>wp_seq (h a ha)
theorem sk (h:N n Q E w):W P n .skip Q E w:=fun a ha=>wp_skip (h a ha)
theorem rt (h:T n Q E w):W P n .ret Q E w:=fun a ha=>wp_ret (h a ha)
theorem xt {id:Nat} (h:X n Q id E w):W P n (.exit id) Q E w:=fun a ha=>wp_exit (h a ha)
theorem bk {id:Nat} {c:Code} (h:W P n c (Exit.inBlock id Q) E w):W P n (.block id c) Q E w:=fun a ha=>wp_block (h a ha)
theorem rg {id:Nat} {l:List Oper} (h:WL P n l.toArray Q l E w):W P n (.region id l.toArray false) Q E w:=fun a ha=>wp_region_lit (h a ha)
theorem cT {c:Operand} {x y:Code} (hc:ev E c=some (.bool true)) (h:W P n x Q E w):W P n (.cond c x y) Q E w:=fun a ha=>wp_cond_true (ha.ev hc) (h a ha)
theorem cF {c:Operand} {x y:Code} (hc:ev E c=some (.bool false)) (h:W P n y Q E w):W P n (.cond c x y) Q E w:=fun a ha=>wp_cond_false (ha.ev hc) (h a ha)
theorem cB {c:Operand} {x y:Code} (b:Bool) (hc:ev E c=some (.bool b)) (h1:b=true→W P n x Q E w) (h2:b=false→W P n y Q E w):W P n (.cond c x y) Q E w :=
 fun a ha=>wp_cond_split (ha.ev hc) (fun h=>h1 h a ha) (fun h=>h2 h a ha)
theorem cb {c:Operand} {x y:Code} {b:Bool} (hc:ev E c=some (.bool b)) (h1:b=true→W P n x Q E w) (h2:b=false→W P n y Q E w):W P n (.cond c x y) Q E w:=cB b hc h1 h2
theorem nl (h:N n Q E w):WL P n ops Q [] E w:=h
theorem nT {y:Code} (h:W P n y Q E w):N n (Th P y Q) E w:=h
theorem nB {id:Nat} (h:N n Q E w):N n (Exit.inBlock id Q) E w:=h
theorem xT {y:Code} {id:Nat} (h:X n Q id E w):X n (Th P y Q) id E w:=h
theorem xK {K:Act→World→Prop} {id:Nat} (h:X n Q id E w):X n (Exit.then K Q) id E w:=h
theorem xB {id:Nat} (h:N n Q E w):X n (Exit.inBlock id Q) id E w:=fun a ha=>by simp only [Exit.inBlock,if_true];exact h a ha
theorem xN {id id':Nat} (hne:Nat.beq id' id=false) (h:X n Q id' E w):X n (Exit.inBlock id Q) id' E w:=fun a ha=>by simp only [Exit.inBlock,if_neg (Nat.ne_of_beq_eq_false hne)];exact h a ha
theorem tT {y:Code} (h:T n Q E w):T n (Th P y Q) E w:=h
theorem tK {K:Act→World→Prop} (h:T n Q E w):T n (Exit.then K Q) E w:=h
theorem tB {id:Nat} (h:T n Q E w):T n (Exit.inBlock id Q) E w:=h
def argEnv:Nat→List Value→List (Nat×Value)
 | _, []=> []
 | i,v::r=>(i,v)::argEnv (i+1) r
theorem argEnv_look:∀ (l:List Value) (i t:Nat) (v:Value),look (argEnv i l) t=some v→∃ j,t=i+j∧l[j]? =some v
 | [],_,_,_,h=>by simp [argEnv,look] at h
 | u::r,i,t,v,h=>by
  simp only [argEnv,look] at h
  cases hb:Nat.beq i t with
  | true=>rw [hb] at h;exact ⟨0,by have:=Nat.eq_of_beq_eq_true hb;omega,by simpa using h⟩
  | false =>
   rw [hb] at h
   obtain ⟨j,e,hj⟩:=argEnv_look r (i+1) t v h
   exact ⟨j+1,by omega,by simpa using hj⟩
theorem calls_W {f:FuncId} {fn:Func} {c:Code} {l:List Value} {R:Ending→World→Prop} (hf:P.funcs[f]? =some fn) (hb:fn.body=some c) (hn:fn.ntmps=n) (hl:Nat.ble l.length n=true)
  (h:W P n c (bodyPost P fn R) (argEnv 0 l) w):Calls P f l.toArray w R:=by
 refine calls_of_wp hf hb (h _ ⟨rfl, ?_,fun t v hv=> ?_⟩)
 ·have:=Nat.le_of_ble_eq_true hl
  simp only [Array.size_append,Array.size_replicate,hn,List.size_toArray];omega
 ·obtain ⟨j,e,hj⟩:=argEnv_look l 0 t v hv
  have hlt:=(List.getElem?_eq_some_iff.1 hj).1
  rw [Array.getElem?_append_left (by simp;omega)]
  simpa [show t=j by omega] using hj
inductive Res (P:Program) (E:List (Nat×Value)) (w:World):List ResultVar→List Value→Prop
 | nil:Res P E w [] []
 | tmp {t:Nat} {v:Value} {r:List ResultVar} {vs:List Value} (h:look E t=some v) (hr:Res P E w r vs):Res P E w (.tmp t::r) (v::vs)
 | cell {t:Nat} {ty:TypeId} {p:Addr} {v:Value} {r:List ResultVar} {vs:List Value} (h:look E t=some (.pointer (some p))) (hl:(loadVar ty p).run P w= .ok v w) (hr:Res P E w r vs):Res P E w (.cell t ty::r) (v::vs)
def tup:List Value→Value
 | [v]=>v
 | vs=> .tuple vs.toArray
theorem Res.run {l:List ResultVar} {vs:List Value} (h:Res P E w l vs) (ha:Agr n E a) (f:ResultVar→Sem Value) (f1:∀ t,f (.tmp t)=pure (a.tmps.getD t undef)) (f2:∀ c t,f (.cell c t)=(asAddr (a.tmps.getD c undef)>>= fun p=>loadVar t p)):
  (l.mapM f).run P w= .ok vs w:=by
 induction h with
 | nil=>rfl
 | @tmp t v r vs h hr ih =>
  have h2:a.tmps.getD t undef=v:=by rw [Array.getD_eq_getD_getElem?,ha.g _ _ h];rfl
  simp only [List.mapM_cons,Sem.run_bind,f1,h2,Sem.run_pure,Result.andThen_ok,ih]
 | @cell t ty p v r vs h hl hr ih =>
  have h2:a.tmps.getD t undef= .pointer (some p):=by rw [Array.getD_eq_getD_getElem?,ha.g _ _ h];rfl
  simp only [List.mapM_cons,Sem.run_bind,f2,h2,asAddr,Sem.run_pure,Result.andThen_ok,hl,ih]
theorem run_results {fn:Func} {vs:List Value} (h:Res P E w fn.results.toList vs) (ha:Agr n E a):(results fn a.tmps).run P w= .ok (tup vs) w:=by
 unfold results
 rw [Array.mapM_eq_mapM_toList]
 simp only [Sem.run_bind,Sem.run_map]
 rw [h.run ha _ (fun _=>rfl) (fun _ _=>rfl)]
 match vs with
 | []=>rfl
 | [v]=>rfl
 | _::_::_=>simp [tup]
theorem tR {fn:Func} {R:Ending→World→Prop} {vs:List Value} (h:Res P E w fn.results.toList vs) (hR:R (.returned (tup vs)) w):T n (bodyPost P fn R) E w :=
 fun a ha=>⟨ha.d,_,run_results h ha,hR⟩
def LI (n:Nat) (I:Nat→List (Nat×Value)→World→Prop) (m:Nat):Act→World→Prop:=fun a w=>∃ m',m'<m∧∃ E',I m' E' w∧Agr n E' a
theorem lp {c:Code} (I:Nat→List (Nat×Value)→World→Prop) (m:Nat) (E':List (Nat×Value)) (h0:I m E' w) (hs:Sub E' E)
  (round:∀ m E w,I m E w→W P n c (Exit.then (LI n I m) Q) E w):W P n (.loop c) Q E w:=fun a ha=>by
 intro b k cs
 have key:∀ m a w,(∃ E,I m E w∧Agr n E a)→∃ e a' w',Q e a' w'∧Arrives P (lone (b.at a (.code c:: .inLoop c::k)) cs w) b k cs e a' w':=by
  intro m
  induction m using Nat.strongRecOn with
  | _ m ih =>
   intro a w ⟨E,hI,ha⟩
   obtain ⟨e,a1,w1,hq,harr⟩:=round m E w hI a ha b (.inLoop c::k) cs
   cases e with
   | normal =>
    obtain ⟨m',hlt,hI1⟩:=hq
    obtain ⟨e2,a2,w2,hq2,harr2⟩:=ih m' hlt a1 w1 hI1
    exact ⟨e2,a2,w2,hq2, .of_steps (Steps.trans harr (.one step_inLoop)) harr2⟩
   | exit id=>exact ⟨_,a1,w1,hq, .pass (x:= .inLoop c) rfl (fun _ _=> .inl (by simp)) harr⟩
   | goto l=>exact ⟨_,a1,w1,hq, .pass (x:= .inLoop c) rfl (fun _ _=> .inl (by simp)) harr⟩
   | ret=>exact ⟨_,a1,w1,hq, .pass (x:= .inLoop c) rfl (fun _ _=> .inl (by simp)) harr⟩
   | panic ch=>exact ⟨_,a1,w1,hq, .pass (x:= .inLoop c) rfl (fun _ _=> .inl (by simp)) harr⟩
   | outgrown=>exact ⟨_,a1,w1,hq, .pass (x:= .inLoop c) rfl (fun _ _=> .inl (by simp)) harr⟩
 obtain ⟨e,a',w',hq,harr⟩:=key m a w ⟨E',h0,ha.sub hs⟩
 exact ⟨e,a',w',hq, .of_steps (.one step_loop) harr⟩
theorem nI {I:Nat→List (Nat×Value)→World→Prop} {m:Nat} (m':Nat) (E':List (Nat×Value)) (h:I m' E' w) (hm:m'<m) (hs:Sub E' E):N n (Exit.then (LI n I m) Q) E w :=
 fun a ha=>⟨m',hm,E',h,ha.sub hs⟩
variable {d:Option Nat} {ty:TypeId} {pos:String} {af:Array Edge} {g:Option (Nat×Bool)} {x y z:Operand} {t:TypeId} {rest:List Oper}
def Runs (P:Program) (E:List (Nat×Value)) (o:Oper) (w:World) (v:Value) (w':World):Prop:=∀ n a,Agr n E a→(execOp a.eval o).run P w= .ok (.value v) w'
def RunU (P:Program) (E:List (Nat×Value)) (o:Oper) (w w':World):Prop:=∀ n a,Agr n E a→(execOp a.eval o).run P w= .ok .skip w'
theorem WL_one {o:Oper} (hg:o.guard=none) {a:Act} (h:o.wp P a w (wpList P ops Q rest) Q):wpList P ops Q (o::rest) a w:=by
 unfold wpList
 rw [if_pos (by simp [Region.wanted,hg])]
 exact .inl h
theorem vl {d:Nat} {op:Op} (hr:Runs P E ⟨some d,op,ty,pos,af,none⟩ w v w') (hd:Nat.blt d n=true) (h:WL P n ops Q rest ((d,v)::E) w'):WL P n ops Q (⟨some d,op,ty,pos,af,none⟩::rest) E w:=fun a ha=>by
 refine WL_one rfl ?_
 unfold Oper.wp
 rw [hr n a ha]
 exact h _ (ha.put hd v)
theorem us {op:Op} (hr:RunU P E ⟨none,op,ty,pos,af,none⟩ w w') (h:WL P n ops Q rest E w'):WL P n ops Q (⟨none,op,ty,pos,af,none⟩::rest) E w:=fun a ha=>by
 refine WL_one rfl ?_
 unfold Oper.wp
 rw [hr n a ha]
 exact h _ ha
def Enters (P:Program) (f:FuncId):Prop:=∃ fn,P.funcs[f]? =some fn∧(fn.name == "runtime.NumGoroutine")=false∧fn.body.isNone=false
theorem run_call {f:FuncId} (hf:Enters P f) {xs:Array Operand} {ts:Array TypeId} {args:List Value} {a:Act} (ha:Agr n E a) (he:evs E xs.toList=some args):
  (execOp a.eval ⟨d, .call {callee:= .value (.func f),args:=xs,argTypes:=ts},ty,pos,af,g⟩).run P w= .ok (.enter f args.toArray) w:=by
 obtain ⟨fn,h1,h2,h3⟩:=hf
 have hm:xs.map a.eval=args.toArray:=by rw [← ha.evs he];apply Array.ext';simp
 exact run_enter f fn h1 h2 h3 xs ts rfl _ hm
theorem ca {d:Nat} {f:FuncId} (hf:Enters P f) {xs:Array Operand} {ts:Array TypeId} {args:List Value} (he:evs E xs.toList=some args) (hd:Nat.blt d n=true)
  (h:Calls P f args.toArray w fun e w'=>∃ v,e= .returned v∧WL P n ops Q rest ((d,v)::E) w'):WL P n ops Q (⟨some d, .call {callee:= .value (.func f),args:=xs,argTypes:=ts},ty,pos,af,none⟩::rest) E w:=fun a ha=>by
 refine WL_one rfl ?_
 unfold Oper.wp
 rw [run_call hf ha he]
 refine Calls.mono h fun e w' hh=> ?_
 obtain ⟨v,rfl,h⟩:=hh
 exact h _ (ha.put hd v)
theorem mv (hx:ev E x=some v):Runs P E ⟨d, .move x,ty,pos,af,g⟩ w v w:=fun n a ha=>by simp only [execOp,ha.ev hx];rfl
theorem as_ (hx:ev E x=some v):Runs P E ⟨d, .assign x,ty,pos,af,g⟩ w v w:=fun n a ha=>by simp only [execOp,ha.ev hx];rfl
theorem ex {l:List Value} {k:Nat} (hx:ev E x=some (.tuple l.toArray)) (hk:l[k]? =some v):Runs P E ⟨d, .extract x k,ty,pos,af,g⟩ w v w:=fun n a ha=>by
 simp only [execOp,ha.ev hx,Instr.extract,List.getElem?_toArray,hk];rfl
theorem nc {p:Addr} (hx:ev E x=some (.pointer (some p))):Runs P E ⟨d, .nilCheck x,ty,pos,af,g⟩ w (.pointer (some p)) w:=fun n a ha=>by simp only [execOp,ha.ev hx];rfl
theorem nt {b:Bool} (hx:ev E x=some (.bool b)):Runs P E ⟨d, .unOp .not t x,ty,pos,af,g⟩ w (.bool !b) w:=fun n a ha=>by
 simp only [execOp,ha.ev hx];cases b<;>rfl
theorem pkT {v:Value} (hx:ev E x=some (.bool true)) (hy:ev E y=some v):Runs P E ⟨d, .pick x y z,ty,pos,af,g⟩ w v w:=fun n a ha=>by
 simp only [execOp,ha.ev hx,ha.ev hy];rfl
theorem pkF {v:Value} (hx:ev E x=some (.bool false)) (hz:ev E z=some v):Runs P E ⟨d, .pick x y z,ty,pos,af,g⟩ w v w:=fun n a ha=>by
 simp only [execOp,ha.ev hx,ha.ev hz];rfl
def gv (c:Bool) (v:Value):Value:=if c=true then v else undef
theorem gt {c:Bool} (hc:c=true) (h:ev E x=some (gv c v)):ev E x=some v:=by rw [h,hc];rfl
theorem pO {b c q:Bool} (hx:ev E x=some (.bool b)) (hy:ev E y=some (.bool true)) (hq:(b == false)=q) (hz:ev E z=some (gv q (.bool c))):Runs P E ⟨d, .pick x y z,ty,pos,af,g⟩ w (.bool (b || c)) w:=fun n a ha=>by
 subst hq
 simp only [execOp,ha.ev hx,ha.ev hy,ha.ev hz];cases b<;>rfl
theorem pA {b c q:Bool} (hx:ev E x=some (.bool b)) (hz:ev E z=some (.bool false)) (hq:(b == true)=q) (hy:ev E y=some (gv q (.bool c))):Runs P E ⟨d, .pick x y z,ty,pos,af,g⟩ w (.bool (b && c)) w:=fun n a ha=>by
 subst hq
 simp only [execOp,ha.ev hx,ha.ev hy,ha.ev hz];cases b<;>rfl
section
variable {k k':IntKind} {i j:Int} {u:TypeId}
theorem run_bin {op:BinOp} {s:Sem Value} (hx:ev E x=some (.int k i)) (hy:ev E y=some (.int k' j)) (h:binOp op t (.int k i) (.int k' j)=s) (hr:s.run P w= .ok v w):Runs P E ⟨d, .binOp op t x y u,ty,pos,af,g⟩ w v w:=fun n a ha=>by
 simp only [execOp,ha.ev hx,ha.ev hy,eqGuard_at_int,h,Sem.run_bind,Sem.run_pure,Result.andThen_ok,hr]
theorem bad (hx:ev E x=some (.int k i)) (hy:ev E y=some (.int k j)) (h:k.wrap (i+j)=i+j):Runs P E ⟨d, .binOp .add t x y u,ty,pos,af,g⟩ w (.int k (i+j)) w:=run_bin hx hy (binOp_add t k i j) (by simp [Op.intArith,h])
theorem bsu (hx:ev E x=some (.int k i)) (hy:ev E y=some (.int k j)) (h:k.wrap (i - j)=i - j):Runs P E ⟨d, .binOp .sub t x y u,ty,pos,af,g⟩ w (.int k (i - j)) w:=run_bin hx hy (binOp_sub t k i j) (by simp [Op.intArith,h])
theorem bmu (hx:ev E x=some (.int k i)) (hy:ev E y=some (.int k j)) (h:k.wrap (i * j)=i * j):Runs P E ⟨d, .binOp .mul t x y u,ty,pos,af,g⟩ w (.int k (i * j)) w:=run_bin hx hy (binOp_mul t k i j) (by simp [Op.intArith,h])
theorem blt (hx:ev E x=some (.int k i)) (hy:ev E y=some (.int k j)):Runs P E ⟨d, .binOp .lss t x y u,ty,pos,af,g⟩ w (.bool (decide (i<j))) w:=run_bin hx hy (binOp_lss t k i j) rfl
theorem ble (hx:ev E x=some (.int k i)) (hy:ev E y=some (.int k j)):Runs P E ⟨d, .binOp .leq t x y u,ty,pos,af,g⟩ w (.bool (decide (i≤j))) w:=run_bin hx hy (binOp_leq t k i j) rfl
theorem bgt (hx:ev E x=some (.int k i)) (hy:ev E y=some (.int k j)):Runs P E ⟨d, .binOp .gtr t x y u,ty,pos,af,g⟩ w (.bool (decide (j<i))) w:=run_bin hx hy (binOp_gtr t k i j) rfl
theorem bge (hx:ev E x=some (.int k i)) (hy:ev E y=some (.int k j)):Runs P E ⟨d, .binOp .geq t x y u,ty,pos,af,g⟩ w (.bool (decide (j≤i))) w:=run_bin hx hy (binOp_geq t k i j) rfl
theorem beq (hx:ev E x=some (.int k i)) (hy:ev E y=some (.int k j)):Runs P E ⟨d, .binOp .eql t x y u,ty,pos,af,g⟩ w (.bool (i == j)) w:=run_bin hx hy (binOp_eql t k i j) rfl
theorem bne (hx:ev E x=some (.int k i)) (hy:ev E y=some (.int k j)):Runs P E ⟨d, .binOp .neq t x y u,ty,pos,af,g⟩ w (.bool (i != j)) w:=run_bin hx hy (binOp_neq t k i j) rfl
end
def Sz (P:Program) (t:TypeId) (k:Nat):Prop:=∀ w,(sizeOf t).run P w= .ok k w
def Ag (P:Program) (t:TypeId) (b:Bool):Prop:=∀ w,(isAgg t).run P w= .ok b w
def Zv (P:Program) (t:TypeId) (v:Value):Prop:=∀ w,(zeroValue t).run P w= .ok v w
def Fd (P:Program) (t:TypeId) (i off:Nat):Prop:=∀ w g o,(Instr.fieldAt t (.pointer (some ⟨g,o,none⟩)) i).run P w= .ok (.pointer (some ⟨g,o+off,none⟩)) w
section
variable {b o k:Nat} {cs:List Value}
theorem fa {i off:Nat} (hf:Fd P t i off) (hx:ev E x=some (.pointer (some ⟨b,o,none⟩))):Runs P E ⟨d, .fieldAddr t x i,ty,pos,af,g⟩ w (.pointer (some ⟨b,o+off,none⟩)) w:=fun n a ha=>by
 simp only [execOp,ha.ev hx,Sem.run_bind,hf w b o,Result.andThen_ok,Sem.run_pure]
theorem ia {e:TypeId} {size len cap:Nat} {ik:IntKind} {i:Int} (j:Nat) (ht:P.underlying t=some (.slice e)) (hs:Sz P e size) (hx:ev E x=some (.slice (some ⟨b,o,none⟩) len cap)) (hi:ev E y=some (.int ik i)) (hj:i=(j:Int)) (hlt:j<len):
  Runs P E ⟨d, .indexAddr t x y,ty,pos,af,g⟩ w (.pointer (some ⟨b,o+j * size,none⟩)) w:=fun n a ha=>by
 subst hj
 simp only [execOp,ha.ev hx,ha.ev hi,Instr.indexAt,asIntOf,Sem.run_bind,Sem.run_pure,Result.andThen_ok,run_underlying ht]
 rw [if_pos ⟨by omega,by omega⟩]
 simp only [Sem.run_bind,hs w,Result.andThen_ok,Sem.run_pure,Int.toNat_natCast,addAt]
def Lds (P:Program) (w:World) (t:TypeId) (p:Addr) (v:Value):Prop:=(loadVar t p).run P w= .ok v w
theorem Lds.one {p:Addr} (ht:Ag P t false) (h:w.cell? p=some v):Lds P w t p v:=by
 unfold Lds loadVar
 simp only [Sem.run_bind,ht w,Result.andThen_ok,Bool.false_eq_true,if_false,run_load,h]
theorem Lds.agg (ht:Ag P t true) (hs:Sz P t cs.length) (h:∀ j v,cs[j]? =some v→w.cell? ⟨b,o+j,none⟩=some v):Lds P w t ⟨b,o,none⟩ (.agg cs.toArray):=by
 unfold Lds loadVar
 simp only [Sem.run_bind,ht w,Result.andThen_ok,if_true,hs w,run_loadCells_list w ⟨b,o,none⟩ cs (fun j v hj=>by rw [addAt];exact h j v hj),Sem.run_pure]
theorem ld {p:Addr} (hx:ev E x=some (.pointer (some p))) (h:Lds P w t p v):Runs P E ⟨d, .load t x,ty,pos,af,g⟩ w v w:=fun n a ha=>by
 unfold Lds at h
 simp only [execOp,ha.ev hx,Instr.loadAt,Instr.sureAddr,Sem.run_bind,Sem.run_pure,Result.andThen_ok,h]
theorem Blk.one {p:Nat} {cur:List Value} {e:TypeId} {fr:Nat×Nat} (h:Blk w b cur e fr) (ht:Ag P t false) (hv:cur[p]? =some v):Lds P w t ⟨b,p,none⟩ v:=Lds.one ht (by rw [h.cell,hv])
theorem Blk.agg {p:Nat} {cur:List Value} {e:TypeId} {fr:Nat×Nat} (h:Blk w b cur e fr) (ht:Ag P t true) (hs:Sz P t cs.length) (hv:(cur.drop p).take cs.length=cs):Lds P w t ⟨b,p,none⟩ (.agg cs.toArray):=
 Lds.agg ht hs fun j v hj=>by
  rw [h.cell,← hj]
  have hl:=(List.getElem?_eq_some_iff.1 hj).1
  conv=>rhs;rw [← hv]
  rw [List.getElem?_take_of_lt hl,List.getElem?_drop]
theorem bx {op:Op} {d:Nat} {cs:List Value} (hop:op= .box t x) (hx:ev E x=some v) (hc:v.cells=cs.toArray) (hd:Nat.blt d n=true)
  (h:∀ w1 b,Ext w w1→w.heap.size≤b→Blk w1 b cs t (0,0)→WL P n ops Q rest ((d, .pointer (some ⟨b,0,none⟩))::E) w1):WL P n ops Q (⟨some d,op,ty,pos,af,none⟩::rest) E w:=by
 subst hop
 refine vl (w':=w.alloc (.cells v.cells t)) (v:= .pointer (some ⟨w.heap.size,0,none⟩)) (fun n a ha=> ?_) hd (h _ _ ((Below.refl _ w).alloc (Nat.le_refl _) _) (Nat.le_refl _) (by rw [hc];exact Blk.new w cs t (0,0)))
 simp only [execOp,ha.ev hx,Instr.box,newVar,newRow,Sem.run_bind,run_newObj_alloc,Result.andThen_ok,Sem.run_pure]
theorem al {op:Op} {d:Nat} {cs:List Value} (hop:op= .alloc t) (hz:Zv P t v) (hc:v.cells=cs.toArray) (hd:Nat.blt d n=true)
  (h:∀ w1 b,Ext w w1→w.heap.size≤b→Blk w1 b cs t (0,0)→WL P n ops Q rest ((d, .pointer (some ⟨b,0,none⟩))::E) w1):WL P n ops Q (⟨some d,op,ty,pos,af,none⟩::rest) E w:=by
 subst hop
 refine vl (w':=w.alloc (.cells v.cells t)) (v:= .pointer (some ⟨w.heap.size,0,none⟩)) (fun n a ha=> ?_) hd (h _ _ ((Below.refl _ w).alloc (Nat.le_refl _) _) (Nat.le_refl _) (by rw [hc];exact Blk.new w cs t (0,0)))
 simp only [execOp,Instr.alloc,Sem.run_bind,hz w,newVar,newRow,run_newObj_alloc,Result.andThen_ok,Sem.run_pure]
end
end
section
variable {P:Program} {n:Nat} {E E':List (Nat×Value)} {a:Act} {w w' w0 w1:World} {Q:Exit→Act→World→Prop} {ops:Array Oper} {v:Value} {kd:Nat→Nat}
variable {d:Option Nat} {ty:TypeId} {pos:String} {af:Array Edge} {g:Option (Nat×Bool)} {x y z:Operand} {t:TypeId} {rest:List Oper} {τ:List Nat} {i:Nat}
def FL (P:Program) (n:Nat) (ops:Array Oper) (Q:Exit→Act→World→Prop) (kd:Nat→Nat) (τ:List Nat) (E:List (Nat×Value)) (w0:World):Prop:=∀ a,Agr n E a→wpFlow P ops (nrm (Q .normal)) kd τ a w0
def kds (l:List (Nat×Nat)) (i:Nat):Nat:=match l with
 | []=>1
 | (j,k)::r=>match Nat.beq j i with | true=>k | false=>kds r i
theorem rd {id:Nat} (ks:List (Nat×Nat)) (τ:List Nat) (hm:P.follows .mixedOrders=true) (hB:(Region.noSelect ops && (τ.length == ops.size) && flowB ops (kds ks) τ (Array.replicate ops.size false))=true)
  (h:FL P n ops Q (kds ks) τ E w):W P n (.region id ops true) Q E w:=fun a ha=>region_flow τ hm hB (h a ha)
theorem fn (h:∀ w,Ext w0 w→N n Q E w):FL P n ops Q kd [] E w0:=fun a ha w hw=>h w hw a ha
theorem wanted_none {o:Oper} (hg:o.guard=none):Region.wanted o (yielded ops a.tmps)=true:=by simp [Region.wanted,hg]
theorem fq {d:Nat} {op:Op} (hi:ops[i]? =some ⟨some d,op,ty,pos,af,none⟩) (hk:kd i=0) (hr:∀ w,Ext w0 w→Runs P E ⟨some d,op,ty,pos,af,none⟩ w v w) (hd:Nat.blt d n=true)
  (h:FL P n ops Q kd τ ((d,v)::E) w0):FL P n ops Q kd (i::τ) E w0:=fun a ha =>
 ⟨_,hi, .inl ⟨hk,v, .inl ⟨wanted_none rfl,fun w hw=>by rw [hr w hw n a ha];exact ⟨rfl,rfl⟩⟩,h _ (ha.put hd v)⟩⟩
theorem fw {d:Nat} {op:Op} (hi:ops[i]? =some ⟨some d,op,ty,pos,af,none⟩) (hk:kd i=1) (hr:∀ w,Runs P E ⟨some d,op,ty,pos,af,none⟩ w v w) (hd:Nat.blt d n=true)
  (h:FL P n ops Q kd τ ((d,v)::E) w0):FL P n ops Q kd (i::τ) E w0:=fun a ha =>
 ⟨_,hi, .inr (.inl ⟨hk,v, .inl ⟨wanted_none rfl,fun w=>hr w n a ha⟩,h _ (ha.put hd v)⟩)⟩
theorem fc {d:Nat} {f:FuncId} {xs:Array Operand} {ts:Array TypeId} {args:List Value} (hi:ops[i]? =some ⟨some d, .call {callee:= .value (.func f),args:=xs,argTypes:=ts},ty,pos,af,none⟩) (hk:kd i=0) (hf:Enters P f) (he:evs E xs.toList=some args)
  (hr:∀ w,Ext w0 w→Calls P f args.toArray w fun e w'=>e= .returned v∧Ext w w') (hd:Nat.blt d n=true)
  (h:FL P n ops Q kd τ ((d,v)::E) w0):FL P n ops Q kd (i::τ) E w0:=fun a ha =>
 ⟨_,hi, .inl ⟨hk,v, .inl ⟨wanted_none rfl,fun w hw=>by rw [run_call hf ha he];exact ⟨rfl,hr w hw⟩⟩,h _ (ha.put hd v)⟩⟩
theorem wanted_some {o:Oper} {j:Nat} {q b:Bool} {oj:Oper} {dj:Nat} (hg:o.guard=some (j,q)) (hj:ops[j]? =some oj) (hdj:oj.dst=some dj) (hb:look E dj=some (.bool b)) (ha:Agr n E a):Region.wanted o (yielded ops a.tmps)=(b == q):=by
 have:=ha.g _ _ hb
 cases b<;>cases q<;>simp [Region.wanted,hg,yielded,hj,hdj,this]
theorem fQ {d:Nat} {op:Op} {j:Nat} {q b c:Bool} {oj:Oper} {dj:Nat} (hi:ops[i]? =some ⟨some d,op,ty,pos,af,some (j,q)⟩) (hk:kd i=0) (hj:ops[j]? =some oj) (hdj:oj.dst=some dj) (hb:look E dj=some (.bool b)) (hc:(b == q)=c)
  (hr:c=true→∀ w,Ext w0 w→Runs P E ⟨some d,op,ty,pos,af,some (j,q)⟩ w v w) (hd:Nat.blt d n=true)
  (h:FL P n ops Q kd τ ((d,gv c v)::E) w0):FL P n ops Q kd (i::τ) E w0:=fun a ha=>by
 have hw:=wanted_some (o:=⟨some d,op,ty,pos,af,some (j,q)⟩) rfl hj hdj hb ha
 rw [hc] at hw
 refine ⟨_,hi, .inl ⟨hk,gv c v, ?_,h _ (ha.put hd _)⟩⟩
 cases c with
 | true=>exact .inl ⟨hw,fun w hx=>by rw [hr rfl w hx n a ha];exact ⟨rfl,rfl⟩⟩
 | false=>exact .inr ⟨hw,rfl⟩
theorem fW {d:Nat} {op:Op} {j:Nat} {q b c:Bool} {oj:Oper} {dj:Nat} (hi:ops[i]? =some ⟨some d,op,ty,pos,af,some (j,q)⟩) (hk:kd i=1) (hj:ops[j]? =some oj) (hdj:oj.dst=some dj) (hb:look E dj=some (.bool b)) (hc:(b == q)=c)
  (hr:c=true→∀ w,Runs P E ⟨some d,op,ty,pos,af,some (j,q)⟩ w v w) (hd:Nat.blt d n=true)
  (h:FL P n ops Q kd τ ((d,gv c v)::E) w0):FL P n ops Q kd (i::τ) E w0:=fun a ha=>by
 have hw:=wanted_some (o:=⟨some d,op,ty,pos,af,some (j,q)⟩) rfl hj hdj hb ha
 rw [hc] at hw
 refine ⟨_,hi, .inr (.inl ⟨hk,gv c v, ?_,h _ (ha.put hd _)⟩)⟩
 cases c with
 | true=>exact .inl ⟨hw,fun w=>hr rfl w n a ha⟩
 | false=>exact .inr ⟨hw,rfl⟩
theorem fC {d:Nat} {f:FuncId} {xs:Array Operand} {ts:Array TypeId} {args:List Value} {j:Nat} {q b c:Bool} {oj:Oper} {dj:Nat} (hi:ops[i]? =some ⟨some d, .call {callee:= .value (.func f),args:=xs,argTypes:=ts},ty,pos,af,some (j,q)⟩) (hk:kd i=0) (hj:ops[j]? =some oj) (hdj:oj.dst=some dj) (hb:look E dj=some (.bool b)) (hc:(b == q)=c)
  (hf:Enters P f) (he:c=true→evs E xs.toList=some args)
  (hr:c=true→∀ w,Ext w0 w→Calls P f args.toArray w fun e w'=>e= .returned v∧Ext w w') (hd:Nat.blt d n=true)
  (h:FL P n ops Q kd τ ((d,gv c v)::E) w0):FL P n ops Q kd (i::τ) E w0:=fun a ha=>by
 have hw:=wanted_some (o:=⟨some d, .call {callee:= .value (.func f),args:=xs,argTypes:=ts},ty,pos,af,some (j,q)⟩) rfl hj hdj hb ha
 rw [hc] at hw
 refine ⟨_,hi, .inl ⟨hk,gv c v, ?_,h _ (ha.put hd _)⟩⟩
 cases c with
 | true=>exact .inl ⟨hw,fun w hx=>by rw [run_call hf ha (he rfl)];exact ⟨rfl,hr rfl w hx⟩⟩
 | false=>exact .inr ⟨hw,rfl⟩
def Stp (P:Program) (n:Nat) (ops:Array Oper) (o:Oper) (E:List (Nat×Value)) (w:World) (K:List (Nat×Value)→World→Prop):Prop :=
 ∀ (Q:Exit→Act→World→Prop),(∀ E' w',K E' w'→WL P n ops Q [] E' w')→WL P n ops Q [o] E w
theorem wp_Q {Q1 Q2:Exit→Act→World→Prop} {o:Oper} {K:Act→World→Prop} (hp:∀ c a w,¬ Q1 (.panic c) a w) (ho:¬ LetsOut Q1) (h:o.wp P a w K Q1):o.wp P a w K Q2:=by
 unfold Oper.wp at *
 generalize (execOp a.eval o).run P w=r at *
 cases r with
 | ok m w' =>
  cases m<;>simp only [Oper.upon] at h ⊢ <;>
   first
    | exact h
    | exact Calls.mono h (fun e w'' he=>by cases e<;>first | exact he | exact (hp _ _ _ he).elim | exact (ho he).elim)
 | halt x w'=>cases x<;>simp only [Oper.upon] at h ⊢<;>first | exact h | exact (hp _ _ _ h).elim
theorem stp_op {o:Oper} (hg:o.guard=none) (hi:ops[i]? =some o) {K:Act→World→Prop} {E:List (Nat×Value)} {w:World} {K':List (Nat×Value)→World→Prop} (h:Stp P n ops o E w K') (hK:∀ E' w' a',K' E' w'→Agr n E' a'→K a' w') (ha:Agr n E a):
  wpOp P ops (nrm (Q .normal)) i K a w:=by
 have:=h (nrm K) (fun E' w' hk a' ha'=>hK E' w' a' hk ha') a ha
 unfold wpList at this
 unfold wpOp
 simp only [hi]
 rw [if_pos (wanted_none hg)] at this ⊢
 rcases this with h | ⟨h,a,w,h2⟩
 ·exact .inl (wp_Q (fun _ _ _ h=>h) (fun ⟨_,_,h⟩=>h) h)
 ·exact h2.elim
theorem fx {o:Oper} (hg:o.guard=none) (hi:ops[i]? =some o) (hk:kd i=2) (h:∀ w,Ext w0 w→Stp P n ops o E w fun E' w'=>Ext w0 w'∧FL P n ops Q kd τ E' w'):FL P n ops Q kd (i::τ) E w0:=fun a ha =>
 ⟨_,hi, .inr (.inr ⟨by omega,fun w hw=>stp_op hg hi (h w hw) (fun E' w' a' hk ha'=>⟨fun _=>hk.1,hk.2 a' ha'⟩) ha⟩)⟩
theorem fb {o:Oper} (hg:o.guard=none) (hi:ops[i]? =some o) (hk:kd i=3) (h:∀ w,Ext w0 w→Stp P n ops o E w fun E' w'=>FL P n ops Q kd τ E' w'):FL P n ops Q kd (i::τ) E w0:=fun a ha =>
 ⟨_,hi, .inr (.inr ⟨by omega,fun w hw=>stp_op hg hi (h w hw) (fun E' w' a' hk ha'=>⟨fun h2=>by omega,hk a' ha'⟩) ha⟩)⟩
end
structure Mod (S:List Nat) (w w':World):Prop where
 os:w'.os=w.os
 tape:w'.tape=w.tape
 output:w'.output=w.output
 size:w.heap.size≤w'.heap.size
 block:∀ k,k<w.heap.size→k∉S→w'.heap[k]? =w.heap[k]?
section
variable {S S':List Nat} {w w' w0 w1 w2:World} {B:Nat}
theorem Mod.of_ext (h:Ext w w'):Mod S w w':=⟨h.os,h.tape,h.output,h.size,fun k hk _=>h.block k hk⟩
theorem Mod.below {Z:Nat} (h:Mod S w w') (hS:∀ x∈S,Z≤x) (hZ:Z≤w.heap.size):Below Z w w' :=
 ⟨h.os,h.tape,h.output,h.size,fun k hk=>h.block k (by omega) fun hm=>by have:=hS k hm;omega⟩
theorem Ext.mod (h:Ext w0 w) (hm:Mod S w w') (hS:∀ x∈S,w0.heap.size≤x):Ext w0 w':=Below.trans h (hm.below hS h.size)
theorem Mod.rf (S:List Nat) (w:World):Mod S w w:=⟨rfl,rfl,rfl,Nat.le_refl _,fun _ _ _=>rfl⟩
theorem Mod.md (h:Mod S w w1) (h':Mod S' w1 w2) (hs:∀ q∈S',q∈S∨w.heap.size≤q):Mod S w w2 :=
 ⟨h'.os.trans h.os,h'.tape.trans h.tape,h'.output.trans h.output,Nat.le_trans h.size h'.size,fun k hk hn=>(h'.block k (Nat.lt_of_lt_of_le hk h.size) fun hm=>(hs k hm).elim hn (fun h=>by omega)).trans (h.block k hk hn)⟩
theorem Mod.trans (h:Mod S w w1) (h':Mod S w1 w2):Mod S w w2 :=
 ⟨h'.os.trans h.os,h'.tape.trans h.tape,h'.output.trans h.output,Nat.le_trans h.size h'.size,fun k hk hn=>(h'.block k (Nat.lt_of_lt_of_le hk h.size) hn).trans (h.block k hk hn)⟩
theorem Mod.grown {row:Option Nat} (h:w.grownBy w' row):Mod row.toList w w' :=
 ⟨h.os,h.tape,h.output,h.size,fun k hk hn=>h.block k hk fun e=>hn (by rw [← e];simp)⟩
theorem Mod.setRow (w:World) (b:Nat) (cs:Array Value):Mod [b] w (w.setRow b cs):=by
 refine ⟨rfl,rfl,rfl,by simp [World.setRow],fun k hk hn=> ?_⟩
 simp only [World.setRow,Array.getElem?_modify]
 rw [if_neg (by simp at hn;omega)]
theorem Mod.setCell (w:World) (p:Addr) (u:Value):Mod [p.block] w (w.setCell p u):=by
 refine ⟨rfl,rfl,rfl,by simp [World.setCell],fun k hk hn=> ?_⟩
 exact Below.heap_setCell _ _ _ _ (by simpa using hn)
theorem Blk.mod {g:Nat} {cur:List Value} {e:TypeId} {fr:Nat×Nat} (h:Blk w g cur e fr) (hm:Mod S w w') (hg:g∉S):Blk w' g cur e fr:=by
 unfold Blk at *
 rw [hm.block g (Array.getElem?_eq_some_iff.1 h).1 hg];exact h
theorem Rep.SOwn.mod {α:Type} {R:Rep α} {E by_:Nat} {f:List Nat} {A:Option Addr} {c:Nat} {l:List α} (h:R.SOwn E by_ w B f A c l) (hm:Mod S w w') (hd:∀ x∈f,x∉S):R.SOwn E by_ w' B f A c l :=
 h.keep fun g hg=>hm.block g (h.lt g hg).2 (hd g hg)
end
section
variable {P:Program} {n:Nat} {E E':List (Nat×Value)} {a:Act} {w w' w0 w1:World} {Q:Exit→Act→World→Prop} {ops:Array Oper} {v:Value}
variable {d:Option Nat} {ty:TypeId} {pos:String} {af:Array Edge} {g:Option (Nat×Bool)} {x y z:Operand} {t:TypeId} {rest:List Oper}
theorem run_storeVar {b p:Nat} {cur cs:List Value} {e:TypeId} (hB:Blk w b cur e (0,0)) (hc:v.cells=cs.toArray) (hs:Sz P t cs.length) (h1:cs.all (·.oneCell')=true) (hl:p+cs.length≤cur.length):
  (storeVar t ⟨b,p,none⟩ v).run P w= .ok () (w.setRow b (cur.take p++cs++cur.drop (p+cs.length)).toArray):=by
 unfold storeVar
 simp only [hc,Sem.run_bind,hs w,Result.andThen_ok,List.size_toArray,ne_eq,not_true_eq_false,if_false]
 have:=run_storeCells_at P b p e cs 0 cur.toArray w hB (by simpa using hl) (fun v hv=>List.all_eq_true.1 h1 v hv)
 simpa using this
theorem st {b p:Nat} {cur cs new:List Value} {e:TypeId} (hx:ev E x=some (.pointer (some ⟨b,p,none⟩))) (hy:ev E y=some v) (hB:Blk w b cur e (0,0)) (hc:v.cells=cs.toArray) (hs:Sz P t cs.length) (h1:cs.all (·.oneCell')=true) (hl:Nat.ble (p+cs.length) cur.length=true)
  (hn:cur.take p++cs++cur.drop (p+cs.length)=new)
  (h:∀ w1,Mod [b] w w1→Blk w1 b new e (0,0)→WL P n ops Q rest E w1):WL P n ops Q (⟨none, .store t x y,ty,pos,af,none⟩::rest) E w:=by
 refine us (w':=w.setRow b new.toArray) (fun n a ha=> ?_) (h _ (Mod.setRow w b _) (by rw [← hn];exact hB.setRow _))
 have:=run_storeVar (P:=P) hB hc hs h1 (Nat.le_of_ble_eq_true hl)
 rw [hn] at this
 simp only [execOp,ha.ev hx,ha.ev hy,Instr.storeAt,Instr.sureAddr,Sem.run_bind,Sem.run_pure,Result.andThen_ok,this]
theorem bi {bt:Builtin} {xs:Array Operand} {ts:Array TypeId} {vs:List Value} (he:evs E xs.toList=some vs) (h:∀ cs,(builtin bt ts ty cs vs.toArray).run P w= .ok (.value v) w'):
  Runs P E ⟨d, .call {callee:= .builtin bt,args:=xs,argTypes:=ts},ty,pos,af,g⟩ w v w':=fun n a ha=>by
 have hm:xs.map a.eval=vs.toArray:=by rw [← ha.evs he];apply Array.ext';simp
 simp only [execOp,resolve,invoke,hm,Sem.run_bind,Sem.run_pure,Result.andThen_ok,h]
theorem ln {A:Option Addr} {len cap e:Nat} (ht:P.underlying t=some (.slice e)) (hx:ev E x=some (.slice A len cap)):Runs P E ⟨d, .call {callee:= .builtin .len,args:=#[x],argTypes:=#[t]},ty,pos,af,g⟩ w (.int .i64 (len:Int)) w :=
 bi (vs:= [.slice A len cap]) (by simp only [evs,hx]) fun cs=>by
  have h1:P.underlying t=some (.slice (P.elem t)):=by simp [Program.elem,ht]
  have:=run_len_slice (P:=P) w t ty A len cap h1
  simp only [builtin,Sem.run_bind,this,Result.andThen_ok,Sem.run_pure];rfl
theorem en {f:FuncId} {fn:Func} (h:P.funcs[f]? =some fn) (h1:(fn.name == "runtime.NumGoroutine")=false) (h2:fn.body.isNone=false):Enters P f:=⟨fn,h,h1,h2⟩
theorem wl_if {o:Oper} {c:Bool} (hw:∀ a,Agr n E a→Region.wanted o (yielded ops a.tmps)=c) (h1:c=true→∀ a,Agr n E a→o.wp P a w (wpList P ops Q rest) Q) (h2:c=false→∀ a,Agr n E a→wpList P ops Q rest (a.put o.dst undef) w):WL P n ops Q (o::rest) E w:=fun a ha=>by
 unfold wpList
 rw [hw a ha]
 cases c with
 | true=>rw [if_pos rfl];exact .inl (h1 rfl a ha)
 | false=>rw [if_neg (by decide)];exact h2 rfl a ha
theorem vQ {d:Nat} {op:Op} {j:Nat} {q b c:Bool} {oj:Oper} {dj:Nat} (hj:ops[j]? =some oj) (hdj:oj.dst=some dj) (hb:look E dj=some (.bool b)) (hc:(b == q)=c)
  (hr:c=true→Runs P E ⟨some d,op,ty,pos,af,some (j,q)⟩ w v w) (hd:Nat.blt d n=true) (h:WL P n ops Q rest ((d,gv c v)::E) w):WL P n ops Q (⟨some d,op,ty,pos,af,some (j,q)⟩::rest) E w :=
 wl_if (c:=c) (fun a ha=>by rw [wanted_some (o:=⟨some d,op,ty,pos,af,some (j,q)⟩) rfl hj hdj hb ha,hc])
  (fun hc a ha=>by unfold Oper.wp;rw [hr hc n a ha];subst hc;exact h _ (ha.put hd v)) (fun hc a ha=>by subst hc;exact h _ (ha.put hd undef))
theorem vC {d:Nat} {f:FuncId} {xs:Array Operand} {ts:Array TypeId} {args:List Value} {j:Nat} {q b c:Bool} {oj:Oper} {dj:Nat} (hj:ops[j]? =some oj) (hdj:oj.dst=some dj) (hb:look E dj=some (.bool b)) (hc:(b == q)=c)
  (hf:Enters P f) (he:c=true→evs E xs.toList=some args) (hr:c=true→Calls P f args.toArray w fun e w'=>e= .returned v∧Ext w w') (hd:Nat.blt d n=true)
  (h:∀ w',Ext w w'→WL P n ops Q rest ((d,gv c v)::E) w'):WL P n ops Q (⟨some d, .call {callee:= .value (.func f),args:=xs,argTypes:=ts},ty,pos,af,some (j,q)⟩::rest) E w :=
 wl_if (c:=c) (fun a ha=>by rw [wanted_some (o:=⟨some d,_,ty,pos,af,some (j,q)⟩) rfl hj hdj hb ha,hc])
  (fun hc a ha=>by unfold Oper.wp;rw [run_call hf ha (he hc)];exact (hr hc).mono fun e w' ⟨h1,hx⟩=>by subst h1;subst hc;exact h w' hx _ (ha.put hd v)) (fun hc a ha=>by subst hc;exact h w (Ext.rf w) _ (ha.put hd undef))
theorem ug {d:Option Nat} {op:Op} {j:Nat} {q:Bool} {oj:Oper} {dj:Nat} (hj:ops[j]? =some oj) (hdj:oj.dst=some dj) (hb:look E dj=some (.bool q)) (h:WL P n ops Q (⟨d,op,ty,pos,af,none⟩::rest) E w):WL P n ops Q (⟨d,op,ty,pos,af,some (j,q)⟩::rest) E w:=fun a ha=>by
 have h:=h a ha
 have hw:=wanted_some (o:=⟨d,op,ty,pos,af,some (j,q)⟩) (q:=q) rfl hj hdj hb ha
 unfold wpList at h ⊢
 rw [if_pos (wanted_none rfl)] at h
 rw [hw,if_pos (by cases q<;>rfl)]
 exact h
theorem evb {x:Operand} {b c:Bool} (h:ev E x=some (.bool b)) (e:b=c):ev E x=some (.bool c):=by rw [h,e]
theorem mf {fi:Fn} {fs cs:Array Operand} {l m:List Value} (h1:evs E fs.toList=some l) (h2:evs E cs.toList=some m):Runs P E ⟨d, .makeFunc fi fs cs,ty,pos,af,g⟩ w (.func fi l.toArray m.toArray) w:=fun n a ha=>by
 have e1:fs.map a.eval=l.toArray:=by rw [← ha.evs h1];apply Array.ext';simp
 have e2:cs.map a.eval=m.toArray:=by rw [← ha.evs h2];apply Array.ext';simp
 simp only [execOp,e1,e2,Instr.makeFunc,Sem.run_bind,Sem.run_pure,Result.andThen_ok]
def evp (E:List (Nat×Value)):List (Nat×Operand)→Option (List (Nat×Value))
 | []=>some []
 | (i,x)::r=>match ev E x with
  | some v=>match evp E r with
   | some l=>some ((i,v)::l)
   | none=>none
  | none=>none
theorem Agr.evp (h:Agr n E a):∀ {l:List (Nat×Operand)} {vs:List (Nat×Value)},evp E l=some vs→l.map (fun (i,x)=>(i,a.eval x))=vs
 | [],vs,e=>by simp only [Proofs.YtlikikpgmmkjbaaGreat.evp] at e;exact Option.some.inj e
 | (i,x)::r,vs,e=>by
  simp only [Proofs.YtlikikpgmmkjbaaGreat.evp] at e
  cases hx:Proofs.YtlikikpgmmkjbaaGreat.ev E x with
  | none=>rw [hx] at e;cases e
  | some v =>
   rw [hx] at e
   simp only at e
   cases hr:Proofs.YtlikikpgmmkjbaaGreat.evp E r with
   | none=>rw [hr] at e;cases e
   | some l =>
    rw [hr] at e
    simp only at e
    obtain rfl:=Option.some.inj e
    rw [List.map_cons,Agr.evp h hr]
    simp only [h.ev hx]
theorem bd {ps:Array (Nat×Operand)} {l:List (Nat×Value)} (he:evp E ps.toList=some l) (hr:(Instr.build t l.toArray).run P w= .ok v w):Runs P E ⟨d, .build t ps,ty,pos,af,g⟩ w v w:=fun n a ha=>by
 have e1:ps.map (fun (i,x)=>(i,a.eval x))=l.toArray:=by rw [← ha.evp he];apply Array.ext';simp
 simp only [execOp,e1,Sem.run_bind,hr,Result.andThen_ok,Sem.run_pure]
theorem bs {ps:Array (Nat×Operand)} {l:List (Nat×Value)} {d k e:Nat} {cs:List Value} (he:evp E ps.toList=some l) (hr:∀ w,(Instr.buildSlice t k l.toArray).run P w= .ok (.slice (some ⟨w.heap.size,0,none⟩) k k) (w.alloc (.cells cs.toArray e))) (hd:Nat.blt d n=true)
  (h:∀ w1 b,Ext w w1→w.heap.size≤b→Blk w1 b cs e (0,0)→WL P n ops Q rest ((d, .slice (some ⟨b,0,none⟩) k k)::E) w1):WL P n ops Q (⟨some d, .buildSlice t k ps,ty,pos,af,none⟩::rest) E w:=by
 refine vl (w':=w.alloc (.cells cs.toArray e)) (v:= .slice (some ⟨w.heap.size,0,none⟩) k k) (fun n a ha=> ?_) hd (h _ _ ((Below.refl _ w).alloc (Nat.le_refl _) _) (Nat.le_refl _) (Blk.new w cs e (0,0)))
 have e1:ps.map (fun (i,x)=>(i,a.eval x))=l.toArray:=by rw [← ha.evp he];apply Array.ext';simp
 simp only [execOp,e1,Sem.run_bind,hr,Result.andThen_ok,Sem.run_pure]
def bA (A:Option Addr):Nat:=match A with | some a=>a.block | none=>0
def oA (A:Option Addr):Nat:=match A with | some a=>a.off | none=>0
theorem Rep.SHas.adr {α:Type} {R:Rep α} {by_ c:Nat} {A:Option Addr} {l:List α} (h:R.SHas by_ w A c l) (h0:0<l.length):A=some ⟨bA A,oA A,none⟩:=by
 obtain ⟨b,o,rfl,_⟩:=h.at_ h0;rfl
theorem Rep.SHas.adh {α:Type} {R:Rep α} {by_ c:Nat} {A:Option Addr} {l:List α} (h:R.SHas by_ w A c l) (h0:0<l.length):R.SHas by_ w (some ⟨bA A,oA A,none⟩) c l:=by
 rw [← h.adr h0];exact h
theorem iA {e:TypeId} {size len cap b o:Nat} {ik:IntKind} {i:Int} {A:Option Addr} (j:Nat) (ht:P.underlying t=some (.slice e)) (hs:Sz P e size) (hx:ev E x=some (.slice A len cap)) (hi:ev E y=some (.int ik i)) (hA:A=some ⟨b,o,none⟩) (hj:i=(j:Int)) (hlt:j<len):
  Runs P E ⟨d, .indexAddr t x y,ty,pos,af,g⟩ w (.pointer (some ⟨b,o+j * size,none⟩)) w:=by subst hA;exact ia j ht hs hx hi hj hlt
theorem get_d {α:Type} {l:List α} {j:Nat} {u:α} (h:j<l.length):l[j]? =some (l.getD j u):=by rw [List.getD_eq_getElem?_getD,List.getElem?_eq_getElem h];rfl
section
variable {α:Type} {R:Rep α} {by_ c b o j:Nat} {l:List α} {cells:α→List Value} {q u:α}
theorem Rep.SHas.fld (hc:∀ {w cs a},R.has w cs a→cs=cells a) (h:R.SHas by_ w (some ⟨b,o,none⟩) c l) (k:Nat) (hj:l[j]? =some q) (hu:(cells q)[k]? =some v) (ht:Ag P t false):Lds P w t ⟨b,o+j * R.size+k,none⟩ v:=by
 obtain ⟨b',o',e,hall⟩:=h.at_ (by have:=(List.getElem?_eq_some_iff.1 hj).1;omega)
 injection e with e;injection e with e1 e2;subst e1;subst e2
 obtain ⟨es,h1,h2⟩:=hall j q hj
 rw [hc h1] at h2
 exact Lds.one ht (by rw [Nat.add_assoc];exact h2 k v hu)
theorem Rep.SHas.one' (hc:∀ {w cs a},R.has w cs a→cs=cells a) (h:R.SHas by_ w (some ⟨b,o,none⟩) c l) (hj:l[j]? =some q) (hu:(cells q)[0]? =some v) (ht:Ag P t false):Lds P w t ⟨b,o+j * R.size,none⟩ v:=h.fld hc 0 hj hu ht
theorem Rep.SHas.elt (hc:∀ {w cs a},R.has w cs a→cs=cells a) (h:R.SHas by_ w (some ⟨b,o,none⟩) c l) (hj:l[j]? =some q) (ht:Ag P t true) (hs:Sz P t (cells q).length):Lds P w t ⟨b,o+j * R.size,none⟩ (.agg (cells q).toArray):=by
 obtain ⟨b',o',e,hall⟩:=h.at_ (by have:=(List.getElem?_eq_some_iff.1 hj).1;omega)
 injection e with e;injection e with e1 e2;subst e1;subst e2
 obtain ⟨es,h1,h2⟩:=hall j q hj
 rw [hc h1] at h2
 exact Lds.agg ht hs fun k v hk=>by rw [Nat.add_assoc];exact h2 k v hk
theorem Rep.SHas.part (hc:∀ {w cs a},R.has w cs a→cs=cells a) (h:R.SHas by_ w (some ⟨b,o,none⟩) c l) (k:Nat) {ds:List Value} (hj:l[j]? =some q) (hd:((cells q).drop k).take ds.length=ds) (ht:Ag P t true) (hs:Sz P t ds.length):Lds P w t ⟨b,o+j * R.size+k,none⟩ (.agg ds.toArray):=by
 obtain ⟨b',o',e,hall⟩:=h.at_ (by have:=(List.getElem?_eq_some_iff.1 hj).1;omega)
 injection e with e;injection e with e1 e2;subst e1;subst e2
 obtain ⟨es,h1,h2⟩:=hall j q hj
 rw [hc h1] at h2
 refine Lds.agg ht hs fun i v hi=> ?_
 rw [Nat.add_assoc,Nat.add_assoc]
 refine h2 _ v ?_
 rw [← hd] at hi
 have hl:=(List.getElem?_eq_some_iff.1 hi).1
 rw [List.length_take] at hl
 rwa [List.getElem?_take_of_lt (by omega),List.getElem?_drop] at hi
end
theorem Blk.all {b:Nat} {cur:List Value} {e:TypeId} {fr:Nat×Nat} (h:Blk w b cur e fr) (ht:Ag P t true) (hs:Sz P t cur.length):Lds P w t ⟨b,0,none⟩ (.agg cur.toArray):=
 Lds.agg ht hs fun j v hj=>by rw [h.cell,Nat.zero_add,hj]
theorem Blk.par {b p:Nat} {cur:List Value} {e:TypeId} {fr:Nat×Nat} (h:Blk w b cur e fr) (cs:List Value) (ht:Ag P t true) (hs:Sz P t cs.length) (hv:(cur.drop p).take cs.length=cs):Lds P w t ⟨b,p,none⟩ (.agg cs.toArray):=h.agg ht hs hv
end
end Go.Proofs.YtlikikpgmmkjbaaGreat
set_option linter.unusedVariables false
set_option linter.unusedSimpArgs false
namespace Go.Proofs.YtlikikpgmmkjbaaGreat
open Go.RowKit

section
variable {P:Program} {n:Nat} {E E':List (Nat×Value)} {a:Act} {w w' w0 w1:World} {Q:Exit→Act→World→Prop} {ops:Array Oper} {v:Value}
theorem inI {x:Int} (h: -9223372036854775808≤x∧x≤9223372036854775807):IntKind.i64.wrap x=x:=IntWalk.i64_in x h
section
variable {d:Option Nat} {ty:TypeId} {pos:String} {af:Array Edge} {g:Option (Nat×Bool)} {x y:Operand} {t u:TypeId} {k:IntKind} {i j r:Int}
theorem badL (hx:ev E x=some (.int k i)) (hy:ev E y=some (.int k j)) (h:k.wrap (i+j)=i+j) (he:i+j=r):Runs P E ⟨d, .binOp .add t x y u,ty,pos,af,g⟩ w (.int k r) w:=by subst he;exact bad hx hy h
end
theorem lt_succ_all {p:Nat→Prop} {k:Nat} (h:∀ j,j<k→p j) (hk:p k):∀ j,j<k+1→p j:=fun j hj=>(Nat.lt_succ_iff_lt_or_eq.1 hj).elim (h j) fun e=>e ▸ hk
theorem hcI {w:World} {cs:List Value} {a:Int} (h:repI.has w cs a):cs= [.int .i64 a]:=And.left (show cs= [.int .i64 a]∧okI a from h)
theorem hcB {w:World} {cs:List Value} {a:Bool} (h:repB.has w cs a):cs= [.bool a]:=And.left (show cs= [.bool a]∧True from h)
theorem ec {x:Operand} {r:List Operand} {l:List Value} (h:ev E x=some v) (hr:evs E r=some l):evs E (x::r)=some (v::l):=by simp only [evs,h,hr]
theorem loI {t:Nat} {k:IntKind} {i j:Int} (h:look E t=some (.int k i)) (e:i=j):look E t=some (.int k j):=by rw [h,e]
section
variable {c:Operand} {x y:Code} {i j:Int}
theorem clt (hc:ev E c=some (.bool (decide (i<j)))) (h1:i<j→W P n x Q E w) (h2:¬ i<j→W P n y Q E w):W P n (.cond c x y) Q E w:=cb hc (fun h=>h1 (of_decide_eq_true h)) (fun h=>h2 (of_decide_eq_false h))
theorem cle (hc:ev E c=some (.bool (decide (i≤j)))) (h1:i≤j→W P n x Q E w) (h2:¬ i≤j→W P n y Q E w):W P n (.cond c x y) Q E w:=cb hc (fun h=>h1 (of_decide_eq_true h)) (fun h=>h2 (of_decide_eq_false h))
theorem ceq (hc:ev E c=some (.bool (i == j))) (h1:i=j→W P n x Q E w) (h2:¬ i=j→W P n y Q E w):W P n (.cond c x y) Q E w:=cb hc (fun h=>h1 (by simpa using h)) (fun h=>h2 (by simpa using h))
theorem cne (hc:ev E c=some (.bool (i != j))) (h1:¬ i=j→W P n x Q E w) (h2:i=j→W P n y Q E w):W P n (.cond c x y) Q E w:=cb hc (fun h=>h1 (by simpa using h)) (fun h=>h2 (by simpa using h))
end
end
def ElT (P:Program) {α:Type} (R:Rep α) (t e:TypeId) (by_:Nat):Prop :=
 ∃ (i:TypeInfo) (z:Value),P.underlying t=some (.slice e)∧P.info? e=some i∧i.zero=some z∧i.size=R.size∧i.bytes=by_∧z.cells.size=R.size∧0<R.size∧∀ (j:Nat) u,z.cells[j]? =some u→R.raw j u
section
variable {P:Program} {n:Nat} {E E':List (Nat×Value)} {a:Act} {w w' w0 w1:World} {Q:Exit→Act→World→Prop} {ops:Array Oper} {v:Value}
variable {d:Option Nat} {ty:TypeId} {pos:String} {af:Array Edge} {g:Option (Nat×Bool)} {x y z:Operand} {t:TypeId} {rest:List Oper}
theorem ElT.mk_ {α:Type} {R:Rep α} {t e by_ k:Nat} {z:Value} (ht:P.underlying t=some (.slice e)) (hi:(P.info? e).map (fun i=>(i.zero,i.size,i.bytes))=some (some z,k,by_)) (hk:R.size=k) (h1:z.cells.size=k) (h2:0<k) (h3:∀ (j:Nat) u,z.cells[j]? =some u→R.raw j u):ElT P R t e by_:=by
 cases hq:P.info? e with
 | none=>rw [hq] at hi;cases hi
 | some i =>
  rw [hq] at hi
  simp only [Option.map_some,Option.some.injEq,Prod.mk.injEq] at hi
  exact ⟨i,z,ht,hq,hi.1,by rw [hi.2.1,hk],hi.2.2,by rw [h1,hk],by rw [hk];exact h2,h3⟩
theorem raw0I:∀ (j:Nat) u,(Value.int .i64 0).cells[j]? =some u→repI.raw j u:=by
 intro j u hu
 have hu:(#[(.int .i64 0:Value)]:Array Value)[j]? =some u:=hu
 match j,hu with
 | 0,hu=>exact ⟨0,(Option.some.inj hu).symm⟩
 | j+1,hu=>simp at hu
theorem raw0B:∀ (j:Nat) u,(Value.bool false).cells[j]? =some u→repB.raw j u:=by
 intro j u hu
 have hu:(#[(.bool false:Value)]:Array Value)[j]? =some u:=hu
 match j,hu with
 | 0,hu=>exact ⟨false,(Option.some.inj hu).symm⟩
 | j+1,hu=>simp at hu
def Rn (P:Program) (n:Nat) (c:Code) (Q:Exit→Act→World→Prop) (k:Nat) (E:List (Nat×Value)) (w:World):Prop:=∀ a,Agr n E a→Code.rounds P c Q k a w
theorem lu {c:Code} (k:Nat) (h:Rn P n c Q k E w):W P n (.loop c) Q E w:=fun a ha=>wp_loop_rounds k (h a ha)
theorem lr {c:Code} {k:Nat} (h:W P n c (Exit.then (Code.rounds P c Q k) Q) E w):Rn P n c Q (k+1) E w:=fun a ha=>h a ha
theorem nR {c:Code} {k:Nat} (h:Rn P n c Q k E w):N n (Exit.then (Code.rounds P c Q k) Q) E w:=h
theorem Blk.has1 {α:Type} {R:Rep α} {by_ b:Nat} {cs:List Value} {e:TypeId} {fr:Nat×Nat} {q:α} (hb:Blk w b cs e fr) (h:R.has w cs q) (hby:by_≤140737488355328):R.SHas by_ w (some ⟨b,0,none⟩) 1 [q]:=by
 refine ⟨Nat.le_refl _,by decide,by simpa using hby,(fun h=>by cases h), [cs],⟨h,trivial⟩, ?_⟩
 have hl:=R.len h
 refine ⟨by simp [hl],fun _=>⟨b,0,rfl,fun j u hu=> ?_⟩⟩
 rw [Nat.zero_add,hb.cell]
 simpa using hu
theorem Blk.hasN {α:Type} {R:Rep α} {by_ b:Nat} {cs:List Value} {e:TypeId} {fr:Nat×Nat} {k:List α} (hb:Blk w b cs e fr) (ess:List (List Value)) (hcs:ess.flatten=cs) (h:All2 (fun es a=>R.has w es a) ess k) (h63:k.length≤9223372036854775807) (hby:k.length * by_≤140737488355328):R.SHas by_ w (some ⟨b,0,none⟩) k.length k:=by
 refine ⟨Nat.le_refl _,h63,hby,(fun h=>by cases h),ess,h, ?_⟩
 have hl:∀ x∈ess,x.length=R.size:=fun x hx=>by obtain ⟨a,ha⟩:=h.left x hx;exact R.len ha
 refine ⟨by rw [flat_len hl,h.length],fun _=>⟨b,0,rfl,fun j u hu=> ?_⟩⟩
 rw [Nat.zero_add,hb.cell,← hcs]
 exact hu
theorem Blk.ownN {α:Type} {R:Rep α} {by_ b B:Nat} {cs:List Value} {e:TypeId} {k:List α} (hb:Blk w b cs e (0,0)) (ess:List (List Value)) (hcs:ess.flatten=cs) (h:All2 (fun es a=>R.has w es a) ess k) (h63:k.length≤9223372036854775807) (hby:k.length * by_≤140737488355328) (h0:0<R.size) (hB:B≤b) (hR:R.Plain:=by exact Rep.flat_plain):
  R.SOwn e by_ w B (Rep.blkOf (some ⟨b,0,none⟩)) (some ⟨b,0,none⟩) k.length k:=by
 have hl:∀ x∈ess,x.length=R.size:=fun x hx=>by obtain ⟨a,ha⟩:=h.left x hx;exact R.len ha
 have hlen:cs.length=k.length * R.size:=by rw [← hcs,flat_len hl,h.length]
 refine Rep.SOwn.of_plain hR h hby ⟨by rw [hcs,hlen], .inr ⟨b,k.length,cs.toArray,rfl,hB,hb,Nat.le_refl _,h63,by simpa using hlen, ?_,fun j u hu=> ?_⟩⟩
 ·rw [hcs];exact List.take_of_length_le (by simp [hlen])
 ·exact flat_raw h h0 (by rw [hcs];simpa using hu)
theorem ap {α:Type} {R:Rep α} {e by_ base:Nat} {A A2:Option Addr} {c c2 d:Nat} {l k:List α} (hE:ElT P R t e by_) (hR:R.Bare) (h:R.SOwn e by_ w base (Rep.blkOf A) A c l) (h2:R.SHas by_ w A2 c2 k)
  (hs:ev E x=some (.slice A l.length c)) (hx:ev E y=some (.slice A2 k.length c2)) (hlen:l.length+k.length≤9223372036854775807) (hbytes:(l.length+k.length) * by_≤140737488355328) (hbase:base≤w.heap.size) (hd:Nat.blt d n=true)
  (hk:∀ w1 A' c',Mod (Rep.blkOf A) w w1→R.SOwn e by_ w1 base (Rep.blkOf A') A' c' (l++k)→(∀ q∈Rep.blkOf A',q∈Rep.blkOf A∨w.heap.size≤q)→(A'=none↔A=none∧k= [])→WL P n ops Q rest ((d, .slice A' (l++k).length c')::E) w1):
  WL P n ops Q (⟨some d, .call {callee:= .builtin .append,args:=#[x,y],argTypes:=#[t,t]},ty,pos,af,none⟩::rest) E w:=fun a ha=>by
 obtain ⟨i,z,e1,e2,e3,e4,e5,e6,e7,e8⟩:=hE
 obtain ⟨s1,s2,s3,s4,ess,s5,s6⟩:=h2
 obtain ⟨p1,p2⟩:=Rep.plain_map ess
 refine Rep.wpList_append_rep rfl x y base t e i z e1 e2 e3 e4 e5 e6 e7 e8 (Rep.blkOf A) A c l h A2 k.length c2 k (ess.map fun es=>(([]:List Nat),es)) (Rep.All2.plain hR.1 s5) rfl (by rw [p2];exact s6) (by rw [p1,List.append_nil];exact h.nodup) hlen hbytes hbase rfl (ha.ev hs) (ha.ev hx) ?_
 rintro A' c' f' w1 ⟨q1,q2,q3,q4,q5,q6⟩
 obtain rfl:=q1.fp hR.2
 have hm:Mod (Rep.blkOf A) w w1:=by
  have:=Mod.grown q2
  rwa [Rep.own_blk] at this
 have:=hk w1 A' c' hm q1 (fun q hq=>by
  rcases q4 q hq with h | h | h
  ·exact .inl h
  ·rw [p1] at h;cases h
  ·exact .inr (by omega)) (by rw [q5];exact and_congr_right fun _=>List.length_eq_zero_iff)
 rw [List.length_append] at this
 exact this _ (ha.put hd _)
theorem Own.cells_at {base e size:Nat} {G:Nat→Value→Prop} {b c n:Nat} {xs:List Value} (h:Own w base e size G (.slice (some ⟨b,0,none⟩) n c) n xs):∃ cur:Array Value,w.heap[b]? =some (.cells cur e (0,0))∧cur.size=c * size∧cur.toList.take (n * size)=xs:=by
 obtain ⟨h1,h2⟩:=h
 rcases h2 with ⟨h2,_⟩ | ⟨g',cap,cur,hv,b',hh,d,hm,hs,ht,hG⟩
 ·cases h2
 ·injection hv with hv _ hc
  injection hv with hv
  injection hv with hv
  subst hv;subst hc
  exact ⟨cur,hh,hs,ht⟩
theorem so {α:Type} {R:Rep α} {e by_ B j i:Nat} {A:Option Addr} {c:Nat} {l:List α} {q q':α} {p:Addr} {u:Value} (h:R.SOwn e by_ w B (Rep.blkOf A) A c l) (hR:R.Bare) (hi:l[i]? =some q) (hj:Nat.blt j R.size=true) (hx:ev E x=some (.pointer (some p))) (hp:p=⟨bA A,oA A+i * R.size+j,none⟩) (hy:ev E y=some u)
  (hu:∀ (w1:World) cs,R.has w cs q→R.has w1 (cs.set j u) q') (h1:u.oneCell'=true) (hcs:u.cells=#[u]) (hs:Sz P t 1)
  (hk:∀ w1,Mod (Rep.blkOf A) w w1→R.SOwn e by_ w1 B (Rep.blkOf A) A c (l.set i q')→WL P n ops Q rest E w1):WL P n ops Q (⟨none, .store t x y,ty,pos,af,none⟩::rest) E w:=by
 obtain ⟨b,rfl⟩:=h.block (by have:=(List.getElem?_eq_some_iff.1 hi).1;omega)
 rw [Nat.blt_eq] at hj
 have hp':p=⟨b,i * R.size+j,none⟩:=by rw [hp];simp [bA,oA]
 subst hp'
 have hset:=h.setj hR hi hj (fun cs hc=>hu _ cs hc)
 have hlt:=(List.getElem?_eq_some_iff.1 hi).1
 have hcell:∃ u0,w.cell? ⟨b,i * R.size+j,none⟩=some u0:=by
  obtain ⟨_,ps,_,_,ho,hall⟩:=h
  have hl:=ho.1
  rw [ho.cell _ (by rw [Nat.mul_comm i];exact Nat.lt_of_lt_of_le (by rw [Nat.mul_comm];exact (by omega:i * R.size+j<i * R.size+R.size)) (by rw [← Nat.succ_mul];exact Nat.mul_le_mul_right _ hlt))]
  exact ⟨_,List.getElem?_eq_getElem (by rw [hl];exact Nat.lt_of_lt_of_le (by omega:i * R.size+j<i * R.size+R.size) (by rw [← Nat.succ_mul];exact Nat.mul_le_mul_right _ hlt))⟩
 obtain ⟨u0,hu0⟩:=hcell
 have hf:=h.free (i * R.size+j)
 refine us (w':=w.setCell ⟨b,i * R.size+j,none⟩ u) (fun n a ha=> ?_) (hk _ (Mod.setCell w ⟨b,i * R.size+j,none⟩ u) hset)
 have hst:(storeVar t ⟨b,i * R.size+j,none⟩ u).run P w= .ok () (w.setCell ⟨b,i * R.size+j,none⟩ u):=by
  unfold storeVar
  simp only [hcs,Sem.run_bind,hs w,Result.andThen_ok,List.size_toArray,List.length_cons,List.length_nil,ne_eq,Nat.zero_add,not_true_eq_false,if_false,storeCells]
  have:(⟨b,i * R.size+j,none⟩:Addr).add 0=⟨b,i * R.size+j,none⟩:=rfl
  rw [this,run_store P w _ u _ h1,hu0]
  simp only [hf,Bool.false_eq_true,if_false,Result.andThen_ok,Sem.run_pure]
 simp only [execOp,ha.ev hx,ha.ev hy,Instr.storeAt,Instr.sureAddr,Sem.run_bind,Sem.run_pure,Result.andThen_ok,hst]
theorem bpN {e u:TypeId} {q:Option Addr} (ht:P.underlying t=some (.pointer e)) (hx:ev E x=some (.pointer q)) (hy:ev E y=some (.pointer none)):Runs P E ⟨d, .binOp .eql t x y u,ty,pos,af,g⟩ w (.bool q.isNone) w:=fun n a ha=>by
 have h1:P.underlying t=some (.pointer (P.pointee t)):=by simp [Program.pointee,ht]
 have:(eqGuard .eql t x y (.pointer q) (.pointer none)).run P w= .ok () w:=by cases x<;>cases y<;>rfl
 simp only [execOp,ha.ev hx,ha.ev hy,Sem.run_bind,this,run_eql_pointer_nil w t q h1,Result.andThen_ok,Sem.run_pure]
def EqS (P:Program) {α:Type} [DecidableEq α] (cells:α→List Value) (t:TypeId):Prop:=∀ (a b:α) (w:World),(binOp .eql t (.agg (cells a).toArray) (.agg (cells b).toArray)).run P w= .ok (.bool (decide (a=b))) w∧(binOp .neq t (.agg (cells a).toArray) (.agg (cells b).toArray)).run P w= .ok (.bool (!decide (a=b))) w
theorem eqGuard_agg {o:BinOp} {xs ys:Array Value} (h:P.eqGuardType P.depth t=false):(eqGuard o t x y (.agg xs) (.agg ys)).run P w= .ok () w:=by
 cases o<;>simp [eqGuard,h]
theorem bnS {α:Type} [DecidableEq α] {cells:α→List Value} {u:TypeId} {p q:α} (hE:EqS P cells t) (hG:P.eqGuardType P.depth t=false) (hx:ev E x=some (.agg (cells p).toArray)) (hy:ev E y=some (.agg (cells q).toArray)):Runs P E ⟨d, .binOp .neq t x y u,ty,pos,af,g⟩ w (.bool (!decide (p=q))) w:=fun n a ha=>by
 simp only [execOp,ha.ev hx,ha.ev hy,Sem.run_bind,eqGuard_agg hG,(hE p q w).2,Result.andThen_ok,Sem.run_pure]
theorem ixk {u i:Value} (hx:ev E x=some u) (hy:ev E y=some i) (hr:(Instr.index t u i).run P w= .ok v w):Runs P E ⟨d, .index t x y,ty,pos,af,g⟩ w v w:=fun n a ha=>by
 simp only [execOp,ha.ev hx,ha.ev hy,Sem.run_bind,hr,Result.andThen_ok,Sem.run_pure]
theorem mn {k:IntKind} {i j:Int} {ts:Array TypeId} (hx:ev E x=some (.int k i)) (hy:ev E y=some (.int k j)):Runs P E ⟨d, .call {callee:= .builtin .min,args:=#[x,y],argTypes:=ts},ty,pos,af,g⟩ w (.int k (min i j)) w :=
 bi (vs:= [.int k i, .int k j]) (by simp only [evs,hx,hy]) fun cs=>by
  have:=run_min_int2 (P:=P) (w:=w) ts ty k k i j
  simp only [builtin,Sem.run_bind,this,Result.andThen_ok,Sem.run_pure]
  congr 3;rw [Int.min_def];split<;>split<;>omega
theorem mx {k:IntKind} {i j:Int} {ts:Array TypeId} (hx:ev E x=some (.int k i)) (hy:ev E y=some (.int k j)):Runs P E ⟨d, .call {callee:= .builtin .max,args:=#[x,y],argTypes:=ts},ty,pos,af,g⟩ w (.int k (max i j)) w :=
 bi (vs:= [.int k i, .int k j]) (by simp only [evs,hx,hy]) fun cs=>by
  have:=run_max_int2 (P:=P) (w:=w) ts ty k k i j
  simp only [builtin,Sem.run_bind,this,Result.andThen_ok,Sem.run_pure]
  congr 3;rw [Int.max_def];split<;>split<;>omega
end
end Go.Proofs.YtlikikpgmmkjbaaGreat
set_option linter.unusedVariables false
set_option linter.unusedSimpArgs false
namespace Go.Proofs.YtlikikpgmmkjbaaGreat
open Go.RowKit

section
variable {P:Program} {n:Nat} {E:List (Nat×Value)} {a:Act} {w w0:World} {Q:Exit→Act→World→Prop} {ops:Array Oper} {kd:Nat→Nat}
def setAll (r:List Nat) (l:Array Bool):Array Bool:=match r with | []=>l | i::r=>setAll r (l.setIfInBounds i true)
def flow1B (ops:Array Oper) (kd:Nat→Nat):List Nat→Array Bool→Bool
 | [],_=>true
 | i::r,l=>(match kd i with
   | 0=>Region.free .any ops l i && (Region.ready .any ops l).contains i && barOk ops kd l i
   | 1=>Region.free .any ops l i && (Region.ready .any ops l).contains i
   | _=>false) && flow1B ops kd r (l.setIfInBounds i true)
def batchB (ops:Array Oper) (kd:Nat→Nat) (r:List Nat):Nat→List Nat→Array Bool→Bool
 | 0,R,l=>R.isEmpty && flowB ops kd r l
 | f+1,R,l=> !(Region.ready .any ops l).isEmpty && (Region.ready .any ops l).all fun j=>R.contains j && Nat.beq (kd j) 2 && batchB ops kd r f (R.erase j) (l.setIfInBounds j true)
theorem any_of_flow1 (hs:Region.noSelect ops=true) (hQ:∀ c a w,¬ Q (.panic c) a w) {Q':Exit→Act→World→Prop} {m:Nat}:∀ (r:List Nat) (l:Array Bool) (a:Act) (w0:World),l.size=ops.size→flow1B ops kd r l=true→wpFlow P ops Q' kd r a w0→
  (∀ a w0,(∀ w,Ext w0 w→Q' .normal a w)→anyF P ops Q kd m (setAll r l) a w0)→anyF P ops Q kd (r.length+m) l a w0
 | [],l,a,w0,_,_,h,hC=>by rw [List.length_nil,Nat.zero_add];exact hC a w0 h
 | i::r,l,a,w0,hl,hB,h,hC=>by
  rw [List.length_cons,Nat.succ_add]
  obtain ⟨o,ho,h⟩:=h
  have hsel:=Region.noSelect_spec hs
  rcases h with ⟨hk,v,hq,hK⟩ | ⟨hk,v,hq,hK⟩ | ⟨hk,h⟩
  ·simp only [flow1B,hk,Bool.and_eq_true] at hB
   obtain ⟨⟨⟨hf,hr⟩,hb⟩,hB⟩:=hB
   obtain ⟨R,r1,r2,r3⟩:=barOk_spec hl hb
   exact firstF ho (by omega) hsel hQ (fun w0 a=>QIn P ops w0 o v a) (fun _ _ h=>h) (fun _ _ _ h he hw=>h.of_same he hw) (fun _ _ _ hx h=>h.on hx) R l r1 (.inr r3) _ _ _ _ r2 (fun _ h=>h) (Region.free_spec ho hf) (by simpa using hr) hq
    (any_of_flow1 hs hQ r _ _ _ (by simpa using hl) hB hK hC)
  ·simp only [flow1B,hk,Bool.and_eq_true] at hB
   obtain ⟨⟨hf,hr⟩,hB⟩:=hB
   exact firstF ho (by omega) hsel hQ (fun _ a=>Yields P ops o v a) (fun _ _ h=>Yields.qin h) (fun _ _ _ h he hw=>h.of_same he hw) (fun _ _ _ _ h=>h) (fun _=>true) l (fun _ _ _ _ _=>rfl) (.inl fun _ _ _ h=>h) _ _ _ _ (fun _ _=>rfl) (fun _ h=>h) (Region.free_spec ho hf) (by simpa using hr) hq
    (any_of_flow1 hs hQ r _ _ _ (by simpa using hl) hB hK hC)
  ·obtain ⟨k,hk2⟩:∃ k,kd i=k+2:=⟨kd i - 2,by omega⟩
   simp only [flow1B,hk2,Bool.false_and,Bool.false_eq_true] at hB
theorem Agr.putF {d:Nat} (h:Agr n E a) (hf:look E d=Option.none) (v:Value):Agr n E (a.put (some d) v):=by
 refine ⟨h.d,by simp [Act.put,h.s],fun t u hu=> ?_⟩
 have hne:d≠t:=fun e=>by rw [e,hu] at hf;cases hf
 simp only [Act.put]
 rw [Array.getElem?_setIfInBounds_ne hne]
 exact h.g t u hu
structure Mk (P:Program) (n:Nat) (ops:Array Oper) (Q:Exit→Act→World→Prop) (E:List (Nat×Value)) (w0:World) (i d:Nat) (Φ:Value→List Nat→World→Prop):Prop where
 mono:∀ v f w w',Φ v f w→Ext w w'→Φ v f w'
 free:look E d=none
 bd:Nat.blt d n=true
 run:∀ (a:Act) (w:World) (K:Act→World→Prop),Agr n E a→Ext w0 w→(∀ v w' f,Ext w w'→(∀ q∈f,w.heap.size≤q∧q<w'.heap.size)→Φ v f w'→K (a.put (some d) v) w')→wpOp P ops (nrm (Q .normal)) i K a w
abbrev Made:=Nat×Nat×(Value→List Nat→World→Prop)
def AQ (P:Program) (ops:Array Oper) (Q:Exit→Act→World→Prop) (kd:Nat→Nat) (B τ:List Nat) (l:Array Bool):Exit→Act→World→Prop
 | .normal,a,w=>Region.noSelect ops=true→l.size=ops.size→batchB ops kd τ B.length B l=true→anyF P ops (nrm (Q .normal)) kd (B.length+τ.length) l a w
 | _,_,_=>False
theorem setAll_size:∀ (r:List Nat) (l:Array Bool),(setAll r l).size=l.size
 | [],_=>rfl
 | i::r,l=>by unfold setAll;rw [setAll_size r];simp
def nodupB:List Nat→Bool
 | []=>true
 | x::r=> !r.elem x && nodupB r
variable {d i:Nat} {ty:TypeId} {pos:String} {af:Array Edge} {x y z:Operand} {t:TypeId} {v:Value}
def NewB (cs:List Value) (t:TypeId) (v:Value) (f:List Nat) (w:World):Prop:=∃ b,v= .pointer (some ⟨b,0,none⟩)∧f= [b]∧Blk w b cs t (0,0)
end
end Go.Proofs.YtlikikpgmmkjbaaGreat
set_option linter.unusedVariables false
set_option linter.unusedSimpArgs false
namespace Go.Proofs.YtlikikpgmmkjbaaGreat
open Go.RowKit

section
variable {P:Program} {n:Nat} {E E':List (Nat×Value)} {a:Act} {w w' w0 w1:World} {Q:Exit→Act→World→Prop} {ops:Array Oper}
variable {d:Option Nat} {ty:TypeId} {pos:String} {af:Array Edge} {g:Option (Nat×Bool)} {x y z u:Operand} {t:TypeId} {rest:List Oper} {v:Value}
theorem ng {i:Int} (hx:ev E x=some (.int .i64 i)) (h:IntKind.i64.wrap (-i)= -i):Runs P E ⟨d, .unOp .neg t x,ty,pos,af,g⟩ w (.int .i64 (-i)) w:=fun n a ha=>by
 have:(execOp a.eval ⟨d, .unOp .neg t x,ty,pos,af,g⟩).run P w= .ok (.value (.int .i64 (IntKind.i64.wrap (-i)))) w:=by
  have h0:(0:Int) - i= -i:=Int.zero_sub i
  have hu:(Op.unary .neg (.int .i64 i)).run P w= .ok (.int .i64 (IntKind.i64.wrap (-i))) w:=by
   show (Op.intArith .sub .i64 0 i).run P w=_
   simp [Op.intArith,h0]
  simp only [execOp,ha.ev hx,Sem.run_bind,hu,Result.andThen_ok,Sem.run_pure]
 rw [this,h]
theorem mX {k:IntKind} {i j l m:Int} {ts:Array TypeId} (hx:ev E x=some (.int k i)) (hy:ev E y=some (.int k j)) (hz:ev E z=some (.int k l)) (hu:ev E u=some (.int k m)):Runs P E ⟨d, .call {callee:= .builtin .max,args:=#[x,y,z,u],argTypes:=ts},ty,pos,af,g⟩ w (.int k (max (max (max i j) l) m)) w :=
 bi (vs:= [.int k i, .int k j, .int k l, .int k m]) (by simp only [evs,hx,hy,hz,hu]) fun cs=>by
  have e:∀ a b:Int,(if b > a then b else a)=max a b:=fun a b=>by rw [Int.max_def];split<;>split<;>omega
  have:(Builtin.max_ ts ty #[.int k i, .int k j, .int k l, .int k m]).run P w= .ok (.int k (max (max (max i j) l) m)) w:=by
   rw [← e,← e,← e]
   simp [Builtin.max_,Builtin.max2]
  simp only [builtin,Sem.run_bind,this,Result.andThen_ok,Sem.run_pure]
end
def IsEnt (e:MapEntry) (p:Int×Int):Prop:=e.key= .int .i64 p.1∧e.val= .int .i64 p.2
def MapI (w:World) (r:Nat) (l:List (Int×Int)):Prop:=∃ (es:Array MapEntry) (clock:Nat),w.heap[r]? =some (.map es clock)∧All2 IsEnt es.toList l
def getI (l:List (Int×Int)) (k:Int):Option Int:=(l.find? fun p=>p.1 == k).map (·.2)
section
variable {w w':World} {r:Nat} {l:List (Int×Int)} {S:List Nat}
theorem MapI.lt (h:MapI w r l):r<w.heap.size:=by
 obtain ⟨es,c,h1,_⟩:=h
 exact (Array.getElem?_eq_some_iff.1 h1).1
theorem MapI.later (h:MapI w r l) (x:Ext w w'):MapI w' r l:=by
 have hl:=h.lt
 obtain ⟨es,c,h1,h2⟩:=h
 exact ⟨es,c,by rw [x.block r hl];exact h1,h2⟩
theorem MapI.mod (h:MapI w r l) (m:Mod S w w') (hs:r∉S):MapI w' r l:=by
 have hl:=h.lt
 obtain ⟨es,c,h1,h2⟩:=h
 exact ⟨es,c,by rw [m.block r hl hs];exact h1,h2⟩
theorem findNow_I (k:Int):∀ {es:List MapEntry} {l:List (Int×Int)} (i:Nat),All2 IsEnt es l→(getI l k=none→Instr.findNow (.int .i64) (.int .i64 k) es i=some none)∧(∀ v,getI l k=some v→∃ j,Instr.findNow (.int .i64) (.int .i64 k) es i=some (some (j, .int .i64 v)))
 | [], [],i,_=>⟨fun _=>rfl,fun v h=>by simp [getI] at h⟩
 | e::es,p::l,i,h=>by
  obtain ⟨⟨hk,hv⟩,h2⟩:=h
  have ih:=findNow_I k (i+1) h2
  have hsn:Instr.sameNow (.int .i64) (.int .i64 k) e.key=some (decide (k=p.1)):=by
   rw [hk]
   obtain ⟨q,hq,hi⟩:=MapKept.sameNow_of_keys (d:= .int .i64) (a:= .int .i64 k) (b:= .int .i64 p.1) rfl rfl
   rw [hq]
   cases q with
   | true=>have:=hi.1 rfl;injection this with _ this;rw [decide_eq_true this]
   | false=>rw [decide_eq_false fun e=>by have:=hi.2 (by rw [e]);cases this]
  by_cases he:k=p.1
  ·have hb:(p.1 == k)=true:=by simp [he]
   rw [decide_eq_true he] at hsn
   refine ⟨fun h0=>by simp [getI,List.find?,hb] at h0,fun v h0=>⟨i, ?_⟩⟩
   have:p.2=v:=by simpa [getI,List.find?,hb] using h0
   simp [Instr.findNow,hsn,hv,this]
  ·have hb:(p.1 == k)=false:=by simpa using fun e=>he e.symm
   rw [decide_eq_false he] at hsn
   have hg:getI (p::l) k=getI l k:=by simp [getI,List.find?,hb]
   rw [hg]
   simpa [Instr.findNow,hsn] using ih
end
section
variable {P:Program} {n:Nat} {E E':List (Nat×Value)} {a:Act} {w w' w0 w1:World} {Q:Exit→Act→World→Prop} {ops:Array Oper}
variable {d:Option Nat} {ty:TypeId} {pos:String} {af:Array Edge} {g:Option (Nat×Bool)} {x y z u:Operand} {t:TypeId} {rest:List Oper} {v:Value}
theorem mm {d:Nat} (hd:Nat.blt d n=true) (h:∀ w1 r,Ext w w1→w.heap.size≤r→MapI w1 r []→WL P n ops Q rest ((d, .map (some r))::E) w1):WL P n ops Q (⟨some d, .makeMap t none,ty,pos,af,none⟩::rest) E w:=by
 refine vl (w':=w.alloc (.map #[] 0)) (v:= .map (some w.heap.size)) (fun n a ha=> ?_) hd (h _ _ ((Below.refl _ w).alloc (Nat.le_refl _) _) (Nat.le_refl _) ⟨#[],0,(MapKept.heap_alloc w _).1,trivial⟩)
 simp only [execOp,Option.map,Sem.run_bind,run_makeMap_plain,Result.andThen_ok,Sem.run_pure]
theorem lk {kt et:TypeId} {r:Nat} {l:List (Int×Int)} {k:Int} (hm:P.underlying t=some (.map kt et)) (hk:P.underlying kt=some (.int .i64)) (he:Zv P et (.int .i64 0)) (h:MapI w r l) (hx:ev E x=some (.map (some r))) (hy:ev E y=some (.int .i64 k)):
  Runs P E ⟨d, .lookup t x y true,ty,pos,af,g⟩ w (.tuple #[.int .i64 ((getI l k).getD 0), .bool (getI l k).isSome]) w:=fun n a ha=>by
 obtain ⟨es,c,h1,h2⟩:=h
 have hf:=findNow_I k 0 h2
 have hck:=MapKept.run_checkKey (P:=P) (w:=w) hk (show MapKept.IsKey (.int .i64) (.int .i64 k) from rfl) es.isEmpty 9999
 have hrun:(Instr.lookup t (.map (some r)) (.int .i64 k) true).run P w= .ok (.tuple #[.int .i64 ((getI l k).getD 0), .bool (getI l k).isSome]) w:=by
  cases hg:getI l k with
  | none =>
   have:=MapKept.run_findKey (P:=P) (w:=w) hk (hf.1 hg)
   simp [Instr.lookup,Sem.run_bind,run_underlying hm,MapKept.run_getObj_map h1,hck,this,he w,Result.andThen]
  | some v =>
   obtain ⟨j,hj⟩:=hf.2 v hg
   have:=MapKept.run_findKey (P:=P) (w:=w) hk hj
   simp [Instr.lookup,Sem.run_bind,run_underlying hm,MapKept.run_getObj_map h1,hck,this,Result.andThen]
 simp only [execOp,ha.ev hx,ha.ev hy,Sem.run_bind,hrun,Result.andThen_ok,Sem.run_pure]
theorem mu {kt et:TypeId} {r:Nat} {l:List (Int×Int)} {k v:Int} (hm:P.underlying t=some (.map kt et)) (hk:P.underlying kt=some (.int .i64)) (h:MapI w r l) (hg:getI l k=none) (hx:ev E x=some (.map (some r))) (hy:ev E y=some (.int .i64 k)) (hz:ev E z=some (.int .i64 v))
  (hK:∀ w1,Mod [r] w w1→MapI w1 r (l++ [(k,v)])→WL P n ops Q rest E w1):WL P n ops Q (⟨none, .mapUpdate t x y z,ty,pos,af,none⟩::rest) E w:=by
 have hlt:=h.lt
 obtain ⟨es,c,h1,h2⟩:=h
 have hf:=(findNow_I k 0 h2).1 hg
 have hck:=MapKept.run_checkKey (P:=P) (w:=w) hk (show MapKept.IsKey (.int .i64) (.int .i64 k) from rfl) false 9999
 have hfk:=MapKept.run_findKey (P:=P) (w:=w) hk hf
 have hset:=MapKept.run_setObj_map (P:=P) (.map (es.push {key:= .int .i64 k,val:= .int .i64 v,born:=c}) (c+1)) h1
 refine us (w':= {w with heap:=w.heap.setIfInBounds r (.map (es.push {key:= .int .i64 k,val:= .int .i64 v,born:=c}) (c+1))}) (fun n a ha=> ?_) (hK _ ⟨rfl,rfl,rfl,by simp,fun q hq hn=> ?_⟩ ⟨es.push {key:= .int .i64 k,val:= .int .i64 v,born:=c},c+1,(MapKept.heap_set h1).1, ?_⟩)
 ·have hrun:(Instr.mapUpdate t (.map (some r)) (.int .i64 k) (.int .i64 v)).run P w= .ok () {w with heap:=w.heap.setIfInBounds r (.map (es.push {key:= .int .i64 k,val:= .int .i64 v,born:=c}) (c+1))}:=by
   simp [Instr.mapUpdate,Sem.run_bind,run_underlying hm,MapKept.run_getObj_map h1,hck,hfk,hset,Result.andThen]
  simp only [execOp,ha.ev hx,ha.ev hy,ha.ev hz,Sem.run_bind,hrun,Result.andThen_ok,Sem.run_pure]
 ·exact (MapKept.heap_set h1).2 q (by simpa using hn)
 ·rw [Array.toList_push]
  exact h2.app ⟨⟨rfl,rfl⟩,trivial⟩
end
theorem made_own {w:World} {B e size c m:Nat} {G:Nat→Value→Prop} {z:Array Value} (hz:z.size=size) (h0:0<size) (hG:∀ (j:Nat) u,z[j]? =some u→G j u) (hB:B≤w.heap.size) (hm:m≤c) (hc:c≤maxLen):
  Own (w.alloc (.cells (madeCells z (c * size)) e)) B e size G (.slice (some ⟨w.heap.size,0,none⟩) m c) m ((madeCells z (c * size)).toList.take (m * size)):=by
 have hms:m * size≤c * size:=Nat.mul_le_mul_right _ hm
 refine ⟨by rw [List.length_take,Array.length_toList,size_madeCells];omega, .inr ⟨w.heap.size,c,_,rfl,hB,(MapKept.heap_alloc w _).1,hm,hc,size_madeCells _ _,rfl,fun j u hu=> ?_⟩⟩
 have hlt:=(Array.getElem?_eq_some_iff.1 hu).1
 simp only [madeCells,Array.getElem?_map] at hu
 rw [size_madeCells] at hlt
 rw [Array.getElem?_range,if_pos hlt] at hu
 have hj:j % size<z.size:=by rw [hz];exact Nat.mod_lt _ h0
 have e:z[j % z.size]! =z[j % size]:=by rw [hz];exact getElem!_pos z (j % size) hj
 rw [Option.map_some,e] at hu
 exact hG _ _ (by rw [Array.getElem?_eq_getElem hj];exact hu)
section
variable {P:Program} {n:Nat} {E E':List (Nat×Value)} {a:Act} {w w' w0 w1:World} {Q:Exit→Act→World→Prop} {ops:Array Oper}
variable {d:Nat} {ty:TypeId} {pos:String} {af:Array Edge} {g:Option (Nat×Bool)} {x y z:Operand} {t:TypeId} {rest:List Oper}
theorem make_core {α:Type} {R:Rep α} {e by_ B m c:Nat} {zv:Value} {l:List α} (hP:R.Plain) (ht:P.underlying t=some (.slice e)) (hi:(P.info? e).map (fun i=>(i.zero,i.size,i.bytes))=some (some zv,R.size,by_)) (h1:zv.cells.size=R.size) (h2:0<R.size) (h3:∀ (j:Nat) u,zv.cells[j]? =some u→R.raw j u)
  (hx:ev E x=some (.int .i64 (m:Int))) (hy:ev E y=some (.int .i64 (c:Int))) (hd:Nat.blt d n=true) (hm:m≤c) (hb:c * by_≤140737488355328) (hc:c≤9223372036854775807) (hB:B≤w.heap.size) (hl:l.length=m) {ess:List (List Value)} (hess:∀ w,All2 (fun es a=>R.has w es a) ess l) (hfl:ess.flatten=(madeCells zv.cells (c * R.size)).toList.take (m * R.size))
  (h:∀ w1 b,Ext w w1→w.heap.size≤b→R.SOwn e by_ w1 B (Rep.blkOf (some ⟨b,0,none⟩)) (some ⟨b,0,none⟩) c l→WL P n ops Q rest ((d, .slice (some ⟨b,0,none⟩) m c)::E) w1):WL P n ops Q (⟨some d, .makeSlice t x y,ty,pos,af,none⟩::rest) E w:=by
 cases hq:P.info? e with
 | none=>rw [hq] at hi;cases hi
 | some i =>
  rw [hq] at hi
  simp only [Option.map_some,Option.some.injEq,Prod.mk.injEq] at hi
  obtain ⟨i1,i2,i3⟩:=hi
  have hb2:(i.bytes:Int) * (c:Int)≤281474976710656:=by
   have:i.bytes * c≤281474976710656:=by rw [i3,Nat.mul_comm];omega
   have h:((i.bytes * c:Nat):Int)≤281474976710656:=by omega
   rwa [Int.natCast_mul] at h
  have hr:=run_make (P:=P) w t e i zv ht hq i1 .i64 .i64 (m:Int) (c:Int) (by omega) (by omega) hb2 (by omega)
  simp only [Int.toNat_natCast] at hr
  have ho:=made_own (w:=w) (e:=e) (c:=c) (m:=m) h1 h2 h3 hB hm (by simp [maxLen];omega)
  rw [← hfl] at ho
  subst hl
  rw [i2] at hr
  refine vl (fun n a ha=> ?_) hd (h _ w.heap.size ((Below.refl _ w).alloc (Nat.le_refl _) _) (Nat.le_refl _) (Rep.SOwn.of_plain (R:=R) hP (hess _) (Nat.le_trans (Nat.mul_le_mul_right _ hm) hb) ho))
  simp only [execOp,ha.ev hx,ha.ev hy,Sem.run_bind,hr,Result.andThen_ok,Sem.run_pure]
theorem mZ {α:Type} {R:Rep α} {e by_ B c:Nat} {zv:Value} (hP:R.Plain) (ht:P.underlying t=some (.slice e)) (hi:(P.info? e).map (fun i=>(i.zero,i.size,i.bytes))=some (some zv,R.size,by_)) (h1:zv.cells.size=R.size) (h2:0<R.size) (h3:∀ (j:Nat) u,zv.cells[j]? =some u→R.raw j u)
  (hx:ev E x=some (.int .i64 0)) (hy:ev E y=some (.int .i64 (c:Int))) (hd:Nat.blt d n=true) (hb:c * by_≤140737488355328) (hc:c≤9223372036854775807) (hB:B≤w.heap.size)
  (h:∀ w1 b,Ext w w1→w.heap.size≤b→R.SOwn e by_ w1 B (Rep.blkOf (some ⟨b,0,none⟩)) (some ⟨b,0,none⟩) c ([]:List α)→WL P n ops Q rest ((d, .slice (some ⟨b,0,none⟩) 0 c)::E) w1):WL P n ops Q (⟨some d, .makeSlice t x y,ty,pos,af,none⟩::rest) E w :=
 make_core (m:=0) (l:=([]:List α)) (ess:= []) hP ht hi h1 h2 h3 hx hy hd (Nat.zero_le _) hb hc hB rfl (fun _=>trivial) (by simp) h
theorem mO {α:Type} {R:Rep α} {e by_ B c:Nat} {zv:Value} {q:α} (hP:R.Plain) (ht:P.underlying t=some (.slice e)) (hi:(P.info? e).map (fun i=>(i.zero,i.size,i.bytes))=some (some zv,R.size,by_)) (hs:R.size=1) (h1:zv.cells=#[zv]) (h3:∀ (j:Nat) u,zv.cells[j]? =some u→R.raw j u) (hq:∀ w,R.has w [zv] q)
  (hx:ev E x=some (.int .i64 (c:Int))) (hy:ev E y=some (.int .i64 (c:Int))) (hd:Nat.blt d n=true) (hb:c * by_≤140737488355328) (hc:c≤9223372036854775807) (hB:B≤w.heap.size)
  (h:∀ w1 b,Ext w w1→w.heap.size≤b→R.SOwn e by_ w1 B (Rep.blkOf (some ⟨b,0,none⟩)) (some ⟨b,0,none⟩) c (List.replicate c q)→WL P n ops Q rest ((d, .slice (some ⟨b,0,none⟩) c c)::E) w1):WL P n ops Q (⟨some d, .makeSlice t x y,ty,pos,af,none⟩::rest) E w:=by
 refine make_core (m:=c) (ess:=List.replicate c [zv]) hP ht hi (by rw [h1,hs];rfl) (by omega) h3 hx hy hd (Nat.le_refl _) hb hc hB (by simp) (fun w=> ?_) ?_ h
 ·clear h hb hc hx hy
  induction c with
  | zero=>trivial
  | succ c ih=>exact ⟨hq w,ih⟩
 ·rw [hs,Nat.mul_one,h1]
  apply List.ext_getElem?
  intro i
  simp only [List.getElem?_take,Array.getElem?_toList,madeCells,Array.getElem?_map,Array.getElem?_range]
  have e1:∀ k:Nat,(List.replicate k [zv]).flatten=List.replicate k zv:=fun k=>by
   induction k with
   | zero=>rfl
   | succ k ih=>simp [List.replicate_succ,ih]
  rw [e1,List.getElem?_replicate]
  split
  ·simp [Nat.mod_one]
  ·rfl
end
def sA (A:Option Addr) (c lo s:Nat):Option Addr:=if c=lo then A else A.map (·.add (lo * s))
theorem flatten_drop {β:Type} {size:Nat}:∀ (lo:Nat) {ess:List (List β)},(∀ x∈ess,x.length=size)→(ess.drop lo).flatten=ess.flatten.drop (lo * size)
 | 0,ess,_=>by simp
 | lo+1, [],_=>by simp
 | lo+1,x::ess,h=>by
  have hx:=h x List.mem_cons_self
  rw [List.drop_succ_cons,flatten_drop lo fun y hy=>h y (List.mem_cons_of_mem _ hy),List.flatten_cons,Nat.succ_mul,Nat.add_comm,← List.drop_drop]
  congr 1
  rw [List.drop_append_of_le_length (by omega),List.drop_of_length_le (by omega)];rfl
theorem flatten_take {β:Type} {size:Nat}:∀ (n:Nat) {ess:List (List β)},(∀ x∈ess,x.length=size)→(ess.take n).flatten=ess.flatten.take (n * size)
 | 0,ess,_=>by simp
 | n+1, [],_=>by simp
 | n+1,x::ess,h=>by
  have hx:=h x List.mem_cons_self
  have e:(n+1) * size=size+n * size:=by rw [Nat.succ_mul,Nat.add_comm]
  rw [List.take_succ_cons,List.flatten_cons,flatten_take n fun y hy=>h y (List.mem_cons_of_mem _ hy),List.flatten_cons,e,List.take_append,hx,Nat.add_sub_cancel_left,List.take_of_length_le (by rw [hx];omega:x.length≤size+n * size)]
theorem All2.drop {α β:Type} {P:β→α→Prop}:∀ (n:Nat) {l:List β} {m:List α},All2 P l m→All2 P (l.drop n) (m.drop n)
 | 0,_,_,h=>h
 | n+1, [], [],_=>trivial
 | n+1,_::_,_::_,h=>All2.drop n h.2
theorem All2.take {α β:Type} {P:β→α→Prop}:∀ (n:Nat) {l:List β} {m:List α},All2 P l m→All2 P (l.take n) (m.take n)
 | 0,_,_,_=>trivial
 | n+1, [], [],_=>trivial
 | n+1,_::_,_::_,h=>⟨h.1,All2.take n h.2⟩
theorem Rep.SHas.sub {α:Type} {R:Rep α} {by_ c:Nat} {A:Option Addr} {l:List α} {w:World} (h:R.SHas by_ w A c l) (lo hi:Nat) (h1:lo≤hi) (h2:hi≤l.length):R.SHas by_ w (sA A c lo R.size) (c - lo) ((l.drop lo).take (hi - lo)):=by
 obtain ⟨g1,g2,g3,g4,ess,g5,g6⟩:=h
 have hlen:((l.drop lo).take (hi - lo)).length=hi - lo:=by rw [List.length_take,List.length_drop];omega
 have hu:∀ x∈ess,x.length=R.size:=fun x hx=>by obtain ⟨a,ha⟩:=g5.left x hx;exact R.len ha
 refine ⟨by rw [hlen];omega,by omega,by rw [hlen];exact Nat.le_trans (Nat.mul_le_mul_right _ (by omega)) g3,fun hn=> ?_,(ess.drop lo).take (hi - lo),(g5.drop lo).take _, ?_⟩
 ·unfold sA at hn
  split at hn
  ·omega
  ·cases A with
   | none=>have:=g4 rfl;omega
   | some a=>cases hn
 ·have hud:∀ x∈ess.drop lo,x.length=R.size:=fun x hx=>hu x (List.mem_of_mem_drop hx)
  have hel:ess.length=l.length:=g5.length
  rw [flatten_take _ hud,flatten_drop _ hu,hlen]
  have hfl:=flat_len hu
  refine ⟨?_,fun h0=> ?_⟩
  ·rw [List.length_take,List.length_drop,hfl,hel,← Nat.sub_mul,Nat.min_eq_left (Nat.mul_le_mul_right _ (by omega))]
  ·obtain ⟨b,o,rfl,hc⟩:=g6.2 (by omega)
   have hne:¬ c=lo:=by omega
   refine ⟨b,o+lo * R.size,by unfold sA;rw [if_neg hne];simp [Addr.add],fun j u hj=> ?_⟩
   rw [List.getElem?_take] at hj
   split at hj
   ·rw [List.getElem?_drop] at hj
    rw [Nat.add_assoc];exact hc _ u hj
   ·cases hj
section
variable {P:Program} {n:Nat} {E E':List (Nat×Value)} {w:World} {d:Option Nat} {ty:TypeId} {pos:String} {af:Array Edge} {g:Option (Nat×Bool)} {x y z:Operand} {t:TypeId}
theorem sI {A:Option Addr} {len cap e s:Nat} {k k':IntKind} (lo hi:Nat) {i j:Int} (ht:P.underlying t=some (.slice e)) (hs:Sz P e s) (hx:ev E x=some (.slice A len cap)) (hy:ev E y=some (.int k i)) (hz:ev E z=some (.int k' j)) (hi1:i=(lo:Int)) (hi2:j=(hi:Int)) (h1:lo≤hi) (h2:hi≤cap):
  Runs P E ⟨d, .slice t x (some y) (some z) none,ty,pos,af,g⟩ w (.slice (sA A cap lo s) (hi - lo) (cap - lo)) w:=fun n a ha=>by
 subst hi1;subst hi2
 have q1:P.underlying t=some (.slice (P.elem t)):=by simp [Program.elem,ht]
 have q2:P.elem t=e:=by simp [Program.elem,ht]
 have h3:=run_slice_lh (P:=P) (w:=w) t A len cap q1 k k' (lo:Int) (hi:Int) (by omega) (by omega) (by omega)
 have h4:=run_sliceAt_slice (P:=P) (w:=w) t (.slice A len cap) (some (.int k (lo:Int))) (some (.int k' (hi:Int))) none q1
 rw [q2,hs w] at h3
 simp only [execOp,ha.ev hx,ha.ev hy,ha.ev hz,Option.map,h4,h3,Sem.run_bind,Result.andThen_ok,Sem.run_pure,sliced,Int.toNat_natCast,sA]
end
end Go.Proofs.YtlikikpgmmkjbaaGreat
set_option linter.unusedVariables false
set_option linter.unusedSimpArgs false
namespace Go.Proofs.YtlikikpgmmkjbaaGreat
open Go.RowKit

section
variable {P:Program} {n:Nat} {E E':List (Nat×Value)} {a:Act} {w w' w0 w1:World} {Q:Exit→Act→World→Prop} {ops:Array Oper}
variable {d:Option Nat} {ty:TypeId} {pos:String} {af:Array Edge} {g:Option (Nat×Bool)} {x y z:Operand} {t:TypeId} {rest:List Oper} {v:Value}
theorem run_callV {f:FuncId} (hf:Enters P f) {xs:Array Operand} {ts:Array TypeId} {args caps:List Value} {a:Act} (ha:Agr n E a) (hx:ev E x=some (.func (.func f) #[] caps.toArray)) (he:evs E xs.toList=some args):
  (execOp a.eval ⟨d, .call {callee:= .value x,args:=xs,argTypes:=ts},ty,pos,af,g⟩).run P w= .ok (.enter f (args++caps).toArray) w:=by
 obtain ⟨fn,h1,h2,h3⟩:=hf
 have hm:xs.map a.eval=args.toArray:=by rw [← ha.evs he];apply Array.ext';simp
 have hp:Sem.run P program w= .ok P w:=rfl
 unfold execOp
 simp only [resolve,invoke,Deferred.ofValue,ha.ev hx,callFunc,Sem.run_bind,Sem.run_pure,Result.andThen_ok,hm,hp,h1,h2,h3,Array.empty_append,Bool.false_eq_true,if_false]
 simp
theorem cv {d:Nat} {f:FuncId} (hf:Enters P f) {xs:Array Operand} {ts:Array TypeId} {args caps:List Value} (hx:ev E x=some (.func (.func f) #[] caps.toArray)) (he:evs E xs.toList=some args) (hd:Nat.blt d n=true)
  (h:Calls P f (args++caps).toArray w fun e w'=>∃ v,e= .returned v∧WL P n ops Q rest ((d,v)::E) w'):WL P n ops Q (⟨some d, .call {callee:= .value x,args:=xs,argTypes:=ts},ty,pos,af,none⟩::rest) E w:=fun a ha=>by
 refine WL_one rfl ?_
 unfold Oper.wp
 rw [run_callV hf ha hx he]
 refine Calls.mono h fun e w' hh=> ?_
 obtain ⟨v,rfl,h⟩:=hh
 exact h _ (ha.put hd v)
theorem ne {fn:Func} {R:Ending→World→Prop} (h:T n (bodyPost P fn R) E w):N n (bodyPost P fn R) E w:=fun a ha=>h a ha
end
def Raw (Z size j:Nat) (w:World) (A:Option Addr) (c:Nat):Prop :=
 (A=none∧c=0)∨∃ (b:Nat) (cur:List Value) (e:TypeId),A=some ⟨b,0,none⟩∧Z≤b∧Blk w b cur e (0,0)∧∀ i,i<c→∃ m:Int,cur[i * size+j]? =some (.int .i64 m)
section
variable {w w':World} {Z size j c i:Nat} {A:Option Addr} {S:List Nat}
theorem Raw.later (h:Raw Z size j w A c) (x:Ext w w'):Raw Z size j w' A c:=by
 rcases h with h | ⟨b,cur,e,h1,h2,h3,h4⟩
 ·exact .inl h
 ·exact .inr ⟨b,cur,e,h1,h2,h3.later x,h4⟩
theorem Raw.adr (h:Raw Z size j w A c) (h0:0<c):A=some ⟨bA A,oA A,none⟩:=by
 rcases h with ⟨_,h⟩ | ⟨b,cur,e,rfl,_⟩
 ·omega
 ·rfl
theorem Raw.get (h:Raw Z size j w A c) (hi:i<c):∃ m:Int,w.cell? ⟨bA A,oA A+i * size+j,none⟩=some (.int .i64 m):=by
 rcases h with ⟨_,h⟩ | ⟨b,cur,e,rfl,_,h3,h4⟩
 ·omega
 ·obtain ⟨m,hm⟩:=h4 i hi
  exact ⟨m,by rw [show (⟨bA (some ⟨b,0,none⟩),oA (some ⟨b,0,none⟩)+i * size+j,none⟩:Addr)=⟨b,i * size+j,none⟩ from by simp [bA,oA],h3.cell,hm]⟩
end
end Go.Proofs.YtlikikpgmmkjbaaGreat
namespace Go.Proofs.YtlikikpgmmkjbaaGreat
end Go.Proofs.YtlikikpgmmkjbaaGreat
