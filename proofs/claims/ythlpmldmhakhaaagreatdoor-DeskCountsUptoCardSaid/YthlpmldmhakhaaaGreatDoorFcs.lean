import Derived.Test.YthlpmldmhakhaaaGreatDoorBas
import Derived.Test.YthlpmldmhakhaaaGreatDoorProg
import Derived.WideMake
set_option linter.unusedVariables false
set_option linter.unusedSimpArgs false
set_option maxRecDepth 100000
set_option maxHeartbeats 4000000
open Go.RowKit
namespace Go.Proofs.YthlpmldmhakhaaaGreatDoor
open Tryz
open Tryz
abbrev aMZ:=@List.mem_singleton
abbrev aM0:=@List.getD_eq_getElem?_getD
abbrev aM5:=@List.length_nil
abbrev aNo:=@List.mem_cons_self
abbrev aNp:=@decide_eq_true
abbrev aNu:=@decide_eq_false
abbrev aN9:=@Int.toNat_natCast
abbrev aOp:=@Nat.succ_mul
abbrev aOu:=@Nat.le_of_ble_eq_true
abbrev aOv:=@Nat.eq_of_beq_eq_true
abbrev aOy:=@Array.size_replicate
abbrev aOz:=@List.getElem?_replicate
abbrev aOE:=@Nat.lt_of_lt_of_le
abbrev aPc:=@of_decide_eq_false
abbrev aPf:=@List.set_eq_take_append_cons_drop
abbrev aPj:=@Go.run_sliceAt_slice
abbrev aPm:=@List.contains_iff_mem
abbrev aPo:=@List.cons_append
abbrev aPq:=@Nat.add_assoc
abbrev aPs:=@And.left
abbrev aPu:=@Nat.min_eq_left
abbrev aPv:=@List.replicate_succ
abbrev aPy:=@Nat.add_comm
abbrev aPE:=@Array.getElem?_append_left
abbrev aPK:=@Nat.mul_one
abbrev aPN:=@Nat.lt_succ_iff_lt_or_eq
abbrev aPT:=@Nat.ne_of_beq_eq_false
abbrev aP0:=@List.getElem?_toArray
abbrev aQb:=@List.forall_mem_cons
abbrev aQm:=@List.cons.inj
abbrev aQu:=@Go.MapKept.run_findKey
abbrev aQQ:=@Array.getD_eq_getD_getElem?
abbrev aQ2:=@Prod.mk.injEq
abbrev aQ5:=@List.getElem?_take_of_lt
abbrev aQ8:=@Go.size_madeCells
abbrev aRd:=@List.drop_of_length_le
abbrev aRi:=@List.mem_of_mem_erase
abbrev aRm:=@List.mem_of_mem_drop
abbrev aRr:=@List.drop_succ_cons
abbrev aRy:=@not_true_eq_false
abbrev aRB:=@Go.MapKept.run_checkKey

def dB (n:Int):Prop:=(Lit.int .i64 n).wf=true
theorem cI {n:Int}:dB n↔ -9223372036854775808≤n∧n≤9223372036854775807:=by
 unfold dB;simp [Lit.wf,IntKind.min,IntKind.max,IntKind.signed,IntKind.bits]
def bz:Φ Int:=Φ.flat 1 (fun n=> [.int .i64 n]) dB (fun _ u=>∃ n:Int,u= .int .i64 n) (fun _=>rfl) (by intro a u hu;simp at hu;subst hu;rfl) (by
 intro a j u hu;cases j with
 | zero=>simp at hu;exact ⟨a,hu.symm⟩
 | succ j=>simp at hu)
def n1:Φ Bool:=Φ.flat 1 (fun n=> [.bool n]) (fun _=>True) (fun _ u=>∃ n:Bool,u= .bool n) (fun _=>rfl) (by intro a u hu;simp at hu;subst hu;rfl) (by
 intro a j u hu;cases j with
 | zero=>simp at hu;exact ⟨a,hu.symm⟩
 | succ j=>simp at hu)
def e_:Φ ByteArray:=Φ.Nv 1 (fun n=> [.string n]) (fun s=>s.size≤140737488351232) (fun _ u=>∃ n:ByteArray,u= .string n∧n.size≤140737488351232) (fun _=>rfl) (by intro a u hu;simp at hu;subst hu;rfl) (by
 intro a ok j u hu;cases j with
 | zero=>simp at hu;exact ⟨a,hu.symm,ok⟩
 | succ j=>simp at hu)
theorem ayJ:bz.Plain:=Φ.rm
theorem ayL:e_.Plain:=Φ.aaw
theorem pF:e_.vp:=Φ.ap0
section
variable {by_:Nat} {w:World} {A:Option Addr} {c:Nat}
theorem Es {l:List Int} (h:bz.aQ by_ w A c l) (aC:0<l.length):∃ b o,A=some ⟨b,o,none⟩∧∀ (i:Nat) (a:Int),l[i]? =some a→w.cell? ⟨b,o+i,none⟩=some (.int .i64 a):=by
 obtain ⟨b,o,e,hc⟩:=h.at_ aC;refine ⟨b,o,e,fun i a ha=> ?_⟩;obtain ⟨es,⟨rfl,_⟩,aw⟩:=hc i a ha;have:=aw 0 _ rfl;simpa [bz,Φ.flat] using this
theorem ayK {l:List ByteArray} (h:e_.aQ by_ w A c l) (aC:0<l.length):∃ b o,A=some ⟨b,o,none⟩∧∀ (i:Nat) (a:ByteArray),l[i]? =some a→w.cell? ⟨b,o+i,none⟩=some (.string a):=by
 obtain ⟨b,o,e,hc⟩:=h.at_ aC;refine ⟨b,o,e,fun i a ha=> ?_⟩;obtain ⟨es,⟨rfl,_⟩,aw⟩:=hc i a ha;have:=aw 0 _ rfl;simpa [e_,Φ.Nv] using this
end
theorem ayI {by_:Nat} {w:World} {A:Option Addr} {c:Nat} {l:List Int} (h:bz.aQ by_ w A c l):∀ a∈l,dB a:=Φ.aQ.Im (R:=bz) (Q:=dB) (fun {w cs a} (h:bz.has w cs a)=>(show cs= [.int .i64 a]∧dB a from h).2) h
theorem wG:(prog.info? 3).map (fun i=>(i.zero,i.size,i.bytes))=some (some (.int .i64 0),1,8):=by kernel_rfl
theorem jq {α:Type} {l:List α} {i:Nat} (h:i<l.length):∃ a,l[i]? =some a:=⟨_,aM3 h⟩
open Tryz
theorem aB1:∀ (j:Nat) u,(Value.int .i64 0).cells[j]? =some u→bz.raw j u:=by
 intro j u hu;have hu:(#[Value.int .i64 0]:Array Value)[j]? =some u:=hu
 match j,hu with
 | 0,hu=>exact ⟨0,(aNf hu).symm⟩
 | j+1,hu=>cases hu
open Tryz

abbrev Env:=List (Nat×Value)
def look:List (Nat×Value)→Nat→Option Value
 | [],_=>none
 | (k,v)::r,t=>match Nat.beq k t with | true=>some v | false=>look r t
structure c' (n:Nat) (E:List (Nat×Value)) (a:Act):Prop where
 d:a.defers= []
 s:a.tmps.size=n
 g:∀ t v,look E t=some v→a.tmps[t]? =some v
def ev (E:List (Nat×Value)):Operand→Option Value
 | .tmp t=>look E t
 | .const v=>some v
 | .global g=>some (.pointer (some ⟨g,0,none⟩))
 | .func f=>some (.func (.func f) #[] #[])
def fw (E:List (Nat×Value)):List Operand→Option (List Value)
 | []=>some []
 | x::r=>match ev E x with
  | some v=>match fw E r with
   | some l=>some (v::l)
   | none=>none
  | none=>none
section
variable {P:Program} {n:Nat} {E cd:List (Nat×Value)} {a:Act} {w w' aN:World} {Q:Exit→Act→World→Prop} {ops:Array Oper} {v:Value}
theorem c'.ev {x:Operand} (h:c' n E a) (hx:ev E x=some v):a.eval x=v:=by
 cases x with
 | tmp t=>have:=h.g t v hx;simp [Act.eval,this]
 | const u=>exact aNf hx
 | global g=>exact aNf hx
 | func f=>exact aNf hx
theorem c'.fw (h:c' n E a):∀ {l:List Operand} {vs:List Value},fw E l=some vs→l.map a.eval=vs
 | [],_,e=>by simp only [Proofs.YthlpmldmhakhaaaGreatDoor.fw] at e;exact aNf e
 | x::r,vs,e=>by
  simp only [Proofs.YthlpmldmhakhaaaGreatDoor.fw] at e;cases hx:Proofs.YthlpmldmhakhaaaGreatDoor.ev E x with
  | none=>rw [hx] at e;cases e
  | some v =>
   rw [hx] at e;simp only at e;cases hr:Proofs.YthlpmldmhakhaaaGreatDoor.fw E r with
   | none=>rw [hr] at e;cases e
   | some l =>
    rw [hr] at e;simp only at e;obtain rfl:=aNf e;rw [aNF,h.ev hx,c'.fw h hr]
theorem c'.put {d:Nat} (h:c' n E a) (hd:Nat.blt d n=true) (v:Value):c' n ((d,v)::E) (a.put (some d) v):=by
 rw [aPB] at hd;refine ⟨h.d,by simp [Act.put,h.s],fun t u hu=> ?_⟩;simp only [look] at hu;cases af:Nat.beq d t with
 | true =>
  rw [af] at hu;obtain rfl:d=t:=aOv af;obtain rfl:=aNf hu;simp [Act.put,h.s,hd]
 | false =>
  rw [af] at hu;have dF:d≠t:=aPT af;simp only [Act.put];rw [aOt dF];exact h.g t u hu
theorem c'.none (h:c' n E a) (v:Value):c' n E (a.put none v):=h
def Sub (cd E:List (Nat×Value)):Prop:=∀ t v,look cd t=some v→look E t=some v
theorem Sub.nil:Sub [] E:=fun t v h=>by simp [look] at h
theorem Sub.cons {k:Nat} (h:look E k=some v) (hs:Sub cd E):Sub ((k,v)::cd) E:=fun t u hu=>by
 simp only [look] at hu;cases af:Nat.beq k t with
 | true=>rw [af] at hu;obtain rfl:k=t:=aOv af;obtain rfl:=aNf hu;exact h
 | false=>rw [af] at hu;exact hs t u hu
theorem c'.sub (h:c' n E a) (hs:Sub cd E):c' n cd a:=⟨h.d,h.s,fun t v hv=>h.g t v (hs t v hv)⟩
def W (P:Program) (n:Nat) (c:Code) (Q:Exit→Act→World→Prop) (E:List (Nat×Value)) (w:World):Prop:=∀ a,c' n E a→c.wp P Q a w
def N (n:Nat) (Q:Exit→Act→World→Prop) (E:List (Nat×Value)) (w:World):Prop:=∀ a,c' n E a→Q .normal a w
def X (n:Nat) (Q:Exit→Act→World→Prop) (id:Nat) (E:List (Nat×Value)) (w:World):Prop:=∀ a,c' n E a→Q (.exit id) a w
def T (n:Nat) (Q:Exit→Act→World→Prop) (E:List (Nat×Value)) (w:World):Prop:=∀ a,c' n E a→Q .ret a w
def bQ (P:Program) (n:Nat) (ops:Array Oper) (Q:Exit→Act→World→Prop) (l:List Oper) (E:List (Nat×Value)) (w:World):Prop:=∀ a,c' n E a→wpList P ops Q l a w
abbrev lJ (P:Program) (y:Code) (Q:Exit→Act→World→Prop):Exit→Act→World→Prop:=Exit.then (fun a w=>y.wp P Q a w) Q
theorem aI {x y:Code} (h:W P n x (lJ P y Q) E w):W P n (.seq x y) Q E w:=fun a ha=>wp_seq (h a ha)
theorem fZ (h:N n Q E w):W P n .skip Q E w:=fun a ha=>wp_skip (h a ha)
theorem rt (h:T n Q E w):W P n .ret Q E w:=fun a ha=>wp_ret (h a ha)
theorem ej {id:Nat} (h:X n Q id E w):W P n (.exit id) Q E w:=fun a ha=>wp_exit (h a ha)
theorem bT {id:Nat} {c:Code} (h:W P n c (Exit.inBlock id Q) E w):W P n (.block id c) Q E w:=fun a ha=>wp_block (h a ha)
theorem rg {id:Nat} {l:List Oper} (h:bQ P n l.toArray Q l E w):W P n (.region id l.toArray false) Q E w:=fun a ha=>wp_region_lit (h a ha)
theorem gZ {c:Operand} {x y:Code} (hc:ev E c=some (.bool true)) (h:W P n x Q E w):W P n (.cond c x y) Q E w:=fun a ha=>wp_cond_true (ha.ev hc) (h a ha)
theorem hP {c:Operand} {x y:Code} (hc:ev E c=some (.bool false)) (h:W P n y Q E w):W P n (.cond c x y) Q E w:=fun a ha=>wp_cond_false (ha.ev hc) (h a ha)
theorem Ix {c:Operand} {x y:Code} (b:Bool) (hc:ev E c=some (.bool b)) (κ:b=true→W P n x Q E w) (τ:b=false→W P n y Q E w):W P n (.cond c x y) Q E w :=
 fun a ha=>wp_cond_split (ha.ev hc) (fun h=>κ h a ha) (fun h=>τ h a ha)
theorem c1 {c:Operand} {x y:Code} {b:Bool} (hc:ev E c=some (.bool b)) (κ:b=true→W P n x Q E w) (τ:b=false→W P n y Q E w):W P n (.cond c x y) Q E w:=Ix b hc κ τ
theorem nl (h:N n Q E w):bQ P n ops Q [] E w:=h
theorem br {y:Code} (h:W P n y Q E w):N n (lJ P y Q) E w:=h
theorem cl {id:Nat} (h:N n Q E w):N n (Exit.inBlock id Q) E w:=h
theorem ei {y:Code} {id:Nat} (h:X n Q id E w):X n (lJ P y Q) id E w:=h
theorem eU {K:Act→World→Prop} {id:Nat} (h:X n Q id E w):X n (Exit.then K Q) id E w:=h
theorem eh {id:Nat} (h:N n Q E w):X n (Exit.inBlock id Q) id E w:=fun a ha=>by simp only [Exit.inBlock,aOB];exact h a ha
theorem Lc {id Ol:Nat} (dF:Nat.beq Ol id=false) (h:X n Q Ol E w):X n (Exit.inBlock id Q) Ol E w:=fun a ha=>by simp only [Exit.inBlock,aM4 (aPT dF)];exact h a ha
theorem cU {y:Code} (h:T n Q E w):T n (lJ P y Q) E w:=h
theorem Ey {K:Act→World→Prop} (h:T n Q E w):T n (Exit.then K Q) E w:=h
theorem hq {id:Nat} (h:T n Q E w):T n (Exit.inBlock id Q) E w:=h
def zG:Nat→List Value→List (Nat×Value)
 | _, []=> []
 | i,v::r=>(i,v)::zG (i+1) r
theorem Ms:∀ (l:List Value) (i t:Nat) (v:Value),look (zG i l) t=some v→∃ j,t=i+j∧l[j]? =some v
 | [],_,_,_,h=>by simp [zG,look] at h
 | u::r,i,t,v,h=>by
  simp only [zG,look] at h;cases af:Nat.beq i t with
  | true=>rw [af] at h;exact ⟨0,by have:=aOv af;omega,by simpa using h⟩
  | false =>
   rw [af] at h;obtain ⟨j,e,aw⟩:=Ms r (i+1) t v h;exact ⟨j+1,by omega,by simpa using aw⟩
theorem cx {f:FuncId} {fn:Func} {c:Code} {l:List Value} {R:Ending→World→Prop} (hf:P.funcs[f]? =some fn) (af:fn.body=some c) (hn:fn.ntmps=n) (ay:Nat.ble l.length n=true)
  (h:W P n c (bodyPost P fn R) (zG 0 l) w):Calls P f l.toArray w R:=by
 refine calls_of_wp hf af (h _ ⟨Z, ?_,fun t v hv=> ?_⟩)
 ·have:=aOu ay;simp only [aPM,aOy,hn,aOq];omega
 ·obtain ⟨j,e,aw⟩:=Ms l 0 t v hv;have bB:=(aM2.1 aw).1;rw [aPE (by simp;omega)];simpa [show t=j by omega] using aw
inductive vF (P:Program) (E:List (Nat×Value)) (w:World):List ResultVar→List Value→Prop
 | nil:vF P E w [] []
 | tmp {t:Nat} {v:Value} {r:List ResultVar} {vs:List Value} (h:look E t=some v) (hr:vF P E w r vs):vF P E w (.tmp t::r) (v::vs)
 | cell {t:Nat} {ty:TypeId} {p:Addr} {v:Value} {r:List ResultVar} {vs:List Value} (h:look E t=some (.pointer (some p))) (ay:(loadVar ty p).run P w= .ok v w) (hr:vF P E w r vs):vF P E w (.cell t ty::r) (v::vs)
def qK:List Value→Value
 | [v]=>v
 | vs=> .tuple vs.toArray
theorem vF.run {l:List ResultVar} {vs:List Value} (h:vF P E w l vs) (ha:c' n E a) (f:ResultVar→Sem Value) (f1:∀ t,f (.tmp t)=pure (a.tmps.getD t undef)) (f2:∀ c t,f (.cell c t)=(asAddr (a.tmps.getD c undef)>>= fun p=>loadVar t p)):
  (l.mapM f).run P w= .ok vs w:=by
 induction h with
 | nil=>rfl
 | @tmp t v r vs h hr bu =>
  have τ:a.tmps.getD t undef=v:=by rw [aQQ,ha.g _ _ h];rfl
  simp only [List.mapM_cons,aNh,f1,τ,aNl,aNb,bu]
 | @cell t ty p v r vs h ay hr bu =>
  have τ:a.tmps.getD t undef= .pointer (some p):=by rw [aQQ,ha.g _ _ h];rfl
  simp only [List.mapM_cons,aNh,f2,τ,asAddr,aNl,aNb,ay,bu]
theorem Vc {fn:Func} {vs:List Value} (h:vF P E w fn.results.toList vs) (ha:c' n E a):(results fn a.tmps).run P w= .ok (qK vs) w:=by
 unfold results;rw [Array.mapM_eq_mapM_toList];simp only [aNh,Sem.run_map];rw [h.run ha _ (fun _=>rfl) (fun _ _=>rfl)]
 match vs with
 | []=>rfl
 | [v]=>rfl
 | _::_::_=>simp [qK]
theorem dS {fn:Func} {R:Ending→World→Prop} {vs:List Value} (h:vF P E w fn.results.toList vs) (hR:R (.returned (qK vs)) w):T n (bodyPost P fn R) E w :=
 fun a ha=>⟨ha.d,_,Vc h ha,hR⟩
def H2 (n:Nat) (cC:Nat→List (Nat×Value)→World→Prop) (m:Nat):Act→World→Prop:=fun a w=>∃ m',m'<m∧∃ cd,cC m' cd w∧c' n cd a
theorem gi {c:Code} (cC:Nat→List (Nat×Value)→World→Prop) (m:Nat) (cd:List (Nat×Value)) (aC:cC m cd w) (hs:Sub cd E)
  (round:∀ m E w,cC m E w→W P n c (Exit.then (H2 n cC m) Q) E w):W P n (.loop c) Q E w:=fun a ha=>by
 intro b k cs;have key:∀ m a w,(∃ E,cC m E w∧c' n E a)→∃ e a' w',Q e a' w'∧Arrives P (lone (b.at a (.code c:: .inLoop c::k)) cs w) b k cs e a' w':=by
  intro m;induction m using Nat.strongRecOn with
  | _ m bu =>
   intro a w ⟨E,kV,ha⟩;obtain ⟨e,di,aN,I,oF⟩:=round m E w kV a ha b (.inLoop c::k) cs;cases e with
   | normal =>
    obtain ⟨m',bB,SK⟩:=I;obtain ⟨a1,a2,cb,Gx,Tl⟩:=bu m' bB di aN SK;exact ⟨a1,a2,cb,Gx, .of_steps (Steps.trans oF (.one step_inLoop)) Tl⟩
   | exit id=>exact ⟨_,di,aN,I, .pass (x:= .inLoop c) rfl (fun _ _=> .inl (by simp)) oF⟩
   | goto l=>exact ⟨_,di,aN,I, .pass (x:= .inLoop c) rfl (fun _ _=> .inl (by simp)) oF⟩
   | ret=>exact ⟨_,di,aN,I, .pass (x:= .inLoop c) rfl (fun _ _=> .inl (by simp)) oF⟩
   | panic ch=>exact ⟨_,di,aN,I, .pass (x:= .inLoop c) rfl (fun _ _=> .inl (by simp)) oF⟩
   | outgrown=>exact ⟨_,di,aN,I, .pass (x:= .inLoop c) rfl (fun _ _=> .inl (by simp)) oF⟩
 obtain ⟨e,a',w',I,oF⟩:=key m a w ⟨cd,aC,ha.sub hs⟩;exact ⟨e,a',w',I, .of_steps (.one step_loop) oF⟩
theorem lT {cC:Nat→List (Nat×Value)→World→Prop} {m:Nat} (m':Nat) (cd:List (Nat×Value)) (h:cC m' cd w) (hm:m'<m) (hs:Sub cd E):N n (Exit.then (H2 n cC m) Q) E w :=
 fun a ha=>⟨m',hm,cd,h,ha.sub hs⟩
variable {d:Option Nat} {ty:TypeId} {pos:String} {aW:Array Edge} {g:Option (Nat×Bool)} {x y z:Operand} {t:TypeId} {rest:List Oper}
def cG (P:Program) (E:List (Nat×Value)) (o:Oper) (w:World) (v:Value) (w':World):Prop:=∀ n a,c' n E a→(execOp a.eval o).run P w= .ok (.value v) w'
def ak1 (P:Program) (E:List (Nat×Value)) (o:Oper) (w w':World):Prop:=∀ n a,c' n E a→(execOp a.eval o).run P w= .ok .skip w'
theorem x_ {o:Oper} (aU:o.guard=none) {a:Act} (h:o.wp P a w (wpList P ops Q rest) Q):wpList P ops Q (o::rest) a w:=by
 unfold wpList;rw [aNd (by simp [Region.wanted,aU])];exact .inl h
theorem im {d:Nat} {op:Op} (hr:cG P E ⟨some d,op,ty,pos,aW,none⟩ w v w') (hd:Nat.blt d n=true) (h:bQ P n ops Q rest ((d,v)::E) w'):bQ P n ops Q (⟨some d,op,ty,pos,aW,none⟩::rest) E w:=fun a ha=>by
 refine x_ Z ?_;unfold Oper.wp;rw [hr n a ha];exact h _ (ha.put hd v)
theorem us {op:Op} (hr:ak1 P E ⟨none,op,ty,pos,aW,none⟩ w w') (h:bQ P n ops Q rest E w'):bQ P n ops Q (⟨none,op,ty,pos,aW,none⟩::rest) E w:=fun a ha=>by
 refine x_ Z ?_;unfold Oper.wp;rw [hr n a ha];exact h _ ha
def Enters (P:Program) (f:FuncId):Prop:=∃ fn,P.funcs[f]? =some fn∧(fn.name == "runtime.NumGoroutine")=false∧fn.body.isNone=false
theorem Cl {f:FuncId} (hf:Enters P f) {xs:Array Operand} {ts:Array TypeId} {args:List Value} {a:Act} (ha:c' n E a) (he:fw E xs.toList=some args):
  (execOp a.eval ⟨d, .call {callee:= .value (.func f),args:=xs,argTypes:=ts},ty,pos,aW,g⟩).run P w= .ok (.enter f args.toArray) w:=by
 obtain ⟨fn,κ,τ,aq⟩:=hf;have hm:xs.map a.eval=args.toArray:=by rw [← ha.fw he];apply aOr;simp
 exact agd f fn κ τ aq xs ts Z _ hm
theorem ca {d:Nat} {f:FuncId} (hf:Enters P f) {xs:Array Operand} {ts:Array TypeId} {args:List Value} (he:fw E xs.toList=some args) (hd:Nat.blt d n=true)
  (h:Calls P f args.toArray w fun e w'=>∃ v,e= .returned v∧bQ P n ops Q rest ((d,v)::E) w'):bQ P n ops Q (⟨some d, .call {callee:= .value (.func f),args:=xs,argTypes:=ts},ty,pos,aW,none⟩::rest) E w:=fun a ha=>by
 refine x_ Z ?_;unfold Oper.wp;rw [Cl hf ha he];refine aOY h fun e w' dP=> ?_;obtain ⟨v,rfl,h⟩:=dP;exact h _ (ha.put hd v)
theorem jA (hx:ev E x=some v):cG P E ⟨d, .move x,ty,pos,aW,g⟩ w v w:=fun n a ha=>by simp only [execOp,ha.ev hx];rfl
theorem eV (hx:ev E x=some v):cG P E ⟨d, .assign x,ty,pos,aW,g⟩ w v w:=fun n a ha=>by simp only [execOp,ha.ev hx];rfl
theorem ex {l:List Value} {k:Nat} (hx:ev E x=some (.tuple l.toArray)) (aj:l[k]? =some v):cG P E ⟨d, .extract x k,ty,pos,aW,g⟩ w v w:=fun n a ha=>by
 simp only [execOp,ha.ev hx,Instr.extract,aP0,aj];rfl
theorem b3 {p:Addr} (hx:ev E x=some (.pointer (some p))):cG P E ⟨d, .nilCheck x,ty,pos,aW,g⟩ w (.pointer (some p)) w:=fun n a ha=>by simp only [execOp,ha.ev hx];rfl
theorem dD {b:Bool} (hx:ev E x=some (.bool b)):cG P E ⟨d, .unOp .not t x,ty,pos,aW,g⟩ w (.bool !b) w:=fun n a ha=>by
 simp only [execOp,ha.ev hx];cases b<;>rfl
theorem nY {v:Value} (hx:ev E x=some (.bool true)) (aH:ev E y=some v):cG P E ⟨d, .pick x y z,ty,pos,aW,g⟩ w v w:=fun n a ha=>by
 simp only [execOp,ha.ev hx,ha.ev aH];rfl
theorem oV {v:Value} (hx:ev E x=some (.bool false)) (bo:ev E z=some v):cG P E ⟨d, .pick x y z,ty,pos,aW,g⟩ w v w:=fun n a ha=>by
 simp only [execOp,ha.ev hx,ha.ev bo];rfl
def dK (c:Bool) (v:Value):Value:=if c=true then v else undef
theorem gt {c:Bool} (hc:c=true) (h:ev E x=some (dK c v)):ev E x=some v:=by rw [h,hc];rfl
theorem gv {b c q:Bool} (hx:ev E x=some (.bool b)) (aH:ev E y=some (.bool true)) (I:(b == false)=q) (bo:ev E z=some (dK q (.bool c))):cG P E ⟨d, .pick x y z,ty,pos,aW,g⟩ w (.bool (b || c)) w:=fun n a ha=>by
 subst I;simp only [execOp,ha.ev hx,ha.ev aH,ha.ev bo];cases b<;>rfl
theorem eZ {b c q:Bool} (hx:ev E x=some (.bool b)) (bo:ev E z=some (.bool false)) (I:(b == true)=q) (aH:ev E y=some (dK q (.bool c))):cG P E ⟨d, .pick x y z,ty,pos,aW,g⟩ w (.bool (b && c)) w:=fun n a ha=>by
 subst I;simp only [execOp,ha.ev hx,ha.ev aH,ha.ev bo];cases b<;>rfl
section
variable {k k':IntKind} {i j:Int} {u:TypeId}
theorem uu {op:BinOp} {s:Sem Value} (hx:ev E x=some (.int k i)) (aH:ev E y=some (.int k' j)) (h:binOp op t (.int k i) (.int k' j)=s) (hr:s.run P w= .ok v w):cG P E ⟨d, .binOp op t x y u,ty,pos,aW,g⟩ w v w:=fun n a ha=>by
 simp only [execOp,ha.ev hx,ha.ev aH,eqGuard_at_int,h,aNh,aNl,aNb,hr]
theorem bad (hx:ev E x=some (.int k i)) (aH:ev E y=some (.int k j)) (h:k.wrap (i+j)=i+j):cG P E ⟨d, .binOp .add t x y u,ty,pos,aW,g⟩ w (.int k (i+j)) w:=uu hx aH (binOp_add t k i j) (by simp [Op.intArith,h])
theorem iM (hx:ev E x=some (.int k i)) (aH:ev E y=some (.int k j)) (h:k.wrap (i - j)=i - j):cG P E ⟨d, .binOp .sub t x y u,ty,pos,aW,g⟩ w (.int k (i - j)) w:=uu hx aH (binOp_sub t k i j) (by simp [Op.intArith,h])
theorem zM (hx:ev E x=some (.int k i)) (aH:ev E y=some (.int k j)) (h:k.wrap (i * j)=i * j):cG P E ⟨d, .binOp .mul t x y u,ty,pos,aW,g⟩ w (.int k (i * j)) w:=uu hx aH (binOp_mul t k i j) (by simp [Op.intArith,h])
theorem blt (hx:ev E x=some (.int k i)) (aH:ev E y=some (.int k j)):cG P E ⟨d, .binOp .lss t x y u,ty,pos,aW,g⟩ w (.bool (decide (i<j))) w:=uu hx aH (binOp_lss t k i j) rfl
theorem ble (hx:ev E x=some (.int k i)) (aH:ev E y=some (.int k j)):cG P E ⟨d, .binOp .leq t x y u,ty,pos,aW,g⟩ w (.bool (decide (i≤j))) w:=uu hx aH (binOp_leq t k i j) rfl
theorem hO (hx:ev E x=some (.int k i)) (aH:ev E y=some (.int k j)):cG P E ⟨d, .binOp .gtr t x y u,ty,pos,aW,g⟩ w (.bool (decide (j<i))) w:=uu hx aH (binOp_gtr t k i j) rfl
theorem ld (hx:ev E x=some (.int k i)) (aH:ev E y=some (.int k j)):cG P E ⟨d, .binOp .geq t x y u,ty,pos,aW,g⟩ w (.bool (decide (j≤i))) w:=uu hx aH (binOp_geq t k i j) rfl
theorem beq (hx:ev E x=some (.int k i)) (aH:ev E y=some (.int k j)):cG P E ⟨d, .binOp .eql t x y u,ty,pos,aW,g⟩ w (.bool (i == j)) w:=uu hx aH (binOp_eql t k i j) rfl
theorem bne (hx:ev E x=some (.int k i)) (aH:ev E y=some (.int k j)):cG P E ⟨d, .binOp .neq t x y u,ty,pos,aW,g⟩ w (.bool (i != j)) w:=uu hx aH (binOp_neq t k i j) rfl
end
def eO (P:Program) (t:TypeId) (k:Nat):Prop:=∀ w,(sizeOf t).run P w= .ok k w
def eB (P:Program) (t:TypeId) (b:Bool):Prop:=∀ w,(isAgg t).run P w= .ok b w
def kT (P:Program) (t:TypeId) (v:Value):Prop:=∀ w,(zeroValue t).run P w= .ok v w
def Fd (P:Program) (t:TypeId) (i off:Nat):Prop:=∀ w g o,(Instr.fieldAt t (.pointer (some ⟨g,o,none⟩)) i).run P w= .ok (.pointer (some ⟨g,o+off,none⟩)) w
section
variable {b o k:Nat} {cs:List Value}
theorem au {i off:Nat} (hf:Fd P t i off) (hx:ev E x=some (.pointer (some ⟨b,o,none⟩))):cG P E ⟨d, .fieldAddr t x i,ty,pos,aW,g⟩ w (.pointer (some ⟨b,o+off,none⟩)) w:=fun n a ha=>by
 simp only [execOp,ha.ev hx,aNh,hf w b o,aNb,aNl]
theorem JU {e:TypeId} {size len cap:Nat} {Ub:IntKind} {i:Int} (j:Nat) (aD:P.underlying t=some (.slice e)) (hs:eO P e size) (hx:ev E x=some (.slice (some ⟨b,o,none⟩) len cap)) (ak:ev E y=some (.int Ub i)) (aw:i=(j:Int)) (bB:j<len):
  cG P E ⟨d, .indexAddr t x y,ty,pos,aW,g⟩ w (.pointer (some ⟨b,o+j * size,none⟩)) w:=fun n a ha=>by
 subst aw;simp only [execOp,ha.ev hx,ha.ev ak,Instr.indexAt,asIntOf,aNh,aNl,aNb,aOc aD];rw [aNd ⟨by omega,by omega⟩];simp only [aNh,hs w,aNb,aNl,aN9,Il]
def kA (P:Program) (w:World) (t:TypeId) (p:Addr) (v:Value):Prop:=(loadVar t p).run P w= .ok v w
theorem kA.one {p:Addr} (aD:eB P t false) (h:w.cell? p=some v):kA P w t p v:=by
 unfold kA loadVar;simp only [aNh,aD w,aNb,aNR,aOm,run_load,h]
theorem kA.agg (aD:eB P t true) (hs:eO P t cs.length) (h:∀ j v,cs[j]? =some v→w.cell? ⟨b,o+j,none⟩=some v):kA P w t ⟨b,o,none⟩ (.agg cs.toArray):=by
 unfold kA loadVar;simp only [aNh,aD w,aNb,aOB,hs w,run_loadCells_list w ⟨b,o,none⟩ cs (fun j v aw=>by rw [Il];exact h j v aw),aNl]
theorem aB {p:Addr} (hx:ev E x=some (.pointer (some p))) (h:kA P w t p v):cG P E ⟨d, .load t x,ty,pos,aW,g⟩ w v w:=fun n a ha=>by
 unfold kA at h;simp only [execOp,ha.ev hx,Instr.loadAt,Instr.sureAddr,aNh,aNl,aNb,h]
theorem aO.one {p:Nat} {cur:List Value} {e:TypeId} {ao:Nat×Nat} (h:aO w b cur e ao) (aD:eB P t false) (hv:cur[p]? =some v):kA P w t ⟨b,p,none⟩ v:=kA.one aD (by rw [h.cell,hv])
theorem aO.agg {p:Nat} {cur:List Value} {e:TypeId} {ao:Nat×Nat} (h:aO w b cur e ao) (aD:eB P t true) (hs:eO P t cs.length) (hv:(cur.drop p).take cs.length=cs):kA P w t ⟨b,p,none⟩ (.agg cs.toArray):=
 kA.agg aD hs fun j v aw=>by
  rw [h.cell,← aw];have ay:=(aM2.1 aw).1
  conv=>rhs;rw [← hv]
  rw [aQ5 ay,aN6]
theorem alO {op:Op} {d:Nat} {cs:List Value} (tW:op= .box t x) (hx:ev E x=some v) (hc:v.cells=cs.toArray) (hd:Nat.blt d n=true)
  (h:∀ aN b,Ext w aN→w.heap.size≤b→aO aN b cs t (0,0)→bQ P n ops Q rest ((d, .pointer (some ⟨b,0,none⟩))::E) aN):bQ P n ops Q (⟨some d,op,ty,pos,aW,none⟩::rest) E w:=by
 subst tW;refine im (w':=w.alloc (.cells v.cells t)) (v:= .pointer (some ⟨w.heap.size,0,none⟩)) (fun n a ha=> ?_) hd (h _ _ ((aNH _ w).alloc (aNk _) _) (aNk _) (by rw [hc];exact aO.new w cs t (0,0)));simp only [execOp,ha.ev hx,Instr.box,newVar,newRow,aNh,run_newObj_alloc,aNb,aNl]
theorem al {op:Op} {d:Nat} {cs:List Value} (tW:op= .alloc t) (bo:kT P t v) (hc:v.cells=cs.toArray) (hd:Nat.blt d n=true)
  (h:∀ aN b,Ext w aN→w.heap.size≤b→aO aN b cs t (0,0)→bQ P n ops Q rest ((d, .pointer (some ⟨b,0,none⟩))::E) aN):bQ P n ops Q (⟨some d,op,ty,pos,aW,none⟩::rest) E w:=by
 subst tW;refine im (w':=w.alloc (.cells v.cells t)) (v:= .pointer (some ⟨w.heap.size,0,none⟩)) (fun n a ha=> ?_) hd (h _ _ ((aNH _ w).alloc (aNk _) _) (aNk _) (by rw [hc];exact aO.new w cs t (0,0)));simp only [execOp,Instr.alloc,aNh,bo w,newVar,newRow,run_newObj_alloc,aNb,aNl]
end
end
section
variable {P:Program} {n:Nat} {E cd:List (Nat×Value)} {a:Act} {w w' w0 aN:World} {Q:Exit→Act→World→Prop} {ops:Array Oper} {v:Value} {aL:Nat→Nat}
variable {d:Option Nat} {ty:TypeId} {pos:String} {aW:Array Edge} {g:Option (Nat×Bool)} {x y z:Operand} {t:TypeId} {rest:List Oper} {ba:List Nat} {i:Nat}
def eD (P:Program) (n:Nat) (ops:Array Oper) (Q:Exit→Act→World→Prop) (aL:Nat→Nat) (ba:List Nat) (E:List (Nat×Value)) (w0:World):Prop:=∀ a,c' n E a→xv P ops (eY (Q .normal)) aL ba a w0
def j_ (l:List (Nat×Nat)) (i:Nat):Nat:=match l with
 | []=>1
 | (j,k)::r=>match Nat.beq j i with | true=>k | false=>j_ r i
theorem rd {id:Nat} (hU:List (Nat×Nat)) (ba:List Nat) (hm:P.follows .mixedOrders=true) (aS:(Region.noSelect ops && (ba.length == ops.size) && hQ ops (j_ hU) ba (Array.replicate ops.size false))=true)
  (h:eD P n ops Q (j_ hU) ba E w):W P n (.region id ops true) Q E w:=fun a ha=>ayE ba hm aS (h a ha)
theorem fn (h:∀ w,Ext w0 w→N n Q E w):eD P n ops Q aL [] E w0:=fun a ha w hw=>h w hw a ha
theorem qP {o:Oper} (aU:o.guard=none):Region.wanted o (yielded ops a.tmps)=true:=by simp [Region.wanted,aU]
theorem Sj {d:Nat} {op:Op} (ak:ops[i]? =some ⟨some d,op,ty,pos,aW,none⟩) (aj:aL i=0) (hr:∀ w,Ext w0 w→cG P E ⟨some d,op,ty,pos,aW,none⟩ w v w) (hd:Nat.blt d n=true)
  (h:eD P n ops Q aL ba ((d,v)::E) w0):eD P n ops Q aL (i::ba) E w0:=fun a ha =>
 ⟨_,ak, .inl ⟨aj,v, .inl ⟨qP rfl,fun w hw=>by rw [hr w hw n a ha];exact ⟨rfl,rfl⟩⟩,h _ (ha.put hd v)⟩⟩
theorem kn {d:Nat} {op:Op} (ak:ops[i]? =some ⟨some d,op,ty,pos,aW,none⟩) (aj:aL i=1) (hr:∀ w,cG P E ⟨some d,op,ty,pos,aW,none⟩ w v w) (hd:Nat.blt d n=true)
  (h:eD P n ops Q aL ba ((d,v)::E) w0):eD P n ops Q aL (i::ba) E w0:=fun a ha =>
 ⟨_,ak, .inr (.inl ⟨aj,v, .inl ⟨qP rfl,fun w=>hr w n a ha⟩,h _ (ha.put hd v)⟩)⟩
theorem rk {d:Nat} {f:FuncId} {xs:Array Operand} {ts:Array TypeId} {args:List Value} (ak:ops[i]? =some ⟨some d, .call {callee:= .value (.func f),args:=xs,argTypes:=ts},ty,pos,aW,none⟩) (aj:aL i=0) (hf:Enters P f) (he:fw E xs.toList=some args)
  (hr:∀ w,Ext w0 w→Calls P f args.toArray w fun e w'=>e= .returned v∧Ext w w') (hd:Nat.blt d n=true)
  (h:eD P n ops Q aL ba ((d,v)::E) w0):eD P n ops Q aL (i::ba) E w0:=fun a ha =>
 ⟨_,ak, .inl ⟨aj,v, .inl ⟨qP rfl,fun w hw=>by rw [Cl hf ha he];exact ⟨rfl,hr w hw⟩⟩,h _ (ha.put hd v)⟩⟩
theorem EK {o:Oper} {j:Nat} {q b:Bool} {cK:Oper} {iX:Nat} (aU:o.guard=some (j,q)) (aw:ops[j]? =some cK) (oJ:cK.dst=some iX) (af:look E iX=some (.bool b)) (ha:c' n E a):Region.wanted o (yielded ops a.tmps)=(b == q):=by
 have:=ha.g _ _ af;cases b<;>cases q<;>simp [Region.wanted,aU,yielded,aw,oJ,this]
theorem apI {d:Nat} {op:Op} {j:Nat} {q b c:Bool} {cK:Oper} {iX:Nat} (ak:ops[i]? =some ⟨some d,op,ty,pos,aW,some (j,q)⟩) (aj:aL i=0) (aw:ops[j]? =some cK) (oJ:cK.dst=some iX) (af:look E iX=some (.bool b)) (hc:(b == q)=c)
  (hr:c=true→∀ w,Ext w0 w→cG P E ⟨some d,op,ty,pos,aW,some (j,q)⟩ w v w) (hd:Nat.blt d n=true)
  (h:eD P n ops Q aL ba ((d,dK c v)::E) w0):eD P n ops Q aL (i::ba) E w0:=fun a ha=>by
 have hw:=EK (o:=⟨some d,op,ty,pos,aW,some (j,q)⟩) rfl aw oJ af ha;rw [hc] at hw;refine ⟨_,ak, .inl ⟨aj,dK c v, ?_,h _ (ha.put hd _)⟩⟩;cases c with
 | true=>exact .inl ⟨hw,fun w hx=>by rw [hr rfl w hx n a ha];exact ⟨rfl,rfl⟩⟩
 | false=>exact .inr ⟨hw,rfl⟩
theorem apJ {d:Nat} {op:Op} {j:Nat} {q b c:Bool} {cK:Oper} {iX:Nat} (ak:ops[i]? =some ⟨some d,op,ty,pos,aW,some (j,q)⟩) (aj:aL i=1) (aw:ops[j]? =some cK) (oJ:cK.dst=some iX) (af:look E iX=some (.bool b)) (hc:(b == q)=c)
  (hr:c=true→∀ w,cG P E ⟨some d,op,ty,pos,aW,some (j,q)⟩ w v w) (hd:Nat.blt d n=true)
  (h:eD P n ops Q aL ba ((d,dK c v)::E) w0):eD P n ops Q aL (i::ba) E w0:=fun a ha=>by
 have hw:=EK (o:=⟨some d,op,ty,pos,aW,some (j,q)⟩) rfl aw oJ af ha;rw [hc] at hw;refine ⟨_,ak, .inr (.inl ⟨aj,dK c v, ?_,h _ (ha.put hd _)⟩)⟩;cases c with
 | true=>exact .inl ⟨hw,fun w=>hr rfl w n a ha⟩
 | false=>exact .inr ⟨hw,rfl⟩
theorem km {d:Nat} {f:FuncId} {xs:Array Operand} {ts:Array TypeId} {args:List Value} {j:Nat} {q b c:Bool} {cK:Oper} {iX:Nat} (ak:ops[i]? =some ⟨some d, .call {callee:= .value (.func f),args:=xs,argTypes:=ts},ty,pos,aW,some (j,q)⟩) (aj:aL i=0) (aw:ops[j]? =some cK) (oJ:cK.dst=some iX) (af:look E iX=some (.bool b)) (hc:(b == q)=c)
  (hf:Enters P f) (he:c=true→fw E xs.toList=some args)
  (hr:c=true→∀ w,Ext w0 w→Calls P f args.toArray w fun e w'=>e= .returned v∧Ext w w') (hd:Nat.blt d n=true)
  (h:eD P n ops Q aL ba ((d,dK c v)::E) w0):eD P n ops Q aL (i::ba) E w0:=fun a ha=>by
 have hw:=EK (o:=⟨some d, .call {callee:= .value (.func f),args:=xs,argTypes:=ts},ty,pos,aW,some (j,q)⟩) rfl aw oJ af ha;rw [hc] at hw;refine ⟨_,ak, .inl ⟨aj,dK c v, ?_,h _ (ha.put hd _)⟩⟩;cases c with
 | true=>exact .inl ⟨hw,fun w hx=>by rw [Cl hf ha (he rfl)];exact ⟨rfl,hr rfl w hx⟩⟩
 | false=>exact .inr ⟨hw,rfl⟩
def Bo (P:Program) (n:Nat) (ops:Array Oper) (o:Oper) (E:List (Nat×Value)) (w:World) (K:List (Nat×Value)→World→Prop):Prop :=
 ∀ (Q:Exit→Act→World→Prop),(∀ cd w',K cd w'→bQ P n ops Q [] cd w')→bQ P n ops Q [o] E w
theorem aBw {Q5 akZ:Exit→Act→World→Prop} {o:Oper} {K:Act→World→Prop} (hp:∀ c a w,¬ Q5 (.panic c) a w) (bk:¬ LetsOut Q5) (h:o.wp P a w K Q5):o.wp P a w K akZ:=by
 unfold Oper.wp at *
 generalize (execOp a.eval o).run P w=r at *
 cases r with
 | ok m w' =>
  cases m<;>simp only [Oper.upon] at h ⊢ <;>
   first
    | exact h
    | exact aOY h (fun e ku he=>by cases e<;>first | exact he | exact (hp _ _ _ he).elim | exact (bk he).elim)
 | halt x w'=>cases x<;>simp only [Oper.upon] at h ⊢<;>first | exact h | exact (hp _ _ _ h).elim
theorem Ew {o:Oper} (aU:o.guard=none) (ak:ops[i]? =some o) {K:Act→World→Prop} {E:List (Nat×Value)} {w:World} {XX:List (Nat×Value)→World→Prop} (h:Bo P n ops o E w XX) (hK:∀ cd w' a',XX cd w'→c' n cd a'→K a' w') (ha:c' n E a):
  wpOp P ops (eY (Q .normal)) i K a w:=by
 have:=h (eY K) (fun cd w' aj a' oD=>hK cd w' a' aj oD) a ha;unfold wpList at this;unfold wpOp;simp only [ak];rw [aNd (qP aU)] at this ⊢;rcases this with h | ⟨h,a,w,τ⟩
 ·exact .inl (aBw (fun _ _ _ h=>h) (fun ⟨_,_,h⟩=>h) h)
 ·exact τ.elim
theorem fW {o:Oper} (aU:o.guard=none) (ak:ops[i]? =some o) (aj:aL i=2) (h:∀ w,Ext w0 w→Bo P n ops o E w fun cd w'=>Ext w0 w'∧eD P n ops Q aL ba cd w'):eD P n ops Q aL (i::ba) E w0:=fun a ha =>
 ⟨_,ak, .inr (.inr ⟨by omega,fun w hw=>Ew aU ak (h w hw) (fun cd w' a' aj oD=>⟨fun _=>aj.1,aj.2 a' oD⟩) ha⟩)⟩
theorem dC {o:Oper} (aU:o.guard=none) (ak:ops[i]? =some o) (aj:aL i=3) (h:∀ w,Ext w0 w→Bo P n ops o E w fun cd w'=>eD P n ops Q aL ba cd w'):eD P n ops Q aL (i::ba) E w0:=fun a ha =>
 ⟨_,ak, .inr (.inr ⟨by omega,fun w hw=>Ew aU ak (h w hw) (fun cd w' a' aj oD=>⟨fun τ=>by omega,aj a' oD⟩) ha⟩)⟩
end
structure Mod (S:List Nat) (w w':World):Prop where
 os:w'.os=w.os
 tape:w'.tape=w.tape
 output:w'.output=w.output
 size:w.heap.size≤w'.heap.size
 block:∀ k,k<w.heap.size→k∉S→w'.heap[k]? =w.heap[k]?
section
variable {S S':List Nat} {w w' w0 aN cb:World} {B:Nat}
theorem Mod.aP (h:Ext w w'):Mod S w w':=⟨h.os,h.tape,h.output,h.size,fun k aj _=>h.block k aj⟩
theorem Mod.below {aA:Nat} (h:Mod S w w') (hS:∀ x∈S,aA≤x) (sK:aA≤w.heap.size):Below aA w w' :=
 ⟨h.os,h.tape,h.output,h.size,fun k aj=>h.block k (by omega) fun hm=>by have:=hS k hm;omega⟩
theorem Ext.mod (h:Ext w0 w) (hm:Mod S w w') (hS:∀ x∈S,w0.heap.size≤x):Ext w0 w':=aRt h (hm.below hS h.size)
theorem Mod.bN (S:List Nat) (w:World):Mod S w w:=⟨rfl,rfl,rfl,aNk _,fun _ _ _=>rfl⟩
theorem Mod.md (h:Mod S w aN) (cp:Mod S' aN cb) (hs:∀ q∈S',q∈S∨w.heap.size≤q):Mod S w cb :=
 ⟨cp.os.trans h.os,cp.tape.trans h.tape,cp.output.trans h.output,aNm h.size cp.size,fun k aj hn=>(cp.block k (aOE aj h.size) fun hm=>(hs k hm).elim hn (fun h=>by omega)).trans (h.block k aj hn)⟩
theorem Mod.sub (h:Mod S w w') (hs:∀ x∈S,x∈S'):Mod S' w w':=⟨h.os,h.tape,h.output,h.size,fun k aj hn=>h.block k aj fun hm=>hn (hs k hm)⟩
theorem Mod.trans (h:Mod S w aN) (cp:Mod S aN cb):Mod S w cb :=
 ⟨cp.os.trans h.os,cp.tape.trans h.tape,cp.output.trans h.output,aNm h.size cp.size,fun k aj hn=>(cp.block k (aOE aj h.size) hn).trans (h.block k aj hn)⟩
theorem Mod.grown {row:Option Nat} (h:w.grownBy w' row):Mod row.toList w w' :=
 ⟨h.os,h.tape,h.output,h.size,fun k aj hn=>h.block k aj fun e=>hn (by rw [← e];simp)⟩
theorem Mod.setRow (w:World) (b:Nat) (cs:Array Value):Mod [b] w (w.setRow b cs):=by
 refine ⟨Z,Z,Z,by simp [World.setRow],fun k aj hn=> ?_⟩;simp only [World.setRow,aP4];rw [aM4 (by simp at hn;omega)]
theorem Mod.setCell (w:World) (p:Addr) (u:Value):Mod [p.block] w (w.setCell p u):=by
 refine ⟨Z,Z,Z,by simp [World.setCell],fun k aj hn=> ?_⟩;exact Below.heap_setCell _ _ _ _ (by simpa using hn)
theorem aO.mod {g:Nat} {cur:List Value} {e:TypeId} {ao:Nat×Nat} (h:aO w g cur e ao) (hm:Mod S w w') (aU:g∉S):aO w' g cur e ao:=by
 unfold aO at *
 rw [hm.block g (aNy.1 h).1 aU];exact h
theorem Φ.aM.mod {α:Type} {R:Φ α} {E by_:Nat} {f:List Nat} {A:Option Addr} {c:Nat} {l:List α} (h:R.aM E by_ w B f A c l) (hm:Mod S w w') (hd:∀ x∈f,x∉S):R.aM E by_ w' B f A c l :=
 h.keep fun g aU=>hm.block g (h.lt g aU).2 (hd g aU)
end
section
variable {P:Program} {n:Nat} {E cd:List (Nat×Value)} {a:Act} {w w' w0 aN:World} {Q:Exit→Act→World→Prop} {ops:Array Oper} {v:Value}
variable {d:Option Nat} {ty:TypeId} {pos:String} {aW:Array Edge} {g:Option (Nat×Bool)} {x y z:Operand} {t:TypeId} {rest:List Oper}
theorem Vd {b p:Nat} {cur cs:List Value} {e:TypeId} (aS:aO w b cur e (0,0)) (hc:v.cells=cs.toArray) (hs:eO P t cs.length) (κ:cs.all (·.oneCell')=true) (ay:p+cs.length≤cur.length):
  (storeVar t ⟨b,p,none⟩ v).run P w= .ok () (w.setRow b (cur.take p++cs++cur.drop (p+cs.length)).toArray):=by
 unfold storeVar;simp only [hc,aNh,hs w,aNb,aOq,ne_eq,aRy,aOm];have:=run_storeCells_at P b p e cs 0 cur.toArray w aS (by simpa using ay) (fun v hv=>aNJ.1 κ v hv);simpa using this
theorem st {b p:Nat} {cur cs new:List Value} {e:TypeId} (hx:ev E x=some (.pointer (some ⟨b,p,none⟩))) (aH:ev E y=some v) (aS:aO w b cur e (0,0)) (hc:v.cells=cs.toArray) (hs:eO P t cs.length) (κ:cs.all (·.oneCell')=true) (ay:Nat.ble (p+cs.length) cur.length=true)
  (hn:cur.take p++cs++cur.drop (p+cs.length)=new)
  (h:∀ aN,Mod [b] w aN→aO aN b new e (0,0)→bQ P n ops Q rest E aN):bQ P n ops Q (⟨none, .store t x y,ty,pos,aW,none⟩::rest) E w:=by
 refine us (w':=w.setRow b new.toArray) (fun n a ha=> ?_) (h _ (Mod.setRow w b _) (by rw [← hn];exact aS.setRow _));have:=Vd (P:=P) aS hc hs κ (aOu ay);rw [hn] at this;simp only [execOp,ha.ev hx,ha.ev aH,Instr.storeAt,Instr.sureAddr,aNh,aNl,aNb,this]
theorem bi {Fq:Builtin} {xs:Array Operand} {ts:Array TypeId} {vs:List Value} (he:fw E xs.toList=some vs) (h:∀ cs,(builtin Fq ts ty cs vs.toArray).run P w= .ok (.value v) w'):
  cG P E ⟨d, .call {callee:= .builtin Fq,args:=xs,argTypes:=ts},ty,pos,aW,g⟩ w v w':=fun n a ha=>by
 have hm:xs.map a.eval=vs.toArray:=by rw [← ha.fw he];apply aOr;simp
 simp only [execOp,resolve,invoke,hm,aNh,aNl,aNb,h]
theorem dr {A:Option Addr} {len cap e:Nat} (aD:P.underlying t=some (.slice e)) (hx:ev E x=some (.slice A len cap)):cG P E ⟨d, .call {callee:= .builtin .len,args:=#[x],argTypes:=#[t]},ty,pos,aW,g⟩ w (.int .i64 (len:Int)) w :=
 bi (vs:= [.slice A len cap]) (by simp only [fw,hx]) fun cs=>by
  have κ:P.underlying t=some (.slice (P.elem t)):=by simp [Program.elem,aD]
  have:=run_len_slice (P:=P) w t ty A len cap κ;simp only [builtin,aNh,this,aNb,aNl];rfl
theorem b6 {f:FuncId} {fn:Func} (h:P.funcs[f]? =some fn) (κ:(fn.name == "runtime.NumGoroutine")=false:=by kernel_rfl) (τ:fn.body.isNone=false:=by kernel_rfl):Enters P f:=⟨fn,h,κ,τ⟩
theorem Wh {o:Oper} {c:Bool} (hw:∀ a,c' n E a→Region.wanted o (yielded ops a.tmps)=c) (κ:c=true→∀ a,c' n E a→o.wp P a w (wpList P ops Q rest) Q) (τ:c=false→∀ a,c' n E a→wpList P ops Q rest (a.put o.dst undef) w):bQ P n ops Q (o::rest) E w:=fun a ha=>by
 unfold wpList;rw [hw a ha];cases c with
 | true=>rw [aNd rfl];exact .inl (κ Z a ha)
 | false=>rw [aM4 (by decide)];exact τ Z a ha
theorem aAJ {d:Nat} {op:Op} {j:Nat} {q b c:Bool} {cK:Oper} {iX:Nat} (aw:ops[j]? =some cK) (oJ:cK.dst=some iX) (af:look E iX=some (.bool b)) (hc:(b == q)=c)
  (hr:c=true→cG P E ⟨some d,op,ty,pos,aW,some (j,q)⟩ w v w) (hd:Nat.blt d n=true) (h:bQ P n ops Q rest ((d,dK c v)::E) w):bQ P n ops Q (⟨some d,op,ty,pos,aW,some (j,q)⟩::rest) E w :=
 Wh (c:=c) (fun a ha=>by rw [EK (o:=⟨some d,op,ty,pos,aW,some (j,q)⟩) rfl aw oJ af ha,hc])
  (fun hc a ha=>by unfold Oper.wp;rw [hr hc n a ha];subst hc;exact h _ (ha.put hd v)) (fun hc a ha=>by subst hc;exact h _ (ha.put hd undef))
theorem aAI {d:Nat} {f:FuncId} {xs:Array Operand} {ts:Array TypeId} {args:List Value} {j:Nat} {q b c:Bool} {cK:Oper} {iX:Nat} (aw:ops[j]? =some cK) (oJ:cK.dst=some iX) (af:look E iX=some (.bool b)) (hc:(b == q)=c)
  (hf:Enters P f) (he:c=true→fw E xs.toList=some args) (hr:c=true→Calls P f args.toArray w fun e w'=>e= .returned v∧Ext w w') (hd:Nat.blt d n=true)
  (h:∀ w',Ext w w'→bQ P n ops Q rest ((d,dK c v)::E) w'):bQ P n ops Q (⟨some d, .call {callee:= .value (.func f),args:=xs,argTypes:=ts},ty,pos,aW,some (j,q)⟩::rest) E w :=
 Wh (c:=c) (fun a ha=>by rw [EK (o:=⟨some d,_,ty,pos,aW,some (j,q)⟩) rfl aw oJ af ha,hc])
  (fun hc a ha=>by unfold Oper.wp;rw [Cl hf ha (he hc)];exact (hr hc).mono fun e w' ⟨κ,hx⟩=>by subst κ;subst hc;exact h w' hx _ (ha.put hd v)) (fun hc a ha=>by subst hc;exact h w (Ext.bN w) _ (ha.put hd undef))
theorem il {d:Option Nat} {op:Op} {j:Nat} {q:Bool} {cK:Oper} {iX:Nat} (aw:ops[j]? =some cK) (oJ:cK.dst=some iX) (af:look E iX=some (.bool q)) (h:bQ P n ops Q (⟨d,op,ty,pos,aW,none⟩::rest) E w):bQ P n ops Q (⟨d,op,ty,pos,aW,some (j,q)⟩::rest) E w:=fun a ha=>by
 have h:=h a ha;have hw:=EK (o:=⟨d,op,ty,pos,aW,some (j,q)⟩) (q:=q) rfl aw oJ af ha;unfold wpList at h ⊢;rw [aNd (qP rfl)] at h;rw [hw,aNd (by cases q<;>rfl)];exact h
theorem gy {x:Operand} {b c:Bool} (h:ev E x=some (.bool b)) (e:b=c):ev E x=some (.bool c):=by rw [h,e]
theorem Ko {aar:Fn} {fs cs:Array Operand} {l m:List Value} (κ:fw E fs.toList=some l) (τ:fw E cs.toList=some m):cG P E ⟨d, .makeFunc aar fs cs,ty,pos,aW,g⟩ w (.func aar l.toArray m.toArray) w:=fun n a ha=>by
 have aR:fs.map a.eval=l.toArray:=by rw [← ha.fw κ];apply aOr;simp
 have a1:cs.map a.eval=m.toArray:=by rw [← ha.fw τ];apply aOr;simp
 simp only [execOp,aR,a1,Instr.makeFunc,aNh,aNl,aNb]
def rj (E:List (Nat×Value)):List (Nat×Operand)→Option (List (Nat×Value))
 | []=>some []
 | (i,x)::r=>match ev E x with
  | some v=>match rj E r with
   | some l=>some ((i,v)::l)
   | none=>none
  | none=>none
theorem c'.rj (h:c' n E a):∀ {l:List (Nat×Operand)} {vs:List (Nat×Value)},rj E l=some vs→l.map (fun (i,x)=>(i,a.eval x))=vs
 | [],vs,e=>by simp only [Proofs.YthlpmldmhakhaaaGreatDoor.rj] at e;exact aNf e
 | (i,x)::r,vs,e=>by
  simp only [Proofs.YthlpmldmhakhaaaGreatDoor.rj] at e;cases hx:Proofs.YthlpmldmhakhaaaGreatDoor.ev E x with
  | none=>rw [hx] at e;cases e
  | some v =>
   rw [hx] at e;simp only at e;cases hr:Proofs.YthlpmldmhakhaaaGreatDoor.rj E r with
   | none=>rw [hr] at e;cases e
   | some l =>
    rw [hr] at e;simp only at e;obtain rfl:=aNf e;rw [aNF,c'.rj h hr];simp only [h.ev hx]
theorem gR {ps:Array (Nat×Operand)} {l:List (Nat×Value)} (he:rj E ps.toList=some l) (hr:(Instr.build t l.toArray).run P w= .ok v w):cG P E ⟨d, .build t ps,ty,pos,aW,g⟩ w v w:=fun n a ha=>by
 have aR:ps.map (fun (i,x)=>(i,a.eval x))=l.toArray:=by rw [← ha.rj he];apply aOr;simp
 simp only [execOp,aR,aNh,hr,aNb,aNl]
theorem b_ {ps:Array (Nat×Operand)} {l:List (Nat×Value)} {d k e:Nat} {cs:List Value} (he:rj E ps.toList=some l) (hr:∀ w,(Instr.buildSlice t k l.toArray).run P w= .ok (.slice (some ⟨w.heap.size,0,none⟩) k k) (w.alloc (.cells cs.toArray e))) (hd:Nat.blt d n=true)
  (h:∀ aN b,Ext w aN→w.heap.size≤b→aO aN b cs e (0,0)→bQ P n ops Q rest ((d, .slice (some ⟨b,0,none⟩) k k)::E) aN):bQ P n ops Q (⟨some d, .buildSlice t k ps,ty,pos,aW,none⟩::rest) E w:=by
 refine im (w':=w.alloc (.cells cs.toArray e)) (v:= .slice (some ⟨w.heap.size,0,none⟩) k k) (fun n a ha=> ?_) hd (h _ _ ((aNH _ w).alloc (aNk _) _) (aNk _) (aO.new w cs e (0,0)));have aR:ps.map (fun (i,x)=>(i,a.eval x))=l.toArray:=by rw [← ha.rj he];apply aOr;simp
 simp only [execOp,aR,aNh,hr,aNb,aNl]
def et (A:Option Addr):Nat:=match A with | some a=>a.block | none=>0
def jR (A:Option Addr):Nat:=match A with | some a=>a.off | none=>0
theorem Φ.aQ.bw {α:Type} {R:Φ α} {by_ c:Nat} {A:Option Addr} {l:List α} (h:R.aQ by_ w A c l) (aC:0<l.length):A=some ⟨et A,jR A,none⟩:=by
 obtain ⟨b,o,rfl,_⟩:=h.at_ aC;rfl
theorem Φ.aQ.cg {α:Type} {R:Φ α} {by_ c:Nat} {A:Option Addr} {l:List α} (h:R.aQ by_ w A c l) (aC:0<l.length):R.aQ by_ w (some ⟨et A,jR A,none⟩) c l:=by
 rw [← h.bw aC];exact h
theorem bX {e:TypeId} {size len cap b o:Nat} {Ub:IntKind} {i:Int} {A:Option Addr} (j:Nat) (aD:P.underlying t=some (.slice e)) (hs:eO P e size) (hx:ev E x=some (.slice A len cap)) (ak:ev E y=some (.int Ub i)) (hA:A=some ⟨b,o,none⟩) (aw:i=(j:Int)) (bB:j<len):
  cG P E ⟨d, .indexAddr t x y,ty,pos,aW,g⟩ w (.pointer (some ⟨b,o+j * size,none⟩)) w:=by subst hA;exact JU j aD hs hx ak aw bB
theorem cj {α:Type} {l:List α} {j:Nat} {u:α} (h:j<l.length):l[j]? =some (l.getD j u):=by rw [aM0,aM3 h];rfl
section
variable {α:Type} {R:Φ α} {by_ c b o j:Nat} {l:List α} {cells:α→List Value} {q u:α}
theorem Φ.aQ.ox (hc:∀ {w cs a},R.has w cs a→cs=cells a) (h:R.aQ by_ w (some ⟨b,o,none⟩) c l) (k:Nat) (aw:l[j]? =some q) (hu:(cells q)[k]? =some v) (aD:eB P t false):kA P w t ⟨b,o+j * R.size+k,none⟩ v:=by
 obtain ⟨vL,Ks,e,ep⟩:=h.at_ (by have:=(aM2.1 aw).1;omega);injection e with e;injection e with aR a1;subst aR;subst a1
 obtain ⟨es,κ,τ⟩:=ep j q aw;rw [hc κ] at τ;exact kA.one aD (by rw [aPq];exact τ k v hu)
theorem Φ.aQ.dj (hc:∀ {w cs a},R.has w cs a→cs=cells a) (h:R.aQ by_ w (some ⟨b,o,none⟩) c l) (aw:l[j]? =some q) (hu:(cells q)[0]? =some v) (aD:eB P t false):kA P w t ⟨b,o+j * R.size,none⟩ v:=h.ox hc 0 aw hu aD
theorem Φ.aQ.jJ (hc:∀ {w cs a},R.has w cs a→cs=cells a) (h:R.aQ by_ w (some ⟨b,o,none⟩) c l) (aw:l[j]? =some q) (aD:eB P t true) (hs:eO P t (cells q).length):kA P w t ⟨b,o+j * R.size,none⟩ (.agg (cells q).toArray):=by
 obtain ⟨vL,Ks,e,ep⟩:=h.at_ (by have:=(aM2.1 aw).1;omega);injection e with e;injection e with aR a1;subst aR;subst a1
 obtain ⟨es,κ,τ⟩:=ep j q aw;rw [hc κ] at τ;exact kA.agg aD hs fun k v aj=>by rw [aPq];exact τ k v aj
theorem Φ.aQ.part (hc:∀ {w cs a},R.has w cs a→cs=cells a) (h:R.aQ by_ w (some ⟨b,o,none⟩) c l) (k:Nat) {ds:List Value} (aw:l[j]? =some q) (hd:((cells q).drop k).take ds.length=ds) (aD:eB P t true) (hs:eO P t ds.length):kA P w t ⟨b,o+j * R.size+k,none⟩ (.agg ds.toArray):=by
 obtain ⟨vL,Ks,e,ep⟩:=h.at_ (by have:=(aM2.1 aw).1;omega);injection e with e;injection e with aR a1;subst aR;subst a1
 obtain ⟨es,κ,τ⟩:=ep j q aw;rw [hc κ] at τ;refine kA.agg aD hs fun i v ak=> ?_;rw [aPq,aPq];refine τ _ v ?_;rw [← hd] at ak;have ay:=(aM2.1 ak).1;rw [aM9] at ay
 rwa [aQ5 (by omega),aN6] at ak
end
theorem aO.all {b:Nat} {cur:List Value} {e:TypeId} {ao:Nat×Nat} (h:aO w b cur e ao) (aD:eB P t true) (hs:eO P t cur.length):kA P w t ⟨b,0,none⟩ (.agg cur.toArray):=
 kA.agg aD hs fun j v aw=>by rw [h.cell,aN5,aw]
theorem aO.par {b p:Nat} {cur:List Value} {e:TypeId} {ao:Nat×Nat} (h:aO w b cur e ao) (cs:List Value) (aD:eB P t true) (hs:eO P t cs.length) (hv:(cur.drop p).take cs.length=cs):kA P w t ⟨b,p,none⟩ (.agg cs.toArray):=h.agg aD hs hv
end
open Tryz

section
variable {P:Program} {n:Nat} {E cd:List (Nat×Value)} {a:Act} {w w' w0 aN:World} {Q:Exit→Act→World→Prop} {ops:Array Oper} {v:Value}
theorem ll {x:Int} (h: -9223372036854775808≤x∧x≤9223372036854775807):IntKind.i64.wrap x=x:=IntWalk.i64_in x h
section
variable {d:Option Nat} {ty:TypeId} {pos:String} {aW:Array Edge} {g:Option (Nat×Bool)} {x y:Operand} {t u:TypeId} {k:IntKind} {i j r:Int}
theorem q_ (hx:ev E x=some (.int k i)) (aH:ev E y=some (.int k j)) (h:k.wrap (i+j)=i+j) (he:i+j=r):cG P E ⟨d, .binOp .add t x y u,ty,pos,aW,g⟩ w (.int k r) w:=by subst he;exact bad hx aH h
end
theorem D3 {p:Nat→Prop} {k:Nat} (h:∀ j,j<k→p j) (aj:p k):∀ j,j<k+1→p j:=fun j aw=>(aPN.1 aw).elim (h j) fun e=>e ▸ aj
theorem dA {w:World} {cs:List Value} {a:Int} (h:bz.has w cs a):cs= [.int .i64 a]:=aPs (show cs= [.int .i64 a]∧dB a from h)
theorem Jv {w:World} {cs:List Value} {a:Bool} (h:n1.has w cs a):cs= [.bool a]:=aPs (show cs= [.bool a]∧True from h)
theorem fO {x:Operand} {r:List Operand} {l:List Value} (h:ev E x=some v) (hr:fw E r=some l):fw E (x::r)=some (v::l):=by simp only [fw,h,hr]
theorem B6 {t:Nat} {k:IntKind} {i j:Int} (h:look E t=some (.int k i)) (e:i=j):look E t=some (.int k j):=by rw [h,e]
section
variable {c:Operand} {x y:Code} {i j:Int}
theorem fH (hc:ev E c=some (.bool (decide (i<j)))) (κ:i<j→W P n x Q E w) (τ:¬ i<j→W P n y Q E w):W P n (.cond c x y) Q E w:=c1 hc (fun h=>κ (aNY h)) (fun h=>τ (aPc h))
theorem Dc (hc:ev E c=some (.bool (decide (i≤j)))) (κ:i≤j→W P n x Q E w) (τ:¬ i≤j→W P n y Q E w):W P n (.cond c x y) Q E w:=c1 hc (fun h=>κ (aNY h)) (fun h=>τ (aPc h))
theorem lf (hc:ev E c=some (.bool (i == j))) (κ:i=j→W P n x Q E w) (τ:¬ i=j→W P n y Q E w):W P n (.cond c x y) Q E w:=c1 hc (fun h=>κ (by simpa using h)) (fun h=>τ (by simpa using h))
theorem oq (hc:ev E c=some (.bool (i != j))) (κ:¬ i=j→W P n x Q E w) (τ:i=j→W P n y Q E w):W P n (.cond c x y) Q E w:=c1 hc (fun h=>κ (by simpa using h)) (fun h=>τ (by simpa using h))
end
end
def dN (P:Program) {α:Type} (R:Φ α) (t e:TypeId) (by_:Nat):Prop :=
 ∃ (i:TypeInfo) (z:Value),P.underlying t=some (.slice e)∧P.info? e=some i∧i.zero=some z∧i.size=R.size∧i.bytes=by_∧z.cells.size=R.size∧0<R.size∧∀ (j:Nat) u,z.cells[j]? =some u→R.raw j u
section
variable {P:Program} {n:Nat} {E cd:List (Nat×Value)} {a:Act} {w w' w0 aN:World} {Q:Exit→Act→World→Prop} {ops:Array Oper} {v:Value}
variable {d:Option Nat} {ty:TypeId} {pos:String} {aW:Array Edge} {g:Option (Nat×Bool)} {x y z:Operand} {t:TypeId} {rest:List Oper}
theorem dN.jz {α:Type} {R:Φ α} {t e by_ k:Nat} {z:Value} (aD:P.underlying t=some (.slice e)) (ak:(P.info? e).map (fun i=>(i.zero,i.size,i.bytes))=some (some z,k,by_)) (aj:R.size=k) (κ:z.cells.size=k) (τ:0<k) (aq:∀ (j:Nat) u,z.cells[j]? =some u→R.raw j u):dN P R t e by_:=by
 cases I:P.info? e with
 | none=>rw [I] at ak;cases ak
 | some i =>
  rw [I] at ak;simp only [aOH,aQv,aQ2] at ak;exact ⟨i,z,aD,I,ak.1,by rw [ak.2.1,aj],ak.2.2,by rw [κ,aj],by rw [aj];exact τ,aq⟩
theorem AE:∀ (j:Nat) u,(Value.int .i64 0).cells[j]? =some u→bz.raw j u:=by
 intro j u hu;have hu:(#[(.int .i64 0:Value)]:Array Value)[j]? =some u:=hu
 match j,hu with
 | 0,hu=>exact ⟨0,(aNf hu).symm⟩
 | j+1,hu=>simp at hu
theorem U_:∀ (j:Nat) u,(Value.bool false).cells[j]? =some u→n1.raw j u:=by
 intro j u hu;have hu:(#[(.bool false:Value)]:Array Value)[j]? =some u:=hu
 match j,hu with
 | 0,hu=>exact ⟨false,(aNf hu).symm⟩
 | j+1,hu=>simp at hu
def Q6 (P:Program) (n:Nat) (c:Code) (Q:Exit→Act→World→Prop) (k:Nat) (E:List (Nat×Value)) (w:World):Prop:=∀ a,c' n E a→Code.rounds P c Q k a w
theorem J_ {c:Code} (k:Nat) (h:Q6 P n c Q k E w):W P n (.loop c) Q E w:=fun a ha=>wp_loop_rounds k (h a ha)
theorem mm {c:Code} {k:Nat} (h:W P n c (Exit.then (Code.rounds P c Q k) Q) E w):Q6 P n c Q (k+1) E w:=fun a ha=>h a ha
theorem rN {c:Code} {k:Nat} (h:Q6 P n c Q k E w):N n (Exit.then (Code.rounds P c Q k) Q) E w:=h
theorem aO.fy {α:Type} {R:Φ α} {by_ b:Nat} {cs:List Value} {e:TypeId} {ao:Nat×Nat} {q:α} (af:aO w b cs e ao) (h:R.has w cs q) (oI:by_≤140737488355328):R.aQ by_ w (some ⟨b,0,none⟩) 1 [q]:=by
 refine ⟨aNk _,by decide,by simpa using oI,(fun h=>by cases h), [cs],⟨h,trivial⟩, ?_⟩;have ay:=R.len h;refine ⟨by simp [ay],fun _=>⟨b,0,rfl,fun j u hu=> ?_⟩⟩;rw [aN5,af.cell];simpa using hu
theorem aO.Ai {α:Type} {R:Φ α} {by_ b:Nat} {cs:List Value} {e:TypeId} {ao:Nat×Nat} {k:List α} (af:aO w b cs e ao) (ess:List (List Value)) (yC:ess.flatten=cs) (h:dt (fun es a=>R.has w es a) ess k) (qb:k.length≤9223372036854775807) (oI:k.length * by_≤140737488355328):R.aQ by_ w (some ⟨b,0,none⟩) k.length k:=by
 refine ⟨aNk _,qb,oI,(fun h=>by cases h),ess,h, ?_⟩;have ay:∀ x∈ess,x.length=R.size:=fun x hx=>by obtain ⟨a,ha⟩:=h.left x hx;exact R.len ha
 refine ⟨by rw [Dr ay,h.length],fun _=>⟨b,0,rfl,fun j u hu=> ?_⟩⟩;rw [aN5,af.cell,← yC];exact hu
theorem aO.Ky {α:Type} {R:Φ α} {by_ b B:Nat} {cs:List Value} {e:TypeId} {k:List α} (af:aO w b cs e (0,0)) (ess:List (List Value)) (yC:ess.flatten=cs) (h:dt (fun es a=>R.has w es a) ess k) (qb:k.length≤9223372036854775807) (oI:k.length * by_≤140737488355328) (aC:0<R.size) (aS:B≤b) (hR:R.Plain:=by exact Φ.rm):
  R.aM e by_ w B (Φ.ab (some ⟨b,0,none⟩)) (some ⟨b,0,none⟩) k.length k:=by
 have ay:∀ x∈ess,x.length=R.size:=fun x hx=>by obtain ⟨a,ha⟩:=h.left x hx;exact R.len ha
 have hlen:cs.length=k.length * R.size:=by rw [← yC,Dr ay,h.length]
 refine Φ.aM.GV hR h oI ⟨by rw [yC,hlen], .inr ⟨b,k.length,cs.toArray,rfl,aS,af,aNk _,qb,by simpa using hlen, ?_,fun j u hu=> ?_⟩⟩
 ·rw [yC];exact aNr (by simp [hlen])
 ·exact Nw h aC (by rw [yC];simpa using hu)
theorem ap {α:Type} {R:Φ α} {e by_ base:Nat} {A cz:Option Addr} {c bM d:Nat} {l k:List α} (Jg:dN P R t e by_) (hR:R.vp) (h:R.aM e by_ w base (Φ.ab A) A c l) (τ:R.aQ by_ w cz bM k)
  (hs:ev E x=some (.slice A l.length c)) (hx:ev E y=some (.slice cz k.length bM)) (hlen:l.length+k.length≤9223372036854775807) (qe:(l.length+k.length) * by_≤140737488355328) (oG:base≤w.heap.size) (hd:Nat.blt d n=true)
  (aj:∀ aN bS cn,Mod (Φ.ab A) w aN→R.aM e by_ aN base (Φ.ab bS) bS cn (l++k)→(∀ q∈Φ.ab bS,q∈Φ.ab A∨w.heap.size≤q)→(bS=none↔A=none∧k= [])→bQ P n ops Q rest ((d, .slice bS (l++k).length cn)::E) aN):
  bQ P n ops Q (⟨some d, .call {callee:= .builtin .append,args:=#[x,y],argTypes:=#[t,t]},ty,pos,aW,none⟩::rest) E w:=fun a ha=>by
 obtain ⟨i,z,aR,a1,cL,iY,IL,IM,ZO,ZP⟩:=Jg;obtain ⟨s1,s2,aK8,aK9,ess,ayY,ayZ⟩:=τ;obtain ⟨nX,nc⟩:=Φ.afA ess;refine Φ.aBu Z x y base t e i z aR a1 cL iY IL IM ZO ZP (Φ.ab A) A c l h cz k.length bM k (ess.map fun es=>(([]:List Nat),es)) (Φ.dt.plain hR.1 ayY) Z (by rw [nc];exact ayZ) (by rw [nX,aNA];exact h.nodup) hlen qe oG Z (ha.ev hs) (ha.ev hx) ?_;rintro bS cn f' aN ⟨lu,nZ,Ep,O6,UZ,afL⟩;obtain rfl:=lu.aqa hR.2;have hm:Mod (Φ.ab A) w aN:=by
  have:=Mod.grown nZ
  rwa [Φ.O1] at this
 have:=aj aN bS cn hm lu (fun q I=>by
  rcases O6 q I with h | h | h
  ·exact .inl h
  ·rw [nX] at h;cases h
  ·exact .inr (by omega)) (by rw [UZ];exact and_congr_right fun _=>List.length_eq_zero_iff)
 rw [aM6] at this;exact this _ (ha.put hd _)
theorem Own.YS {base e size:Nat} {G:Nat→Value→Prop} {b c n:Nat} {xs:List Value} (h:Own w base e size G (.slice (some ⟨b,0,none⟩) n c) n xs):∃ cur:Array Value,w.heap[b]? =some (.cells cur e (0,0))∧cur.size=c * size∧cur.toList.take (n * size)=xs:=by
 obtain ⟨κ,τ⟩:=h;rcases τ with ⟨τ,_⟩ | ⟨g',cap,cur,hv,vL,dP,d,hm,hs,aD,ar⟩
 ·cases τ
 ·injection hv with hv _ hc
  injection hv with hv
  injection hv with hv
  subst hv;subst hc;exact ⟨cur,dP,hs,aD⟩
theorem so {α:Type} {R:Φ α} {e by_ B j i:Nat} {A:Option Addr} {c:Nat} {l:List α} {q q':α} {p:Addr} {u:Value} (h:R.aM e by_ w B (Φ.ab A) A c l) (hR:R.vp) (ak:l[i]? =some q) (aw:Nat.blt j R.size=true) (hx:ev E x=some (.pointer (some p))) (hp:p=⟨et A,jR A+i * R.size+j,none⟩) (aH:ev E y=some u)
  (hu:∀ (aN:World) cs,R.has w cs q→R.has aN (cs.set j u) q') (κ:u.oneCell'=true) (yC:u.cells=#[u]) (hs:eO P t 1)
  (aj:∀ aN,Mod (Φ.ab A) w aN→R.aM e by_ aN B (Φ.ab A) A c (l.set i q')→bQ P n ops Q rest E aN):bQ P n ops Q (⟨none, .store t x y,ty,pos,aW,none⟩::rest) E w:=by
 obtain ⟨b,rfl⟩:=h.block (by have:=(aM2.1 ak).1;omega);rw [aPB] at aw;have JK:p=⟨b,i * R.size+j,none⟩:=by rw [hp];simp [et,jR]
 subst JK;have tY:=h.azs hR ak aw (fun cs hc=>hu _ cs hc);have bB:=(aM2.1 ak).1;have jM:∃ agY,w.cell? ⟨b,i * R.size+j,none⟩=some agY:=by
  obtain ⟨_,ps,_,_,bk,ep⟩:=h;have ay:=bk.1;rw [bk.cell _ (by rw [aOS i];exact aOE (by rw [aOS];exact (by omega:i * R.size+j<i * R.size+R.size)) (by rw [← aOp];exact aNM _ bB))];exact ⟨_,aM3 (by rw [ay];exact aOE (by omega:i * R.size+j<i * R.size+R.size) (by rw [← aOp];exact aNM _ bB))⟩
 obtain ⟨agY,atb⟩:=jM;have hf:=h.free (i * R.size+j);refine us (w':=w.setCell ⟨b,i * R.size+j,none⟩ u) (fun n a ha=> ?_) (aj _ (Mod.setCell w ⟨b,i * R.size+j,none⟩ u) tY);have ja:(storeVar t ⟨b,i * R.size+j,none⟩ u).run P w= .ok () (w.setCell ⟨b,i * R.size+j,none⟩ u):=by
  unfold storeVar;simp only [yC,aNh,hs w,aNb,aOq,aM1,aM5,ne_eq,aN5,aRy,aOm,storeCells];have:(⟨b,i * R.size+j,none⟩:Addr).add 0=⟨b,i * R.size+j,none⟩:=rfl;rw [this,run_store P w _ u _ κ,atb];simp only [hf,aNR,aOm,aNb,aNl]
 simp only [execOp,ha.ev hx,ha.ev aH,Instr.storeAt,Instr.sureAddr,aNh,aNl,aNb,ja]
theorem MB {e u:TypeId} {q:Option Addr} (aD:P.underlying t=some (.pointer e)) (hx:ev E x=some (.pointer q)) (aH:ev E y=some (.pointer none)):cG P E ⟨d, .binOp .eql t x y u,ty,pos,aW,g⟩ w (.bool q.isNone) w:=fun n a ha=>by
 have κ:P.underlying t=some (.pointer (P.pointee t)):=by simp [Program.pointee,aD]
 have:(eqGuard .eql t x y (.pointer q) (.pointer none)).run P w= .ok () w:=by cases x<;>cases y<;>rfl
 simp only [execOp,ha.ev hx,ha.ev aH,aNh,this,run_eql_pointer_nil w t q κ,aNb,aNl]
def Qq (P:Program) {α:Type} [DecidableEq α] (cells:α→List Value) (t:TypeId):Prop:=∀ (a b:α) (w:World),(binOp .eql t (.agg (cells a).toArray) (.agg (cells b).toArray)).run P w= .ok (.bool (decide (a=b))) w∧(binOp .neq t (.agg (cells a).toArray) (.agg (cells b).toArray)).run P w= .ok (.bool (!decide (a=b))) w
theorem apG {o:BinOp} {xs ys:Array Value} (h:P.eqGuardType P.depth t=false):(eqGuard o t x y (.agg xs) (.agg ys)).run P w= .ok () w:=by
 cases o<;>simp [eqGuard,h]
theorem YI {α:Type} [DecidableEq α] {cells:α→List Value} {u:TypeId} {p q:α} (Jg:Qq P cells t) (ar:P.eqGuardType P.depth t=false) (hx:ev E x=some (.agg (cells p).toArray)) (aH:ev E y=some (.agg (cells q).toArray)):cG P E ⟨d, .binOp .neq t x y u,ty,pos,aW,g⟩ w (.bool (!decide (p=q))) w:=fun n a ha=>by
 simp only [execOp,ha.ev hx,ha.ev aH,aNh,apG ar,(Jg p q w).2,aNb,aNl]
theorem On {u i:Value} (hx:ev E x=some u) (aH:ev E y=some i) (hr:(Instr.index t u i).run P w= .ok v w):cG P E ⟨d, .index t x y,ty,pos,aW,g⟩ w v w:=fun n a ha=>by
 simp only [execOp,ha.ev hx,ha.ev aH,aNh,hr,aNb,aNl]
theorem Kp {k:IntKind} {i j:Int} {ts:Array TypeId} (hx:ev E x=some (.int k i)) (aH:ev E y=some (.int k j)):cG P E ⟨d, .call {callee:= .builtin .min,args:=#[x,y],argTypes:=ts},ty,pos,aW,g⟩ w (.int k (min i j)) w :=
 bi (vs:= [.int k i, .int k j]) (by simp only [fw,hx,aH]) fun cs=>by
  have:=run_min_int2 (P:=P) (w:=w) ts ty k k i j;simp only [builtin,aNh,this,aNb,aNl];congr 3;rw [Int.min_def];split<;>split<;>omega
theorem mx {k:IntKind} {i j:Int} {ts:Array TypeId} (hx:ev E x=some (.int k i)) (aH:ev E y=some (.int k j)):cG P E ⟨d, .call {callee:= .builtin .max,args:=#[x,y],argTypes:=ts},ty,pos,aW,g⟩ w (.int k (max i j)) w :=
 bi (vs:= [.int k i, .int k j]) (by simp only [fw,hx,aH]) fun cs=>by
  have:=run_max_int2 (P:=P) (w:=w) ts ty k k i j;simp only [builtin,aNh,this,aNb,aNl];congr 3;rw [Int.max_def];split<;>split<;>omega
end
open Tryz

section
variable {P:Program} {n:Nat} {E:List (Nat×Value)} {a:Act} {w w0:World} {Q:Exit→Act→World→Prop} {ops:Array Oper} {aL:Nat→Nat}
def rU (r:List Nat) (l:Array Bool):Array Bool:=match r with | []=>l | i::r=>rU r (l.setIfInBounds i true)
def BG (ops:Array Oper) (aL:Nat→Nat):List Nat→Array Bool→Bool
 | [],_=>true
 | i::r,l=>(match aL i with
   | 0=>Region.free .any ops l i && (Region.ready .any ops l).contains i && My ops aL l i
   | 1=>Region.free .any ops l i && (Region.ready .any ops l).contains i
   | _=>false) && BG ops aL r (l.setIfInBounds i true)
def Fm (ops:Array Oper) (aL:Nat→Nat) (r:List Nat):Nat→List Nat→Array Bool→Bool
 | 0,R,l=>R.isEmpty && hQ ops aL r l
 | f+1,R,l=> !(Region.ready .any ops l).isEmpty && (Region.ready .any ops l).all fun j=>R.contains j && Nat.beq (aL j) 2 && Fm ops aL r f (R.erase j) (l.setIfInBounds j true)
theorem Ir (hs:Region.noSelect ops=true) (eJ:∀ c a w,¬ Q (.panic c) a w) {o':Exit→Act→World→Prop} {m:Nat}:∀ (r:List Nat) (l:Array Bool) (a:Act) (w0:World),l.size=ops.size→BG ops aL r l=true→xv P ops o' aL r a w0→
  (∀ a w0,(∀ w,Ext w0 w→o' .normal a w)→vK P ops Q aL m (rU r l) a w0)→vK P ops Q aL (r.length+m) l a w0
 | [],l,a,w0,_,_,h,j5=>by rw [aM5,aN5];exact j5 a w0 h
 | i::r,l,a,w0,ay,aS,h,j5=>by
  rw [aM1,Nat.succ_add];obtain ⟨o,bk,h⟩:=h;have j9:=aO7 hs;rcases h with ⟨aj,v,I,hK⟩ | ⟨aj,v,I,hK⟩ | ⟨aj,h⟩
  ·simp only [BG,aj,aNa] at aS;obtain ⟨⟨⟨hf,hr⟩,af⟩,aS⟩:=aS;obtain ⟨R,r1,r2,sW⟩:=Iu ay af;exact Nu bk (by omega) j9 eJ (fun w0 a=>si P ops w0 o v a) (fun _ _ h=>h) (fun _ _ _ h he hw=>h.of_same he hw) (fun _ _ _ hx h=>h.on hx) R l r1 (.inr sW) _ _ _ _ r2 (fun _ h=>h) (aOo bk hf) (by simpa using hr) I
    (Ir hs eJ r _ _ _ (by simpa using ay) aS hK j5)
  ·simp only [BG,aj,aNa] at aS;obtain ⟨⟨hf,hr⟩,aS⟩:=aS;exact Nu bk (by omega) j9 eJ (fun _ a=>Yields P ops o v a) (fun _ _ h=>Yields.afV h) (fun _ _ _ h he hw=>h.of_same he hw) (fun _ _ _ _ h=>h) (fun _=>true) l (fun _ _ _ _ _=>Z) (.inl fun _ _ _ h=>h) _ _ _ _ (fun _ _=>Z) (fun _ h=>h) (aOo bk hf) (by simpa using hr) I
    (Ir hs eJ r _ _ _ (by simpa using ay) aS hK j5)
  ·obtain ⟨k,lN⟩:∃ k,aL i=k+2:=⟨aL i - 2,by omega⟩;simp only [BG,lN,Bool.false_and,aNR] at aS
theorem c'.ax6 {d:Nat} (h:c' n E a) (hf:look E d=Option.none) (v:Value):c' n E (a.put (some d) v):=by
 refine ⟨h.d,by simp [Act.put,h.s],fun t u hu=> ?_⟩;have dF:d≠t:=fun e=>by rw [e,hu] at hf;cases hf
 simp only [Act.put];rw [aOt dF];exact h.g t u hu
structure LQ (P:Program) (n:Nat) (ops:Array Oper) (Q:Exit→Act→World→Prop) (E:List (Nat×Value)) (w0:World) (i d:Nat) (CJ:Value→List Nat→World→Prop):Prop where
 mono:∀ v f w w',CJ v f w→Ext w w'→CJ v f w'
 free:look E d=none
 gR:Nat.blt d n=true
 run:∀ (a:Act) (w:World) (K:Act→World→Prop),c' n E a→Ext w0 w→(∀ v w' f,Ext w w'→(∀ q∈f,w.heap.size≤q∧q<w'.heap.size)→CJ v f w'→K (a.put (some d) v) w')→wpOp P ops (eY (Q .normal)) i K a w
abbrev Made:=Nat×Nat×(Value→List Nat→World→Prop)
theorem aeJ {vs:Nat→Value} {t:Nat} {v:Value}:∀ {M:List Made},look (M.map (fun x=>(x.2.1,vs x.1))++E) t=some v→(∃ x∈M,x.2.1=t∧vs x.1=v)∨look E t=some v
 | [],h=> .inr h
 | x::M,h=>by
  simp only [aNF,aPo,look] at h;cases af:Nat.beq x.2.1 t with
  | true=>rw [af] at h;exact .inl ⟨x,aNo,aOv af,aNf h⟩
  | false =>
   rw [af] at h;rcases aeJ h with ⟨y,aH,τ⟩ | h
   ·exact .inl ⟨y,aNe _ aH,τ⟩
   ·exact .inr h
theorem Uc {α β:Type} {f:α→β}:∀ {l:List α},(l.map f).Nodup→∀ x∈l,∀ y∈l,f x=f y→x=y
 | z::l,h,x,hx,y,aH,e=>by
  rw [aNF,aPb] at h;rcases aNg.1 hx with κ | κ
  ·rcases aNg.1 aH with τ | τ
   ·rw [κ,τ]
   ·exact absurd (aNn.2 ⟨y,τ,by rw [← e,κ]⟩) h.1
  ·rcases aNg.1 aH with τ | τ
   ·exact absurd (aNn.2 ⟨x,κ,by rw [e,τ]⟩) h.1
   ·exact Uc h.2 x κ y τ e
theorem alA (hs:Region.noSelect ops=true) {ba:List Nat} (M:List Made) (oA:∀ x∈M,LQ P n ops Q E w0 x.1 x.2.1 x.2.2) (wv:(M.map (·.1)).Nodup) (Gs:(M.map (·.2.1)).Nodup)
  (Tu:∀ (w:World) (vs:Nat→Value) (fs:Nat→List Nat),Ext w0 w→(∀ x∈M,x.2.2 (vs x.1) (fs x.1) w∧∀ q∈fs x.1,w0.heap.size≤q∧q<w.heap.size)→(∀ x∈M,∀ y∈M,x.1≠y.1→∀ q∈fs x.1,q∈fs y.1→False)→eD P n ops Q aL ba (M.map (fun x=>(x.2.1,vs x.1))++E) w):
  ∀ (f:Nat) (R:List Nat) (l:Array Bool) (a:Act) (w:World) (vs:Nat→Value) (fs:Nat→List Nat),l.size=ops.size→Fm ops aL ba f R l=true→(∀ i∈R,∃ x∈M,x.1=i)→R.Nodup→Ext w0 w→c' n E a→
   (∀ x∈M,x.1∉R→x.2.2 (vs x.1) (fs x.1) w∧(∀ q∈fs x.1,w0.heap.size≤q∧q<w.heap.size)∧a.tmps[x.2.1]? =some (vs x.1))→
   (∀ x∈M,x.1∉R→∀ y∈M,y.1∉R→x.1≠y.1→∀ q∈fs x.1,q∈fs y.1→False)→vK P ops (eY (Q .normal)) aL (f+ba.length) l a w:=by
 intro f;induction f with
 | zero =>
  intro R l a w vs fs ay aS _ _ hx ha κ τ;simp only [Fm,aNa,List.isEmpty_iff] at aS;obtain ⟨rfl,aS⟩:=aS;rw [aN5];refine C9 hs (fun _ _ _ h=>h) ba l a w ay aS (Tu w vs fs hx (fun x hx=>⟨(κ x hx (by simp)).1,(κ x hx (by simp)).2.1⟩) (fun x hx y aH=>τ x hx (by simp) y aH (by simp)) a ⟨ha.d,ha.s,fun t v hv=> ?_⟩);rcases aeJ hv with ⟨x,hx,rfl,rfl⟩ | hv
  ·exact (κ x hx (by simp)).2.2
  ·exact ha.g t v hv
 | succ f bu =>
  intro R l a w vs fs ay aS hR ib hx ha κ τ;rw [Nat.succ_add];simp only [Fm,aNa,aOa] at aS;obtain ⟨dF,ep⟩:=aS;refine ⟨fun aC=>(by rw [aC] at dF;cases dF),fun j aw=> ?_⟩;have jt:=aNJ.1 ep j aw;simp only [aNa,aPm] at jt;obtain ⟨⟨ar9,aj⟩,aS⟩:=jt;have aj:=aOv aj;obtain ⟨x,T8,rfl⟩:=hR j ar9;obtain ⟨_,o,bk,_⟩:=aPt.1 aw;have mk:=oA x T8;refine ⟨o,bk, .inr ⟨by omega,fun aN jb=>mk.run a aN _ ha (hx.n4 jb) fun v cb FY yG N4 atu=>⟨fun _=>jb.n4 yG, ?_⟩⟩⟩;have NW:=mk.gR;rw [aPB] at NW;have JR:∀ y∈M,y.1∉R.erase x.1→y.1≠x.1→y.1∉R:=fun y aH hn dF hm=>hn ((List.mem_erase_of_ne dF).2 hm);have aG9:=hx.size;have gh:=jb.size;have iN:=yG.size;refine bu (R.erase x.1) _ _ cb (fun k=>if k=x.1 then v else vs k) (fun k=>if k=x.1 then FY else fs k) (by simpa using ay) aS (fun i ak=>hR i (aRi ak)) (ib.erase _) ((hx.n4 jb).n4 yG) (ha.ax6 mk.free v) (fun y aH hn=> ?_) (fun y aH hn z bo N_ dF q I Gw=> ?_)
  ·by_cases he:y.1=x.1
   ·obtain rfl:=Uc wv y aH x T8 he;simp only [aOB];refine ⟨atu,fun q I=>⟨by have:=(N4 q I).1;omega,(N4 q I).2⟩, ?_⟩;simp only [Act.put];rw [aP7 (by rw [ha.s];exact NW)]
   ·simp only [aM4 he];obtain ⟨g1,g2,g3⟩:=κ y aH (JR y aH hn he);refine ⟨(oA y aH).mono _ _ _ _ g1 (jb.n4 yG),fun q I=>⟨(g2 q I).1,by have:=(g2 q I).2;omega⟩, ?_⟩;have hd:x.2.1≠y.2.1:=fun e=>he (by rw [Uc Gs x T8 y aH e]);simp only [Act.put];rw [aOt hd];exact g3
  ·by_cases he:y.1=x.1
   ·by_cases sN:z.1=x.1
    ·exact dF (he.trans sN.symm)
    ·simp only [aNd he] at I;simp only [aM4 sN] at Gw;have:=(N4 q I).1;have:=((κ z bo (JR z bo N_ sN)).2.1 q Gw).2;omega
   ·by_cases sN:z.1=x.1
    ·simp only [aM4 he] at I;simp only [aNd sN] at Gw;have:=(N4 q Gw).1;have:=((κ y aH (JR y aH hn he)).2.1 q I).2;omega
    ·simp only [aM4 he] at I;simp only [aM4 sN] at Gw;exact τ y aH (JR y aH hn he) z bo (JR z bo N_ sN) dF q I Gw
def WX (P:Program) (ops:Array Oper) (Q:Exit→Act→World→Prop) (aL:Nat→Nat) (B ba:List Nat) (l:Array Bool):Exit→Act→World→Prop
 | .normal,a,w=>Region.noSelect ops=true→l.size=ops.size→Fm ops aL ba B.length B l=true→vK P ops (eY (Q .normal)) aL (B.length+ba.length) l a w
 | _,_,_=>False
theorem G4:∀ (r:List Nat) (l:Array Bool),(rU r l).size=l.size
 | [],_=>rfl
 | i::r,l=>by unfold rU;rw [G4 r];simp
theorem G1 {id:Nat} (hU:List (Nat×Nat)) (CK B ba:List Nat) (hm:P.follows .mixedOrders=true) (aS:(Region.noSelect ops && (CK.length+(B.length+ba.length)== ops.size) && BG ops (j_ hU) CK (Array.replicate ops.size false) && Fm ops (j_ hU) ba B.length B (rU CK (Array.replicate ops.size false)))=true)
  (h:eD P n ops (WX P ops Q (j_ hU) B ba (rU CK (Array.replicate ops.size false))) (j_ hU) CK E w):W P n (.region id ops true) Q E w:=fun a ha=>by
 simp only [aNa,aNV] at aS;obtain ⟨⟨⟨hs,ay⟩,κ⟩,τ⟩:=aS;refine aQL (aPe hm (Q:=eY (Q .normal)) ?_) (fun e a w I=>by cases e<;>first | exact I | exact I.elim);have:=Ir (P:=P) hs (Q:=eY (Q .normal)) (fun _ _ _ h=>h) (m:=B.length+ba.length) CK (Array.replicate ops.size false) a w (by simp) κ (h a ha) (fun a w0 dP=>dP w0 (Ext.bN w0) hs (by rw [G4];simp) τ);rw [ay] at this;exact x' _ _ _ _ this _ (aNH _ w).drew
def nodupB:List Nat→Bool
 | []=>true
 | x::r=> !r.elem x && nodupB r
theorem UL:∀ {l:List Nat},nodupB l=true→l.Nodup
 | [],_=>aP9
 | x::r,h=>by
  simp only [nodupB,aNa,aOa] at h;refine aPb.2 ⟨fun hm=> ?_,UL h.2⟩;rw [List.elem_iff.2 hm] at h;cases h.1
theorem an {α:Type} {p:α→Prop}:∀ x∈([]:List α),p x:=fun x h=>nomatch h
theorem am {α:Type} {p:α→Prop} {x:α} {l:List α} (h:p x) (k:∀ y∈l,p y):∀ y∈x::l,p y:=aQb.2 ⟨h,k⟩
theorem Fq {ba:List Nat} {l:Array Bool} (M:List Made) (oA:∀ x∈M,LQ P n ops Q E w x.1 x.2.1 x.2.2) (Gq:nodupB (M.map (·.1))=true) (TM:nodupB (M.map (·.2.1))=true) {B:List Nat} (aS:M.map (·.1)=B)
  (Tu:∀ (aN:World) (vs:Nat→Value) (fs:Nat→List Nat),Ext w aN→(∀ x∈M,x.2.2 (vs x.1) (fs x.1) aN∧∀ q∈fs x.1,w.heap.size≤q∧q<aN.heap.size)→(∀ x∈M,∀ y∈M,x.1≠y.1→∀ q∈fs x.1,q∈fs y.1→False)→eD P n ops Q aL ba (M.map (fun x=>(x.2.1,vs x.1))++E) aN):
  N n (WX P ops Q aL B ba l) E w:=fun a ha hs ay af=>by
 subst aS;have wv:=UL Gq;have Gs:=UL TM;refine alA hs M oA wv Gs Tu _ _ l a w (fun _=>undef) (fun _=> []) ay af (fun i ak=> ?_) wv (Ext.bN w) ha (fun x hx hn=>absurd (aNn.2 ⟨x,hx,Z⟩) hn) (fun x hx hn=>absurd (aNn.2 ⟨x,hx,Z⟩) hn);obtain ⟨x,hx,e⟩:=aNn.1 ak;exact ⟨x,hx,e⟩
variable {d i:Nat} {ty:TypeId} {pos:String} {aW:Array Edge} {x y z:Operand} {t:TypeId} {v:Value}
theorem UH {f:FuncId} (hf:Enters P f) {xs:Array Operand} {ts:Array TypeId} {args:List Value} (CJ:Value→List Nat→World→Prop) (ak:ops[i]? =some ⟨some d, .call {callee:= .value (.func f),args:=xs,argTypes:=ts},ty,pos,aW,none⟩) (he:fw E xs.toList=some args) (kE:look E d=none) (hd:Nat.blt d n=true)
  (hm:∀ v f w w',CJ v f w→Ext w w'→CJ v f w') (h:∀ aN,Ext w aN→Calls P f args.toArray aN fun e w'=>∃ v FY,e= .returned v∧Ext aN w'∧(∀ q∈FY,aN.heap.size≤q∧q<w'.heap.size)∧CJ v FY w'):LQ P n ops Q E w i d CJ:=by
 refine ⟨hm,kE,hd,fun a aN K ha hx hK=> ?_⟩;unfold wpOp;simp only [ak];rw [aNd (qP rfl)];refine .inl ?_;unfold Oper.wp;rw [Cl hf ha he];refine aOY (h aN hx) fun e w' dP=> ?_;obtain ⟨v,FY,rfl,g1,g2,g3⟩:=dP;exact hK v w' FY g1 g2 g3
def aD1 (cs:List Value) (t:TypeId) (v:Value) (f:List Nat) (w:World):Prop:=∃ b,v= .pointer (some ⟨b,0,none⟩)∧f= [b]∧aO w b cs t (0,0)
end
open Tryz

section
variable {P:Program} {n:Nat} {E cd:List (Nat×Value)} {a:Act} {w w' w0 aN:World} {Q:Exit→Act→World→Prop} {ops:Array Oper}
variable {d:Option Nat} {ty:TypeId} {pos:String} {aW:Array Edge} {g:Option (Nat×Bool)} {x y z u:Operand} {t:TypeId} {rest:List Oper} {v:Value}
theorem UJ {i:Int} (hx:ev E x=some (.int .i64 i)) (h:IntKind.i64.wrap (-i)= -i):cG P E ⟨d, .unOp .neg t x,ty,pos,aW,g⟩ w (.int .i64 (-i)) w:=fun n a ha=>by
 have:(execOp a.eval ⟨d, .unOp .neg t x,ty,pos,aW,g⟩).run P w= .ok (.value (.int .i64 (IntKind.i64.wrap (-i)))) w:=by
  have aC:(0:Int) - i= -i:=Int.zero_sub i;have hu:(Op.unary .neg (.int .i64 i)).run P w= .ok (.int .i64 (IntKind.i64.wrap (-i))) w:=by
   show (Op.intArith .sub .i64 0 i).run P w=_;simp [Op.intArith,aC]
  simp only [execOp,ha.ev hx,aNh,hu,aNb,aNl]
 rw [this,h]
theorem avN {k:IntKind} {i j l m:Int} {ts:Array TypeId} (hx:ev E x=some (.int k i)) (aH:ev E y=some (.int k j)) (bo:ev E z=some (.int k l)) (hu:ev E u=some (.int k m)):cG P E ⟨d, .call {callee:= .builtin .max,args:=#[x,y,z,u],argTypes:=ts},ty,pos,aW,g⟩ w (.int k (max (max (max i j) l) m)) w :=
 bi (vs:= [.int k i, .int k j, .int k l, .int k m]) (by simp only [fw,hx,aH,bo,hu]) fun cs=>by
  have e:∀ a b:Int,(if b > a then b else a)=max a b:=fun a b=>by rw [Int.max_def];split<;>split<;>omega
  have:(Builtin.max_ ts ty #[.int k i, .int k j, .int k l, .int k m]).run P w= .ok (.int k (max (max (max i j) l) m)) w:=by
   rw [← e,← e,← e];simp [Builtin.max_,Builtin.max2]
  simp only [builtin,aNh,this,aNb,aNl]
end
def XV (e:MapEntry) (p:Int×Int):Prop:=e.key= .int .i64 p.1∧e.val= .int .i64 p.2
def oh (w:World) (r:Nat) (l:List (Int×Int)):Prop:=∃ (es:Array MapEntry) (clock:Nat),w.heap[r]? =some (.map es clock)∧dt XV es.toList l
def cN (l:List (Int×Int)) (k:Int):Option Int:=(l.find? fun p=>p.1 == k).map (·.2)
section
variable {w w':World} {r:Nat} {l:List (Int×Int)} {S:List Nat}
theorem oh.lt (h:oh w r l):r<w.heap.size:=by
 obtain ⟨es,c,κ,_⟩:=h;exact (aNy.1 κ).1
theorem oh.later (h:oh w r l) (x:Ext w w'):oh w' r l:=by
 have ay:=h.lt;obtain ⟨es,c,κ,τ⟩:=h;exact ⟨es,c,by rw [x.block r ay];exact κ,τ⟩
theorem oh.mod (h:oh w r l) (m:Mod S w w') (hs:r∉S):oh w' r l:=by
 have ay:=h.lt;obtain ⟨es,c,κ,τ⟩:=h;exact ⟨es,c,by rw [m.block r ay hs];exact κ,τ⟩
theorem Sc (k:Int):∀ {es:List MapEntry} {l:List (Int×Int)} (i:Nat),dt XV es l→(cN l k=none→Instr.findNow (.int .i64) (.int .i64 k) es i=some none)∧(∀ v,cN l k=some v→∃ j,Instr.findNow (.int .i64) (.int .i64 k) es i=some (some (j, .int .i64 v)))
 | [], [],i,_=>⟨fun _=>rfl,fun v h=>by simp [cN] at h⟩
 | e::es,p::l,i,h=>by
  obtain ⟨⟨aj,hv⟩,τ⟩:=h;have bu:=Sc k (i+1) τ;have Of:Instr.sameNow (.int .i64) (.int .i64 k) e.key=some (decide (k=p.1)):=by
   rw [aj];obtain ⟨q,I,ak⟩:=MapKept.sameNow_of_keys (d:= .int .i64) (a:= .int .i64 k) (b:= .int .i64 p.1) rfl rfl;rw [I];cases q with
   | true=>have:=ak.1 rfl;injection this with _ this;rw [aNp this]
   | false=>rw [aNu fun e=>by have:=ak.2 (by rw [e]);cases this]
  by_cases he:k=p.1
  ·have af:(p.1 == k)=true:=by simp [he]
   rw [aNp he] at Of;refine ⟨fun aC=>by simp [cN,List.find?,af] at aC,fun v aC=>⟨i, ?_⟩⟩;have:p.2=v:=by simpa [cN,List.find?,af] using aC
   simp [Instr.findNow,Of,hv,this]
  ·have af:(p.1 == k)=false:=by simpa using fun e=>he e.symm
   rw [aNu he] at Of;have aU:cN (p::l) k=cN l k:=by simp [cN,List.find?,af]
   rw [aU];simpa [Instr.findNow,Of] using bu
end
section
variable {P:Program} {n:Nat} {E cd:List (Nat×Value)} {a:Act} {w w' w0 aN:World} {Q:Exit→Act→World→Prop} {ops:Array Oper}
variable {d:Option Nat} {ty:TypeId} {pos:String} {aW:Array Edge} {g:Option (Nat×Bool)} {x y z u:Operand} {t:TypeId} {rest:List Oper} {v:Value}
theorem UI {d:Nat} (hd:Nat.blt d n=true) (h:∀ aN r,Ext w aN→w.heap.size≤r→oh aN r []→bQ P n ops Q rest ((d, .map (some r))::E) aN):bQ P n ops Q (⟨some d, .makeMap t none,ty,pos,aW,none⟩::rest) E w:=by
 refine im (w':=w.alloc (.map #[] 0)) (v:= .map (some w.heap.size)) (fun n a ha=> ?_) hd (h _ _ ((aNH _ w).alloc (aNk _) _) (aNk _) ⟨#[],0,(MapKept.heap_alloc w _).1,trivial⟩);simp only [execOp,Option.map,aNh,run_makeMap_plain,aNb,aNl]
theorem lk {J5 Np:TypeId} {r:Nat} {l:List (Int×Int)} {k:Int} (hm:P.underlying t=some (.map J5 Np)) (aj:P.underlying J5=some (.int .i64)) (he:kT P Np (.int .i64 0)) (h:oh w r l) (hx:ev E x=some (.map (some r))) (aH:ev E y=some (.int .i64 k)):
  cG P E ⟨d, .lookup t x y true,ty,pos,aW,g⟩ w (.tuple #[.int .i64 ((cN l k).getD 0), .bool (cN l k).isSome]) w:=fun n a ha=>by
 obtain ⟨es,c,κ,τ⟩:=h;have hf:=Sc k 0 τ;have N1:=aRB (P:=P) (w:=w) aj (show MapKept.IsKey (.int .i64) (.int .i64 k) from rfl) es.isEmpty 9999;have kF:(Instr.lookup t (.map (some r)) (.int .i64 k) true).run P w= .ok (.tuple #[.int .i64 ((cN l k).getD 0), .bool (cN l k).isSome]) w:=by
  cases aU:cN l k with
  | none =>
   have:=aQu (P:=P) (w:=w) aj (hf.1 aU);simp [Instr.lookup,aNh,aOc hm,aNU κ,N1,this,he w,Result.andThen]
  | some v =>
   obtain ⟨j,aw⟩:=hf.2 v aU;have:=aQu (P:=P) (w:=w) aj aw;simp [Instr.lookup,aNh,aOc hm,aNU κ,N1,this,Result.andThen]
 simp only [execOp,ha.ev hx,ha.ev aH,aNh,kF,aNb,aNl]
theorem mu {J5 Np:TypeId} {r:Nat} {l:List (Int×Int)} {k v:Int} (hm:P.underlying t=some (.map J5 Np)) (aj:P.underlying J5=some (.int .i64)) (h:oh w r l) (aU:cN l k=none) (hx:ev E x=some (.map (some r))) (aH:ev E y=some (.int .i64 k)) (bo:ev E z=some (.int .i64 v))
  (hK:∀ aN,Mod [r] w aN→oh aN r (l++ [(k,v)])→bQ P n ops Q rest E aN):bQ P n ops Q (⟨none, .mapUpdate t x y z,ty,pos,aW,none⟩::rest) E w:=by
 have bB:=h.lt;obtain ⟨es,c,κ,τ⟩:=h;have hf:=(Sc k 0 τ).1 aU;have N1:=aRB (P:=P) (w:=w) aj (show MapKept.IsKey (.int .i64) (.int .i64 k) from rfl) false 9999;have arR:=aQu (P:=P) (w:=w) aj hf;have tY:=aOi (P:=P) (.map (es.push {key:= .int .i64 k,val:= .int .i64 v,born:=c}) (c+1)) κ;refine us (w':= {w with heap:=w.heap.setIfInBounds r (.map (es.push {key:= .int .i64 k,val:= .int .i64 v,born:=c}) (c+1))}) (fun n a ha=> ?_) (hK _ ⟨Z,Z,Z,by simp,fun q I hn=> ?_⟩ ⟨es.push {key:= .int .i64 k,val:= .int .i64 v,born:=c},c+1,(MapKept.heap_set κ).1, ?_⟩)
 ·have kF:(Instr.mapUpdate t (.map (some r)) (.int .i64 k) (.int .i64 v)).run P w= .ok () {w with heap:=w.heap.setIfInBounds r (.map (es.push {key:= .int .i64 k,val:= .int .i64 v,born:=c}) (c+1))}:=by
   simp [Instr.mapUpdate,aNh,aOc hm,aNU κ,N1,arR,tY,Result.andThen]
  simp only [execOp,ha.ev hx,ha.ev aH,ha.ev bo,aNh,kF,aNb,aNl]
 ·exact (MapKept.heap_set κ).2 q (by simpa using hn)
 ·rw [Array.toList_push];exact τ.app ⟨⟨Z,Z⟩,trivial⟩
end
theorem avX {w:World} {B e size c m:Nat} {G:Nat→Value→Prop} {z:Array Value} (bo:z.size=size) (aC:0<size) (ar:∀ (j:Nat) u,z[j]? =some u→G j u) (aS:B≤w.heap.size) (hm:m≤c) (hc:c≤maxLen):
  Own (w.alloc (.cells (madeCells z (c * size)) e)) B e size G (.slice (some ⟨w.heap.size,0,none⟩) m c) m ((madeCells z (c * size)).toList.take (m * size)):=by
 have aGN:m * size≤c * size:=aNM _ hm;refine ⟨by rw [aM9,aOj,aQ8];omega, .inr ⟨w.heap.size,c,_,rfl,aS,(MapKept.heap_alloc w _).1,hm,hc,aQ8 _ _,rfl,fun j u hu=> ?_⟩⟩;have bB:=(aNy.1 hu).1;simp only [madeCells,aQt] at hu;rw [aQ8] at bB;rw [aQf,aNd bB] at hu;have aw:j % size<z.size:=by rw [bo];exact aQq _ aC
 have e:z[j % z.size]! =z[j % size]:=by rw [bo];exact getElem!_pos z (j % size) aw
 rw [aOH,e] at hu;exact ar _ _ (by rw [Array.getElem?_eq_getElem aw];exact hu)
section
variable {P:Program} {n:Nat} {E cd:List (Nat×Value)} {a:Act} {w w' w0 aN:World} {Q:Exit→Act→World→Prop} {ops:Array Oper}
variable {d:Nat} {ty:TypeId} {pos:String} {aW:Array Edge} {g:Option (Nat×Bool)} {x y z:Operand} {t:TypeId} {rest:List Oper}
theorem aeU {α:Type} {R:Φ α} {e by_ B m c:Nat} {zv:Value} {l:List α} (bL:R.Plain) (aD:P.underlying t=some (.slice e)) (ak:(P.info? e).map (fun i=>(i.zero,i.size,i.bytes))=some (some zv,R.size,by_)) (κ:zv.cells.size=R.size) (τ:0<R.size) (aq:∀ (j:Nat) u,zv.cells[j]? =some u→R.raw j u)
  (hx:ev E x=some (.int .i64 (m:Int))) (aH:ev E y=some (.int .i64 (c:Int))) (hd:Nat.blt d n=true) (hm:m≤c) (af:c * by_≤140737488355328) (hc:c≤9223372036854775807) (aS:B≤w.heap.size) (ay:l.length=m) {ess:List (List Value)} (arL:∀ w,dt (fun es a=>R.has w es a) ess l) (rv:ess.flatten=(madeCells zv.cells (c * R.size)).toList.take (m * R.size))
  (h:∀ aN b,Ext w aN→w.heap.size≤b→R.aM e by_ aN B (Φ.ab (some ⟨b,0,none⟩)) (some ⟨b,0,none⟩) c l→bQ P n ops Q rest ((d, .slice (some ⟨b,0,none⟩) m c)::E) aN):bQ P n ops Q (⟨some d, .makeSlice t x y,ty,pos,aW,none⟩::rest) E w:=by
 cases I:P.info? e with
 | none=>rw [I] at ak;cases ak
 | some i =>
  rw [I] at ak;simp only [aOH,aQv,aQ2] at ak;obtain ⟨i1,i2,i3⟩:=ak;have bq:(i.bytes:Int) * (c:Int)≤281474976710656:=by
   have:i.bytes * c≤281474976710656:=by rw [i3,aOS];omega
   have h:((i.bytes * c:Nat):Int)≤281474976710656:=by omega
   rwa [Int.natCast_mul] at h
  have hr:=run_make (P:=P) w t e i zv aD I i1 .i64 .i64 (m:Int) (c:Int) (by omega) (by omega) bq (by omega);simp only [aN9] at hr;have bk:=avX (w:=w) (e:=e) (c:=c) (m:=m) κ τ aq aS hm (by simp [maxLen];omega);rw [← rv] at bk;subst ay;rw [i2] at hr;refine im (fun n a ha=> ?_) hd (h _ w.heap.size ((aNH _ w).alloc (aNk _) _) (aNk _) (Φ.aM.GV (R:=R) bL (arL _) (aNm (aNM _ hm) af) bk));simp only [execOp,ha.ev hx,ha.ev aH,aNh,hr,aNb,aNl]
theorem avO {α:Type} {R:Φ α} {e by_ B c:Nat} {zv:Value} (bL:R.Plain) (aD:P.underlying t=some (.slice e)) (ak:(P.info? e).map (fun i=>(i.zero,i.size,i.bytes))=some (some zv,R.size,by_)) (κ:zv.cells.size=R.size) (τ:0<R.size) (aq:∀ (j:Nat) u,zv.cells[j]? =some u→R.raw j u)
  (hx:ev E x=some (.int .i64 0)) (aH:ev E y=some (.int .i64 (c:Int))) (hd:Nat.blt d n=true) (af:c * by_≤140737488355328) (hc:c≤9223372036854775807) (aS:B≤w.heap.size)
  (h:∀ aN b,Ext w aN→w.heap.size≤b→R.aM e by_ aN B (Φ.ab (some ⟨b,0,none⟩)) (some ⟨b,0,none⟩) c ([]:List α)→bQ P n ops Q rest ((d, .slice (some ⟨b,0,none⟩) 0 c)::E) aN):bQ P n ops Q (⟨some d, .makeSlice t x y,ty,pos,aW,none⟩::rest) E w :=
 aeU (m:=0) (l:=([]:List α)) (ess:= []) bL aD ak κ τ aq hx aH hd (aNQ _) af hc aS rfl (fun _=>trivial) (by simp) h
theorem D4 {α:Type} {R:Φ α} {e by_ B c:Nat} {zv:Value} {q:α} (bL:R.Plain) (aD:P.underlying t=some (.slice e)) (ak:(P.info? e).map (fun i=>(i.zero,i.size,i.bytes))=some (some zv,R.size,by_)) (hs:R.size=1) (κ:zv.cells=#[zv]) (aq:∀ (j:Nat) u,zv.cells[j]? =some u→R.raw j u) (I:∀ w,R.has w [zv] q)
  (hx:ev E x=some (.int .i64 (c:Int))) (aH:ev E y=some (.int .i64 (c:Int))) (hd:Nat.blt d n=true) (af:c * by_≤140737488355328) (hc:c≤9223372036854775807) (aS:B≤w.heap.size)
  (h:∀ aN b,Ext w aN→w.heap.size≤b→R.aM e by_ aN B (Φ.ab (some ⟨b,0,none⟩)) (some ⟨b,0,none⟩) c (List.replicate c q)→bQ P n ops Q rest ((d, .slice (some ⟨b,0,none⟩) c c)::E) aN):bQ P n ops Q (⟨some d, .makeSlice t x y,ty,pos,aW,none⟩::rest) E w:=by
 refine aeU (m:=c) (ess:=List.replicate c [zv]) bL aD ak (by rw [κ,hs];rfl) (by omega) aq hx aH hd (aNk _) af hc aS (by simp) (fun w=> ?_) ?_ h
 ·clear h af hc hx aH;induction c with
  | zero=>trivial
  | succ c bu=>exact ⟨I w,bu⟩
 ·rw [hs,aPK,κ];apply aOI;intro i;simp only [aNK,aN1,madeCells,aQt,aQf];have aR:∀ k:Nat,(List.replicate k [zv]).flatten=List.replicate k zv:=fun k=>by
   induction k with
   | zero=>rfl
   | succ k bu=>simp [aPv,bu]
  rw [aR,aOz];split
  ·simp [Nat.mod_one]
  ·rfl
end
def ez (A:Option Addr) (c lo s:Nat):Option Addr:=if c=lo then A else A.map (·.add (lo * s))
theorem Sf {β:Type} {size:Nat}:∀ (lo:Nat) {ess:List (List β)},(∀ x∈ess,x.length=size)→(ess.drop lo).flatten=ess.flatten.drop (lo * size)
 | 0,ess,_=>by simp
 | lo+1, [],_=>by simp
 | lo+1,x::ess,h=>by
  have hx:=h x aNo;rw [aRr,Sf lo fun y aH=>h y (aNe _ aH),aNW,aOp,aPy,← List.drop_drop];congr 1;rw [List.drop_append_of_le_length (by omega),aRd (by omega)];rfl
theorem Nx {β:Type} {size:Nat}:∀ (n:Nat) {ess:List (List β)},(∀ x∈ess,x.length=size)→(ess.take n).flatten=ess.flatten.take (n * size)
 | 0,ess,_=>by simp
 | n+1, [],_=>by simp
 | n+1,x::ess,h=>by
  have hx:=h x aNo;have e:(n+1) * size=size+n * size:=by rw [aOp,aPy]
  rw [aQi,aNW,Nx n fun y aH=>h y (aNe _ aH),aNW,e,aQH,hx,Nat.add_sub_cancel_left,aNr (by rw [hx];omega:x.length≤size+n * size)]
theorem dt.drop {α β:Type} {P:β→α→Prop}:∀ (n:Nat) {l:List β} {m:List α},dt P l m→dt P (l.drop n) (m.drop n)
 | 0,_,_,h=>h
 | n+1, [], [],_=>trivial
 | n+1,_::_,_::_,h=>dt.drop n h.2
theorem dt.take {α β:Type} {P:β→α→Prop}:∀ (n:Nat) {l:List β} {m:List α},dt P l m→dt P (l.take n) (m.take n)
 | 0,_,_,_=>trivial
 | n+1, [], [],_=>trivial
 | n+1,_::_,_::_,h=>⟨h.1,dt.take n h.2⟩
theorem Φ.aQ.sub {α:Type} {R:Φ α} {by_ c:Nat} {A:Option Addr} {l:List α} {w:World} (h:R.aQ by_ w A c l) (lo ak:Nat) (κ:lo≤ak) (τ:ak≤l.length):R.aQ by_ w (ez A c lo R.size) (c - lo) ((l.drop lo).take (ak - lo)):=by
 obtain ⟨g1,g2,g3,g4,ess,g5,g6⟩:=h;have hlen:((l.drop lo).take (ak - lo)).length=ak - lo:=by rw [aM9,aNE];omega
 have hu:∀ x∈ess,x.length=R.size:=fun x hx=>by obtain ⟨a,ha⟩:=g5.left x hx;exact R.len ha
 refine ⟨by rw [hlen];omega,by omega,by rw [hlen];exact aNm (aNM _ (by omega)) g3,fun hn=> ?_,(ess.drop lo).take (ak - lo),(g5.drop lo).take _, ?_⟩
 ·unfold ez at hn;split at hn
  ·omega
  ·cases A with
   | none=>have:=g4 rfl;omega
   | some a=>cases hn
 ·have atd:∀ x∈ess.drop lo,x.length=R.size:=fun x hx=>hu x (aRm hx);have Gl:ess.length=l.length:=g5.length;rw [Nx _ atd,Sf _ hu,hlen];have rv:=Dr hu;refine ⟨?_,fun aC=> ?_⟩
  ·rw [aM9,aNE,rv,Gl,← Nat.sub_mul,aPu (aNM _ (by omega))]
  ·obtain ⟨b,o,rfl,hc⟩:=g6.2 (by omega);have dF:¬ c=lo:=by omega
   refine ⟨b,o+lo * R.size,by unfold ez;rw [aM4 dF];simp [Addr.add],fun j u aw=> ?_⟩;rw [aNK] at aw;split at aw
   ·rw [aN6] at aw;rw [aPq];exact hc _ u aw
   ·cases aw
section
variable {P:Program} {n:Nat} {E cd:List (Nat×Value)} {w:World} {d:Option Nat} {ty:TypeId} {pos:String} {aW:Array Edge} {g:Option (Nat×Bool)} {x y z:Operand} {t:TypeId}
theorem ay1 {A:Option Addr} {len cap e s:Nat} {k k':IntKind} (lo ak:Nat) {i j:Int} (aD:P.underlying t=some (.slice e)) (hs:eO P e s) (hx:ev E x=some (.slice A len cap)) (aH:ev E y=some (.int k i)) (bo:ev E z=some (.int k' j)) (Al:i=(lo:Int)) (DL:j=(ak:Int)) (κ:lo≤ak) (τ:ak≤cap):
  cG P E ⟨d, .slice t x (some y) (some z) none,ty,pos,aW,g⟩ w (.slice (ez A cap lo s) (ak - lo) (cap - lo)) w:=fun n a ha=>by
 subst Al;subst DL;have lu:P.underlying t=some (.slice (P.elem t)):=by simp [Program.elem,aD]
 have nZ:P.elem t=e:=by simp [Program.elem,aD]
 have aq:=run_slice_lh (P:=P) (w:=w) t A len cap lu k k' (lo:Int) (ak:Int) (by omega) (by omega) (by omega);have bb:=aPj (P:=P) (w:=w) t (.slice A len cap) (some (.int k (lo:Int))) (some (.int k' (ak:Int))) none lu;rw [nZ,hs w] at aq;simp only [execOp,ha.ev hx,ha.ev aH,ha.ev bo,Option.map,bb,aq,aNh,aNb,aNl,sliced,aN9,ez]
end
open Tryz

section
variable {P:Program} {n:Nat} {E cd:List (Nat×Value)} {a:Act} {w w' w0 aN:World} {Q:Exit→Act→World→Prop} {ops:Array Oper}
variable {d:Option Nat} {ty:TypeId} {pos:String} {aW:Array Edge} {g:Option (Nat×Bool)} {x y z:Operand} {t:TypeId} {rest:List Oper} {v:Value}
theorem ayU {f:FuncId} (hf:Enters P f) {xs:Array Operand} {ts:Array TypeId} {args zN:List Value} {a:Act} (ha:c' n E a) (hx:ev E x=some (.func (.func f) #[] zN.toArray)) (he:fw E xs.toList=some args):
  (execOp a.eval ⟨d, .call {callee:= .value x,args:=xs,argTypes:=ts},ty,pos,aW,g⟩).run P w= .ok (.enter f (args++zN).toArray) w:=by
 obtain ⟨fn,κ,τ,aq⟩:=hf;have hm:xs.map a.eval=args.toArray:=by rw [← ha.fw he];apply aOr;simp
 have hp:Sem.run P program w= .ok P w:=rfl;unfold execOp;simp only [resolve,invoke,Deferred.ofValue,ha.ev hx,callFunc,aNh,aNl,aNb,hm,hp,κ,τ,aq,aPF,aNR,aOm];simp
theorem Rw {d:Nat} {f:FuncId} (hf:Enters P f) {xs:Array Operand} {ts:Array TypeId} {args zN:List Value} (hx:ev E x=some (.func (.func f) #[] zN.toArray)) (he:fw E xs.toList=some args) (hd:Nat.blt d n=true)
  (h:Calls P f (args++zN).toArray w fun e w'=>∃ v,e= .returned v∧bQ P n ops Q rest ((d,v)::E) w'):bQ P n ops Q (⟨some d, .call {callee:= .value x,args:=xs,argTypes:=ts},ty,pos,aW,none⟩::rest) E w:=fun a ha=>by
 refine x_ Z ?_;unfold Oper.wp;rw [ayU hf ha hx he];refine aOY h fun e w' dP=> ?_;obtain ⟨v,rfl,h⟩:=dP;exact h _ (ha.put hd v)
theorem ne {fn:Func} {R:Ending→World→Prop} (h:T n (bodyPost P fn R) E w):N n (bodyPost P fn R) E w:=fun a ha=>h a ha
end
def Raw (aA size j:Nat) (w:World) (A:Option Addr) (c:Nat):Prop :=
 (A=none∧c=0)∨∃ (b:Nat) (cur:List Value) (e:TypeId),A=some ⟨b,0,none⟩∧aA≤b∧aO w b cur e (0,0)∧∀ i,i<c→∃ m:Int,cur[i * size+j]? =some (.int .i64 m)
section
variable {w w':World} {aA size j c i:Nat} {A:Option Addr} {S:List Nat}
theorem Raw.lt (h:Raw aA size j w A c):∀ q∈Φ.ab A,aA≤q∧q<w.heap.size:=by
 intro q I;rcases h with ⟨rfl,_⟩ | ⟨b,cur,e,rfl,κ,τ,_⟩
 ·simp [Φ.ab] at I
 ·obtain rfl:q=b:=aMZ.1 I;exact ⟨κ,τ.lt⟩
theorem Raw.later (h:Raw aA size j w A c) (x:Ext w w'):Raw aA size j w' A c:=by
 rcases h with h | ⟨b,cur,e,κ,τ,aq,bb⟩
 ·exact .inl h
 ·exact .inr ⟨b,cur,e,κ,τ,aq.later x,bb⟩
theorem Raw.bw (h:Raw aA size j w A c) (aC:0<c):A=some ⟨et A,jR A,none⟩:=by
 rcases h with ⟨_,h⟩ | ⟨b,cur,e,rfl,_⟩
 ·omega
 ·rfl
theorem Raw.get (h:Raw aA size j w A c) (ak:i<c):∃ m:Int,w.cell? ⟨et A,jR A+i * size+j,none⟩=some (.int .i64 m):=by
 rcases h with ⟨_,h⟩ | ⟨b,cur,e,rfl,_,aq,bb⟩
 ·omega
 ·obtain ⟨m,hm⟩:=bb i ak;exact ⟨m,by rw [show (⟨et (some ⟨b,0,none⟩),jR (some ⟨b,0,none⟩)+i * size+j,none⟩:Addr)=⟨b,i * size+j,none⟩ from by simp [et,jR],aq.cell,hm]⟩
end
open Tryz
section
variable {B S:List Nat} {a id m o:Nat} {l:List Oper} {cur cs:List Value} {e:TypeId}
theorem bl {b n:Nat} (u:∀ q∈B,q<n) (h:n≤b:=by omega):∀ q∈B,q∈ [b]→False:=fun q I af=>by have:=u q I;have:=aMZ.1 af;omega
theorem bG {b n:Nat} (u:∀ q∈B,n≤q) (h:b<n:=by omega):∀ q∈B,q∈ [b]→False:=fun q I af=>by have:=u q I;have:=aMZ.1 af;omega
theorem aY {b:Nat} (h:a≠b:=by omega):a∉ [b]:=fun e=>h (aMZ.1 e)
section
variable {P:Program} {n:Nat} {ops:Array Oper} {Q:Exit→Act→World→Prop} {E:List (Nat×Value)} {w w' w0:World} {v:Value} {ty:TypeId} {pos:String} {aW:Array Edge} {x:Operand} {rest:List Oper} {d i:Nat} {ba:List Nat} {aL:Nat→Nat}
theorem aJ {y:Code} (h:W P n y Q E w):bQ P n ops (lJ P y Q) [] E w:=nl (br h)
theorem aF {y:Code} (h:bQ P n l.toArray (lJ P y Q) l E w):W P n (.seq (.region id l.toArray false) y) Q E w:=aI (rg h)
theorem bE {y:Code} (h:W P n y Q E w):W P n .skip (lJ P y Q) E w:=fZ (br h)
theorem aa {op:Op} (hr:cG P E ⟨some d,op,ty,pos,aW,none⟩ w v w') (h:bQ P n ops Q rest ((d,v)::E) w') (hd:Nat.blt d n=true:=by rfl):bQ P n ops Q (⟨some d,op,ty,pos,aW,none⟩::rest) E w:=im hr hd h
theorem vm (hx:ev E x=some v) (h:bQ P n ops Q rest ((d,v)::E) w) (hd:Nat.blt d n=true:=by rfl):bQ P n ops Q (⟨some d, .move x,ty,pos,aW,none⟩::rest) E w:=im (jA hx) hd h
theorem va (hx:ev E x=some v) (h:bQ P n ops Q rest ((d,v)::E) w) (hd:Nat.blt d n=true:=by rfl):bQ P n ops Q (⟨some d, .assign x,ty,pos,aW,none⟩::rest) E w:=im (eV hx) hd h
theorem ax {op:Op} (ak:ops[i]? =some ⟨some d,op,ty,pos,aW,none⟩) (hr:∀ w,cG P E ⟨some d,op,ty,pos,aW,none⟩ w v w) (h:eD P n ops Q aL ba ((d,v)::E) w0) (aj:aL i=1:=by rfl) (hd:Nat.blt d n=true:=by rfl):eD P n ops Q aL (i::ba) E w0:=kn ak aj hr hd h
theorem cS {op:Op} (ak:ops[i]? =some ⟨some d,op,ty,pos,aW,none⟩) (hr:∀ w,Ext w0 w→cG P E ⟨some d,op,ty,pos,aW,none⟩ w v w) (h:eD P n ops Q aL ba ((d,v)::E) w0) (aj:aL i=0:=by rfl) (hd:Nat.blt d n=true:=by rfl):eD P n ops Q aL (i::ba) E w0:=Sj ak aj hr hd h
end
theorem ih:∀ {cd E:List (Nat×Value)},cd.map (fun p=>look E p.1)=cd.map (fun p=>some p.2)→Sub cd E
 | [],_,_=>Sub.nil
 | (k,v)::r,E,h=>have cp:look E k::r.map (fun p=>look E p.1)=some v::r.map (fun p=>some p.2):=h
  Sub.cons (aQm cp).1 (ih (aQm cp).2)
theorem cq:(∀ (a b:Bool),((a || b)=true)↔(a=true∨b=true))∧(∀ (a b:Bool),((a || b)=false)↔(a=false∧b=false))∧(∀ (a b:Bool),((a && b)=true)↔(a=true∧b=true))∧(∀ (a b:Bool),((a && b)=false)↔(a=false∨b=false))∧(∀ (p:Prop) [Decidable p],(decide p=true)↔p)∧(∀ (p:Prop) [Decidable p],(decide p=false)↔¬ p)∧(∀ (α:Type) [BEq α] [LawfulBEq α] (a b:α),((a == b)=true)↔(a=b))∧(∀ (α:Type) [BEq α] [LawfulBEq α] (a b:α),((a != b)=true)↔(a≠b))∧(∀ (α:Type) [BEq α] [LawfulBEq α] (a b:α),((a == b)=false)↔(a≠b))∧(∀ (α:Type) [BEq α] [LawfulBEq α] (a b:α),((a != b)=false)↔(a=b))∧(∀ b:Bool,((!b)=true)↔(b=false))∧(∀ b:Bool,((!b)=false)↔(b=true))∧(∀ b:Bool,(¬ (b=true))↔(b=false))∧(∀ b:Bool,(¬ (b=false))↔(b=true))∧(∀ a b:Int,(¬ a<b)↔b≤a)∧(∀ a b:Int,(¬ a≤b)↔b<a)∧(∀ a b:Nat,(¬ a<b)↔b≤a)∧(∀ a b:Nat,(¬ a≤b)↔b<a)∧(∀ (α:Type) (a b:α),(a≠b)↔¬ (a=b))∧(∀ p:Prop,(¬ ¬ p)↔p):=
 ⟨fun a b=>by cases a<;>cases b<;>simp,fun a b=>by cases a<;>cases b<;>simp,fun a b=>by cases a<;>cases b<;>simp,fun a b=>by cases a<;>cases b<;>simp,fun p _=>by simp,fun p _=>by simp,fun α _ _ a b=>by simp,fun α _ _ a b=>by simp,fun α _ _ a b=>by simp,fun α _ _ a b=>by simp,fun b=>by simp,fun b=>by simp,fun b=>by simp,fun b=>by simp,fun _ _=>Int.not_lt,fun _ _=>Int.not_le,fun _ _=>Nat.not_lt,fun _ _=>Nat.not_le,fun _ _ _=>Iff.rfl,fun _=>Classical.not_not⟩
theorem aZ (j:Nat) {n:Nat} (h:j<n:=by omega):0<n:=Nat.zero_lt_of_lt h
theorem rE {E:List (Nat×Value)} {t:Nat} {k:IntKind} {i j:Int} (h:look E t=some (.int k i)) (e:i=j:=by first | omega | rfl | (simp<;>omega)):look E t=some (.int k j):=B6 h e
theorem J {a b c:World} (h:Ext a b) (k:Ext b c):Ext a c:=Ext.n4 h k
theorem bF {b n:Nat} (h:n≤b:=by omega):∀ q∈ [b],n≤q:=fun q I=>by rw [aMZ.1 I];exact h
abbrev a_ (b:Nat):Option Addr:=some ⟨b,0,none⟩
abbrev γ (x:Int):Value:= .int .i64 x
def p' (ops:Array Oper) (E:List (Nat×Value)) (j:Nat):Option Value:=ops[j]?.bind fun o=>o.dst.bind fun d=>look E d
theorem NF {ops:Array Oper} {E:List (Nat×Value)} {j:Nat} {v:Value} (h:p' ops E j=some v):∃ cK iX,ops[j]? =some cK∧cK.dst=some iX∧look E iX=some v:=by
 unfold p' at h;cases κ:ops[j]? with
 | none=>rw [κ] at h;cases h
 | some o =>
  rw [κ] at h;cases τ:o.dst with
  | none=>simp [τ] at h
  | some d=>exact ⟨o,d,rfl,τ,by simpa [τ] using h⟩
theorem aF1 {ops:Array Oper} {E:List (Nat×Value)} {j:Nat} {b c:Bool} (h:p' ops E j=some (.bool b)) (e:b=c):p' ops E j=some (.bool c):=by rw [h,e]
theorem ua {a b c:World} (x:Ext a b) (m:Mod S b c):Mod S a c:=(Mod.aP x).trans m
theorem uw {a b c:World} (m:Mod S a b) (x:Ext b c):Mod S a c:=m.trans (Mod.aP x)
theorem gg {T:List Nat} (d:∀ q∈S,q∈T→False):∀ q∈T,q∈S→False:=fun q h k=>d q k h
theorem aFK {b:Nat} (d:∀ q,q=b→q∈S→False):∀ q∈S,q=b→False:=fun q h k=>d q k h
theorem gz {T:List Nat} {b n:Nat} (g:∀ q∈T,q∈S∨n≤q) (d:∀ q∈S,q=b→False) (h:b<n:=by omega):∀ q∈T,q=b→False:=fun q I af=>(g q I).elim (fun k=>d q k af) fun k=>by omega
theorem oT {T U:List Nat} {n:Nat} (g:∀ q∈T,q∈S∨n≤q) (d:∀ q∈S,q∈U→False) (u:∀ q∈U,q<m) (h:m≤n:=by omega):∀ q∈T,q∈U→False:=fun q I af=>(g q I).elim (fun k=>d q k af) fun k=>by have:=u q af;omega
theorem c2 {b:Nat} (d:∀ q∈S,q=b→False):∀ q∈S,q∈ [b]→False:=fun q I h=>d q I (aMZ.1 h)
theorem bZ {b:Nat} (h:∀ q∈S,a≤q∧q<b):∀ q∈S,q<b:=fun q I=>(h q I).2
theorem dL {b:Nat} (h:∀ q∈S,a≤q∧q<b):∀ q∈S,a≤q:=fun q I=>(h q I).1
section
variable {P:Program} {n:Nat} {ops:Array Oper} {Q:Exit→Act→World→Prop} {E:List (Nat×Value)} {w w' w0:World} {v:Value} {ty:TypeId} {pos:String} {aW:Array Edge} {x y:Operand} {rest:List Oper} {d i j:Nat} {ba:List Nat} {aL:Nat→Nat} {op:Op} {q b:Bool} {f:FuncId} {xs:Array Operand} {ts:Array TypeId} {args:List Value} {t:TypeId}
theorem b9 (af:p' ops E j=some (.bool b)) (hr:(b == q)=true→cG P E ⟨some d,op,ty,pos,aW,some (j,q)⟩ w v w) (h:bQ P n ops Q rest ((d,dK (b == q) v)::E) w) (hd:Nat.blt d n=true:=by rfl):bQ P n ops Q (⟨some d,op,ty,pos,aW,some (j,q)⟩::rest) E w:=by
 obtain ⟨_,_,κ,τ,aq⟩:=NF af;exact aAJ κ τ aq Z hr hd h
theorem aLt (af:p' ops E j=some (.bool b)) (hx:(b == q)=true→ev E x=some v) (h:bQ P n ops Q rest ((d,dK (b == q) v)::E) w) (hd:Nat.blt d n=true:=by rfl):bQ P n ops Q (⟨some d, .move x,ty,pos,aW,some (j,q)⟩::rest) E w:=b9 af (fun hc=>jA (hx hc)) h hd
theorem fS (af:p' ops E j=some (.bool b)) (hx:ev E x=some v) (h:bQ P n ops Q rest ((d,dK (b == q) v)::E) w) (hd:Nat.blt d n=true:=by rfl):bQ P n ops Q (⟨some d, .move x,ty,pos,aW,some (j,q)⟩::rest) E w:=b9 af (fun _=>jA hx) h hd
theorem y2 (af:p' ops E j=some (.bool b)) (h:bQ P n ops Q rest ((d,dK (b == q) undef)::E) w) (I:(b == q)=false:=by rfl) (hd:Nat.blt d n=true:=by rfl):bQ P n ops Q (⟨some d,op,ty,pos,aW,some (j,q)⟩::rest) E w:=b9 af (fun hc=>by rw [I] at hc;cases hc) h hd
theorem c0 (hf:Enters P f) (he:fw E xs.toList=some args) (h:Calls P f args.toArray w fun e w'=>e= .returned v∧Ext w w') (k:∀ w',Ext w w'→bQ P n ops Q rest ((d,v)::E) w') (hd:Nat.blt d n=true:=by rfl):bQ P n ops Q (⟨some d, .call {callee:= .value (.func f),args:=xs,argTypes:=ts},ty,pos,aW,none⟩::rest) E w :=
 ca hf he hd (h.mono fun e w' g=>⟨v,g.1,k w' g.2⟩)
theorem s0 (af:p' ops E j=some (.bool b)) (hf:Enters P f) (he:(b == q)=true→fw E xs.toList=some args) (hr:(b == q)=true→Calls P f args.toArray w fun e w'=>e= .returned v∧Ext w w') (h:∀ w',Ext w w'→bQ P n ops Q rest ((d,dK (b == q) v)::E) w') (hd:Nat.blt d n=true:=by rfl):bQ P n ops Q (⟨some d, .call {callee:= .value (.func f),args:=xs,argTypes:=ts},ty,pos,aW,some (j,q)⟩::rest) E w:=by
 obtain ⟨_,_,κ,τ,aq⟩:=NF af;exact aAI κ τ aq Z hf he hr hd h
theorem dE (ak:ops[i]? =some ⟨some d,op,ty,pos,aW,some (j,q)⟩) (af:p' ops E j=some (.bool b)) (hr:(b == q)=true→∀ w,Ext w0 w→cG P E ⟨some d,op,ty,pos,aW,some (j,q)⟩ w v w) (h:eD P n ops Q aL ba ((d,dK (b == q) v)::E) w0) (aj:aL i=0:=by rfl) (hd:Nat.blt d n=true:=by rfl):eD P n ops Q aL (i::ba) E w0:=by
 obtain ⟨_,_,κ,τ,aq⟩:=NF af;exact apI ak aj κ τ aq Z hr hd h
theorem bR (ak:ops[i]? =some ⟨some d,op,ty,pos,aW,some (j,q)⟩) (af:p' ops E j=some (.bool b)) (hr:(b == q)=true→∀ w,cG P E ⟨some d,op,ty,pos,aW,some (j,q)⟩ w v w) (h:eD P n ops Q aL ba ((d,dK (b == q) v)::E) w0) (aj:aL i=1:=by rfl) (hd:Nat.blt d n=true:=by rfl):eD P n ops Q aL (i::ba) E w0:=by
 obtain ⟨_,_,κ,τ,aq⟩:=NF af;exact apJ ak aj κ τ aq Z hr hd h
theorem aFG (ak:ops[i]? =some ⟨some d, .move x,ty,pos,aW,some (j,q)⟩) (af:p' ops E j=some (.bool b)) (hx:(b == q)=true→ev E x=some v) (h:eD P n ops Q aL ba ((d,dK (b == q) v)::E) w0) (aj:aL i=1:=by rfl) (hd:Nat.blt d n=true:=by rfl):eD P n ops Q aL (i::ba) E w0:=bR ak af (fun hc _=>jA (hx hc)) h aj hd
theorem eQ (ak:ops[i]? =some ⟨some d, .move x,ty,pos,aW,some (j,q)⟩) (af:p' ops E j=some (.bool b)) (hx:ev E x=some v) (h:eD P n ops Q aL ba ((d,dK (b == q) v)::E) w0) (aj:aL i=1:=by rfl) (hd:Nat.blt d n=true:=by rfl):eD P n ops Q aL (i::ba) E w0:=bR ak af (fun _ _=>jA hx) h aj hd
theorem cV (ak:ops[i]? =some ⟨some d,op,ty,pos,aW,some (j,q)⟩) (af:p' ops E j=some (.bool b)) (h:eD P n ops Q aL ba ((d,dK (b == q) undef)::E) w0) (I:(b == q)=false:=by rfl) (aj:aL i=1:=by rfl) (hd:Nat.blt d n=true:=by rfl):eD P n ops Q aL (i::ba) E w0:=bR ak af (fun hc=>by rw [I] at hc;cases hc) h aj hd
theorem i_ (ak:ops[i]? =some ⟨some d,op,ty,pos,aW,some (j,q)⟩) (af:p' ops E j=some (.bool b)) (h:eD P n ops Q aL ba ((d,dK (b == q) undef)::E) w0) (I:(b == q)=false:=by rfl) (aj:aL i=0:=by rfl) (hd:Nat.blt d n=true:=by rfl):eD P n ops Q aL (i::ba) E w0:=dE ak af (fun hc=>by rw [I] at hc;cases hc) h aj hd
theorem bn (ak:ops[i]? =some ⟨some d, .move x,ty,pos,aW,none⟩) (hx:ev E x=some v) (h:eD P n ops Q aL ba ((d,v)::E) w0) (aj:aL i=1:=by rfl) (hd:Nat.blt d n=true:=by rfl):eD P n ops Q aL (i::ba) E w0:=kn ak aj (fun _=>jA hx) hd h
theorem dw (hU:List (Nat×Nat)) (ba:List Nat) (h:eD P n ops Q (j_ hU) ba E w) (hm:P.follows .mixedOrders=true:=by kernel_rfl) (aS:(Region.noSelect ops && (ba.length == ops.size) && hQ ops (j_ hU) ba (Array.replicate ops.size false))=true:=by kernel_rfl):W P n (.region id ops true) Q E w:=rd hU ba hm aS h
theorem c9 {c:Nat} (hx:ev E x=some (.pointer (some ⟨c,0,none⟩))) (aH:ev E y=some v) (aS:aO w c cur e (0,0)) (hc:v.cells=cs.toArray) (hs:eO P t cs.length) (κ:cs.all (·.oneCell')=true) (ay:Nat.beq cs.length cur.length=true)
  (h:∀ aN,Mod [c] w aN→aO aN c cs e (0,0)→bQ P n ops Q rest E aN):bQ P n ops Q (⟨none, .store t x y,ty,pos,aW,none⟩::rest) E w :=
 st (new:=cs) hx aH aS hc hs κ (by rw [aN5,aOv ay];exact Nat.ble_eq_true_of_le (aNk _)) (by rw [aN5,aOv ay,List.take_zero,List.drop_length,aOA,aNA]) h
theorem bA {c:Nat} (hx:ev E x=some (.pointer (some ⟨c,o,none⟩))) (aS:aO w c cs e (0,0)) (ha:eB P t false) (hv:cs[o]? =some v) (h:bQ P n ops Q rest ((d,v)::E) w) (hd:Nat.blt d n=true:=by rfl):bQ P n ops Q (⟨some d, .load t x,ty,pos,aW,none⟩::rest) E w:=im (aB hx (aS.one ha hv)) hd h
theorem cP {c:Nat} (ak:ops[i]? =some ⟨some d, .load t x,ty,pos,aW,none⟩) (hx:ev E x=some (.pointer (some ⟨c,o,none⟩))) (aS:aO w0 c cs e (0,0)) (ha:eB P t false) (hv:cs[o]? =some v) (h:eD P n ops Q aL ba ((d,v)::E) w0) (aj:aL i=0:=by rfl) (hd:Nat.blt d n=true:=by rfl):eD P n ops Q aL (i::ba) E w0:=Sj ak aj (fun _ x=>aB hx ((aS.later x).one ha hv)) hd h
theorem fM {p c:Nat} (hx:ev E x=some (.pointer (some ⟨c,p,none⟩))) (aH:ev E y=some v) (aS:aO w c cur e (0,0)) (hc:v.cells= [v].toArray) (hs:eO P t 1) (κ:v.oneCell'=true) (ay:Nat.ble (p+1) cur.length=true)
  (h:∀ aN,Mod [c] w aN→aO aN c (cur.set p v) e (0,0)→bQ P n ops Q rest E aN):bQ P n ops Q (⟨none, .store t x y,ty,pos,aW,none⟩::rest) E w :=
 st (new:=cur.set p v) hx aH aS hc hs (by simp [κ]) ay (by rw [aPf,aNd (show p<cur.length from aOu ay)];simp) h
end
section
variable {P:Program} {n:Nat} {ops:Array Oper} {Q:Exit→Act→World→Prop} {E:List (Nat×Value)} {w:World} {v:Value} {ty:TypeId} {pos:String} {aW:Array Edge} {x y:Operand} {rest:List Oper} {d k:Nat} {t u:TypeId} {eM:IntKind} {i j:Int} {c:Code}
def aeh:List (Nat×Value)→Option (Nat×Value)
 | []=>none
 | [a]=>some a
 | _::b::l=>aeh (b::l)
def JW:List (Nat×Value)→List (Nat×Value)
 | []=> []
 | [_]=> []
 | a::b::l=>a::JW (b::l)
theorem eS:∀ {cd:List (Nat×Value)},(JW cd).map (fun p=>look E p.1)=(JW cd).map (fun p=>some p.2)→aeh cd=some (k, .int eM j)→look E k=some (.int eM i)→(_:i=j:=by first | omega | rfl | (simp<;>omega))→Sub cd E
 | [],_,_,_,_=>Sub.nil
 | [(a,b)],_,ay,τ,e=>by
  cases ay;exact Sub.cons (B6 τ e) Sub.nil
 | (a,b)::r::l,h,ay,τ,e =>
  have cp:look E a::(JW (r::l)).map (fun p=>look E p.1)=some b::(JW (r::l)).map (fun p=>some p.2):=h
  Sub.cons (aQm cp).1 (eS (aQm cp).2 ay τ e)
theorem fl (hx:ev E x=some (.int .i64 i)) (aH:ev E y=some (.int .i64 j)) (h:bQ P n ops Q rest ((d, .int .i64 (i+j))::E) w) (hr: -9223372036854775808≤i+j∧i+j≤9223372036854775807:=by omega) (hd:Nat.blt d n=true:=by rfl):bQ P n ops Q (⟨some d, .binOp .add t x y u,ty,pos,aW,none⟩::rest) E w:=im (bad hx aH (ll hr)) hd h
theorem eR {e:Nat} {z:Operand} {agW:TypeId} {pos':String} {X7:Array Edge} (hx:ev E x=some (.int .i64 i)) (aH:ev E y=some (.int .i64 j)) (hm:ev ((d, .int .i64 (i+j))::E) z=some v) (h:N n Q ((e,v)::(d, .int .i64 (i+j))::E) w) (hr: -9223372036854775808≤i+j∧i+j≤9223372036854775807:=by omega) (hd:Nat.blt d n=true:=by rfl) (he:Nat.blt e n=true:=by rfl):N n (lJ P (.region id [⟨some d, .binOp .add t x y u,ty,pos,aW,none⟩,⟨some e, .move z,agW,pos',X7,none⟩].toArray false) Q) E w:=br (rg (fl hx aH (vm hm (nl h) he) hr hd))
theorem b0 {l:List Value} (hx:ev E x=some (.tuple l.toArray)) (aj:l[k]? =some v) (h:bQ P n ops Q rest ((d,v)::E) w) (hd:Nat.blt d n=true:=by rfl):bQ P n ops Q (⟨some d, .extract x k,ty,pos,aW,none⟩::rest) E w:=im (ex hx aj) hd h
theorem fB (hx:ev E x=some (.int eM i)) (aH:ev E y=some (.int eM j)) (h:bQ P n ops Q rest ((d, .bool (decide (i<j)))::E) w) (hd:Nat.blt d n=true:=by rfl):bQ P n ops Q (⟨some d, .binOp .lss t x y u,ty,pos,aW,none⟩::rest) E w:=im (blt hx aH) hd h
theorem gN (hx:ev E x=some (.int eM i)) (aH:ev E y=some (.int eM j)) (h:bQ P n ops Q rest ((d, .bool (i != j))::E) w) (hd:Nat.blt d n=true:=by rfl):bQ P n ops Q (⟨some d, .binOp .neq t x y u,ty,pos,aW,none⟩::rest) E w:=im (bne hx aH) hd h
theorem aT (hx:ev E x=some v) (h:W P n c Q ((d,v)::E) w) (hd:Nat.blt d n=true:=by rfl):bQ P n ops (lJ P c Q) [⟨some d, .assign x,ty,pos,aW,none⟩] E w:=va hx (aJ h) hd
theorem tZ (h:T n Q E w):bQ P n ops (lJ P .ret Q) [] E w:=aJ (rt h)
theorem bH (hx:ev E x=some v) (h:T n Q ((d,v)::E) w) (hd:Nat.blt d n=true:=by rfl):bQ P n ops (lJ P .ret Q) [⟨some d, .assign x,ty,pos,aW,none⟩] E w:=va hx (tZ h) hd
theorem aK (hx:ev E x=some v) (h:bQ P n (⟨some d, .move x,ty,pos,aW,none⟩::l).toArray (lJ P c Q) l ((d,v)::E) w) (hd:Nat.blt d n=true:=by rfl):W P n (.seq (.region id (⟨some d, .move x,ty,pos,aW,none⟩::l).toArray false) c) Q E w:=aF (vm hx h hd)
theorem cZ {fn:Func} {R:Ending→World→Prop} (hf:fn.results.toList= [.tmp k]) (h:look E k=some v) (hR:R (.returned (qK [v])) w):T n (bodyPost P fn R) E w:=dS (by rw [hf];exact .tmp h .nil) hR
theorem ht {fn:Func} {R:Ending→World→Prop} {v':Value} (hf:fn.results.toList= [.tmp d, .tmp k]) (h:look E d=some v) (cp:look E k=some v') (hR:R (.returned (qK [v,v'])) w):T n (bodyPost P fn R) E w:=dS (by rw [hf];exact .tmp h (.tmp cp .nil)) hR
theorem hC {g:Option (Nat×Bool)} {d:Option Nat} {ps:Array (Nat×Operand)} {l:List (Nat×Value)} (he:rj E ps.toList=some l) (hr:(Instr.build t l.toArray).run P w= .ok v w:=by kernel_rfl):cG P E ⟨d, .build t ps,ty,pos,aW,g⟩ w v w:=gR he hr
theorem cF {α:Type} {f:α→Ending} {p:α→Prop} {v:α} (h:p v):∃ a,f v=f a∧p a:=⟨v,rfl,h⟩
theorem k0 {b:Nat} {l:List Nat}:∀ q∈ [b],q∈b::l∨m≤q:=fun q I=> .inl (by rw [aMZ.1 I];exact aNo)
theorem gl (h: -9223372036854775808≤i∧i≤9223372036854775807:=by (try dsimp only);omega):dB i:=cI.2 h
theorem eX {cC:Nat→List (Nat×Value)→World→Prop} {m':Nat} {cd:List (Nat×Value)} (h:cC m' cd w) (hm:m'<m:=by omega) (hs:Sub cd E:=by exact eS rfl rfl rfl):N n (Exit.then (H2 n cC m) Q) E w:=lT m' cd h hm hs
theorem jn (hx:ev E x=some v) (hc:v.cells=cs.toArray) (h:∀ aN b,Ext w aN→w.heap.size≤b→aO aN b cs t (0,0)→bQ P n ops Q rest ((d, .pointer (some ⟨b,0,none⟩))::E) aN) (hd:Nat.blt d n=true:=by rfl):bQ P n ops Q (⟨some d, .box t x,ty,pos,aW,none⟩::rest) E w:=alO rfl hx hc hd h
theorem fa (hx:ev E x=some v) (hc:v.cells=cs.toArray) (h:∀ aN b,Ext w aN→w.heap.size≤b→aO aN b cs t (0,0)→bQ P n (⟨some d, .box t x,ty,pos,aW,none⟩::l).toArray (lJ P c Q) l ((d, .pointer (some ⟨b,0,none⟩))::E) aN) (hd:Nat.blt d n=true:=by rfl):W P n (.seq (.region id (⟨some d, .box t x,ty,pos,aW,none⟩::l).toArray false) c) Q E w:=aF (jn hx hc h hd)
theorem dn (bo:kT P t v) (hc:v.cells=cs.toArray) (h:∀ aN b,Ext w aN→w.heap.size≤b→aO aN b cs t (0,0)→bQ P n ops Q rest ((d, .pointer (some ⟨b,0,none⟩))::E) aN) (hd:Nat.blt d n=true:=by rfl):bQ P n ops Q (⟨some d, .alloc t,ty,pos,aW,none⟩::rest) E w:=al rfl bo hc hd h
theorem fP (h: -9223372036854775808≤i∧i≤9223372036854775807:=by omega):IntKind.i64.wrap i=i:=ll h
end
theorem hE:Fd prog 98 0 0:=fun _ _ _=>by kernel_rfl
theorem a6:eB prog 3 false:=fun _=>by kernel_rfl
theorem hG:Fd prog 98 1 1:=fun _ _ _=>by kernel_rfl
theorem b2:eB prog 98 true:=fun _=>by kernel_rfl
theorem bs:eO prog 98 2:=fun _=>by kernel_rfl
theorem Nc:Enters prog 161 :=b6 func161
theorem Nj:Enters prog 162 :=b6 func162
theorem cr:eO prog 3 1:=fun _=>by kernel_rfl
theorem nM:eO prog 225 4:=fun _=>by kernel_rfl
theorem Nk:Fd prog 225 2 3:=fun _ _ _=>by kernel_rfl
theorem M1:eB prog 225 true:=fun _=>by kernel_rfl
theorem ov:eB prog 161 false:=fun _=>by kernel_rfl
theorem M5:Enters prog 187 :=b6 func187
theorem M7:Enters prog 188 :=b6 func188
theorem ZX:eO prog 161 1:=fun _=>by kernel_rfl
theorem ZZ:kT prog 225 (.agg #[.int .i64 0, .int .i64 0, .int .i64 0, .int .i64 0]):=fun _=>by kernel_rfl
theorem aoD:Enters prog 192 :=b6 func192
theorem IU:Enters prog 149 :=b6 func149
theorem aoN:Enters prog 163 :=b6 func163
theorem aoT:Enters prog 164 :=b6 func164
theorem aoV:Enters prog 191 :=b6 func191
theorem aab:Fd prog 163 0 0:=fun _ _ _=>by kernel_rfl
theorem Dm:Fd prog 48 0 0:=fun _ _ _=>by kernel_rfl
theorem hb:eB prog 48 true:=fun _=>by kernel_rfl
theorem gD:eO prog 48 3:=fun _=>by kernel_rfl
theorem pg:Enters prog 122 :=b6 func122
theorem ape:Enters prog 126 :=b6 func126
theorem apf:kT prog 158 (.agg #[.int .i64 0, .int .i64 0, .int .i64 0, .int .i64 0, .int .i64 0, .int .i64 0, .int .i64 0, .int .i64 0]):=fun _=>by kernel_rfl
theorem aae:eO prog 158 8:=fun _=>by kernel_rfl
theorem apg:eB prog 158 true:=fun _=>by kernel_rfl
theorem aaf:Fd prog 163 1 3:=fun _ _ _=>by kernel_rfl
theorem aag:Enters prog 147 :=b6 func147
theorem Dn:Fd prog 163 3 6:=fun _ _ _=>by kernel_rfl
theorem aph:Enters prog 148 :=b6 func148
theorem lM:Enters prog 93 :=b6 func93
theorem nL:Fd prog 163 2 5:=fun _ _ _=>by kernel_rfl
theorem fI:eB prog 46 false:=fun _=>by kernel_rfl
theorem api:Enters prog 150 :=b6 func150
theorem RZ:Fd prog 225 0 0:=fun _ _ _=>by kernel_rfl
theorem aah:Fd prog 225 1 2:=fun _ _ _=>by kernel_rfl
theorem aai:Enters prog 92 :=b6 func92
theorem sC:kT prog 98 (.agg #[.int .i64 0, .int .i64 0]):=fun _=>by kernel_rfl
theorem R0:Enters prog 91 :=b6 func91
theorem R1:Enters prog 124 :=b6 func124
theorem apj:Enters prog 146 :=b6 func146
theorem tK:Fd prog 48 2 2:=fun _ _ _=>by kernel_rfl
theorem aaj:Enters prog 123 :=b6 func123
theorem aak:Enters prog 125 :=b6 func125
theorem aal:Enters prog 90 :=b6 func90
theorem apk:Enters prog 94 :=b6 func94
theorem apl:Enters prog 151 :=b6 func151
theorem Nd:Enters prog 127 :=b6 func127
theorem Nf:Fd prog 108 2 2:=fun _ _ _=>by kernel_rfl
theorem Ng:Enters prog 68 :=b6 func68
theorem Nh:kT prog 103 (.agg #[.int .i64 0, .int .i64 0, .int .i64 0, .int .i64 0]):=fun _=>by kernel_rfl
theorem Ni:eO prog 103 4:=fun _=>by kernel_rfl
theorem ri:Fd prog 108 3 3:=fun _ _ _=>by kernel_rfl
theorem BE:Fd prog 108 1 1:=fun _ _ _=>by kernel_rfl
theorem apm:Fd prog 103 1 1:=fun _ _ _=>by kernel_rfl
theorem p7:Fd prog 52 0 0:=fun _ _ _=>by kernel_rfl
theorem apn:Enters prog 155 :=b6 func155
theorem fg:eB prog 52 true:=fun _=>by kernel_rfl
theorem cQ:eO prog 52 9:=fun _=>by kernel_rfl
theorem FP:Enters prog 82 :=b6 func82
theorem kk:Fd prog 52 4 6:=fun _ _ _=>by kernel_rfl
theorem mh:eB prog 50 false:=fun _=>by kernel_rfl
theorem kl:eO prog 108 7:=fun _=>by kernel_rfl
theorem zZ:eB prog 108 true:=fun _=>by kernel_rfl
theorem FQ:kT prog 108 (.agg #[.int .i64 0, .int .i64 0, .int .i64 0, .int .i64 0, .int .i64 0, .int .i64 0, .int .i64 0]):=fun _=>by kernel_rfl
theorem FR:Fd prog 108 0 0:=fun _ _ _=>by kernel_rfl
theorem R2:eO prog 210 2:=fun _=>by kernel_rfl
theorem apo:eB prog 210 true:=fun _=>by kernel_rfl
theorem apq:kT prog 210 (.agg #[.int .i64 0, .int .i64 0]):=fun _=>by kernel_rfl
theorem apr:Fd prog 210 0 0:=fun _ _ _=>by kernel_rfl
theorem R3:kT prog 3 (.int .i64 0):=fun _=>by kernel_rfl
theorem aps:Fd prog 210 1 1:=fun _ _ _=>by kernel_rfl
theorem Dp:eO prog 4 1:=fun _=>by kernel_rfl
theorem R4:eB prog 4 false:=fun _=>by kernel_rfl
theorem apt:Enters prog 140 :=b6 func140
theorem apu:Fd prog 103 2 2:=fun _ _ _=>by kernel_rfl
theorem p8:kT prog 52 (.agg #[.int .i64 0, .int .i64 0, .slice none 0 0, .slice none 0 0, .slice none 0 0, .slice none 0 0, .slice none 0 0, .int .i64 0, .int .i64 0]):=fun _=>by kernel_rfl
theorem Dq:Enters prog 65 :=b6 func65
theorem yn:eO prog 46 1:=fun _=>by kernel_rfl
theorem sD:Fd prog 52 1 3:=fun _ _ _=>by kernel_rfl
theorem yo:eB prog 49 false:=fun _=>by kernel_rfl
theorem tL:Fd prog 52 2 4:=fun _ _ _=>by kernel_rfl
theorem R5:Enters prog 64 :=b6 func64
theorem R6:eO prog 49 1:=fun _=>by kernel_rfl
theorem FT:Fd prog 52 3 5:=fun _ _ _=>by kernel_rfl
theorem R7:Enters prog 69 :=b6 func69
theorem IW:eO prog 50 1:=fun _=>by kernel_rfl
theorem apv:Enters prog 116 :=b6 func116
theorem apw:Enters prog 117 :=b6 func117
theorem Nl:Fd prog 108 4 5:=fun _ _ _=>by kernel_rfl
theorem R8:eO prog 212 3:=fun _=>by kernel_rfl
theorem apx:eB prog 212 true:=fun _=>by kernel_rfl
theorem apy:Fd prog 212 0 0:=fun _ _ _=>by kernel_rfl
theorem FU:eB prog 214 false:=fun _=>by kernel_rfl
theorem apz:Enters prog 142 :=b6 func142
theorem apA:kT prog 214 (.pointer none):=fun _=>by kernel_rfl
theorem aog:eO prog 214 1:=fun _=>by kernel_rfl
theorem aoh:Enters prog 141 :=b6 func141
theorem aoi:Fd prog 212 1 1:=fun _ _ _=>by kernel_rfl
theorem ZS:Enters prog 72 :=b6 func72
theorem yk:Enters prog 44 :=b6 func44
theorem FJ:eB prog 57 false:=fun _=>by kernel_rfl
theorem FK:Enters prog 41 :=b6 func41
theorem zX:eO prog 9 1:=fun _=>by kernel_rfl
theorem Dh:eB prog 9 false:=fun _=>by kernel_rfl
theorem aoj:eO prog 57 1:=fun _=>by kernel_rfl
theorem IN:Enters prog 40 :=b6 func40
theorem ZT:Enters prog 83 :=b6 func83
theorem aok:Enters prog 84 :=b6 func84
theorem aol:Enters prog 67 :=b6 func67
theorem aom:Enters prog 118 :=b6 func118
theorem aon:Enters prog 119 :=b6 func119
theorem yl:Fd prog 191 1 1:=fun _ _ _=>by kernel_rfl
theorem M3:Enters prog 156 :=b6 func156
theorem M4:Enters prog 157 :=b6 func157
theorem BC:Fd prog 108 5 6:=fun _ _ _=>by kernel_rfl
theorem M6:Fd prog 191 2 2:=fun _ _ _=>by kernel_rfl
theorem mg:Fd prog 189 0 0:=fun _ _ _=>by kernel_rfl
theorem aoo:Enters prog 167 :=b6 func167
theorem ZU:Fd prog 191 3 4:=fun _ _ _=>by kernel_rfl
theorem ZV:Fd prog 103 3 3:=fun _ _ _=>by kernel_rfl
theorem BD:Fd prog 52 5 7:=fun _ _ _=>by kernel_rfl
theorem aop:Enters prog 158 :=b6 func158
theorem ZW:Fd prog 103 0 0:=fun _ _ _=>by kernel_rfl
theorem aoq:Fd prog 191 0 0:=fun _ _ _=>by kernel_rfl
theorem IP:eB prog 191 true:=fun _=>by kernel_rfl
theorem Di:eO prog 191 5:=fun _=>by kernel_rfl
theorem aor:Enters prog 143 :=b6 func143
theorem aos:Enters prog 144 :=b6 func144
theorem aot:Enters prog 145 :=b6 func145
theorem aou:Enters prog 120 :=b6 func120
theorem aov:kT prog 189 (.agg #[.int .i64 0, .int .i64 0, .slice none 0 0, .slice none 0 0, .slice none 0 0, .slice none 0 0, .slice none 0 0, .int .i64 0, .int .i64 0]):=fun _=>by kernel_rfl
theorem aow:eO prog 189 9:=fun _=>by kernel_rfl
theorem aox:kT prog 191 (.agg #[.int .i64 0, .int .i64 0, .int .i64 0, .int .i64 0, .int .i64 0]):=fun _=>by kernel_rfl
theorem aoy:Enters prog 121 :=b6 func121
theorem M8:kT prog 110 (.agg #[.int .i64 0, .int .i64 0, .int .i64 0, .int .i64 0, .int .i64 0, .int .i64 0]):=fun _=>by kernel_rfl
theorem ow:Fd prog 110 1 1:=fun _ _ _=>by kernel_rfl
theorem Dj:Fd prog 110 2 2:=fun _ _ _=>by kernel_rfl
theorem FL:Fd prog 110 3 3:=fun _ _ _=>by kernel_rfl
theorem Dk:Fd prog 110 4 5:=fun _ _ _=>by kernel_rfl
theorem j4:eB prog 110 true:=fun _=>by kernel_rfl
theorem fV:eO prog 110 6:=fun _=>by kernel_rfl
theorem FM:Fd prog 110 0 0:=fun _ _ _=>by kernel_rfl
theorem FN:Enters prog 112 :=b6 func112
theorem aoz:Enters prog 113 :=b6 func113
theorem ZY:Enters prog 85 :=b6 func85
theorem RN:Fd prog 182 0 0:=fun _ _ _=>by kernel_rfl
theorem Z0:eB prog 143 false:=fun _=>by kernel_rfl
theorem aoA:eO prog 143 1:=fun _=>by kernel_rfl
theorem RO:Fd prog 182 1 1:=fun _ _ _=>by kernel_rfl
theorem Z1:eB prog 144 false:=fun _=>by kernel_rfl
theorem aoB:eO prog 144 1:=fun _=>by kernel_rfl
theorem Dl:Fd prog 182 2 2:=fun _ _ _=>by kernel_rfl
theorem M9:eB prog 145 false:=fun _=>by kernel_rfl
theorem RP:eO prog 145 1:=fun _=>by kernel_rfl
theorem aoC:Enters prog 114 :=b6 func114
theorem aoE:kT prog 182 (.agg #[.slice none 0 0, .slice none 0 0, .slice none 0 0]):=fun _=>by kernel_rfl
theorem Z2:Enters prog 115 :=b6 func115
theorem zY:kT prog 114 (.agg #[.slice none 0 0, .slice none 0 0, .slice none 0 0]):=fun _=>by kernel_rfl
theorem RQ:Enters prog 86 :=b6 func86
theorem sB:eO prog 114 3:=fun _=>by kernel_rfl
theorem M_:eB prog 114 true:=fun _=>by kernel_rfl
theorem IQ:Fd prog 52 6 8:=fun _ _ _=>by kernel_rfl
theorem aoF:Enters prog 87 :=b6 func87
theorem Z3:Fd prog 114 0 0:=fun _ _ _=>by kernel_rfl
theorem aoG:Enters prog 88 :=b6 func88
theorem Z4:Fd prog 114 1 1:=fun _ _ _=>by kernel_rfl
theorem aoH:Enters prog 89 :=b6 func89
theorem Z5:Fd prog 114 2 2:=fun _ _ _=>by kernel_rfl
theorem Z6:eO prog 112 1:=fun _=>by kernel_rfl
theorem aoI:Fd prog 48 1 1:=fun _ _ _=>by kernel_rfl
theorem aoJ:Enters prog 80 :=b6 func80
theorem aoK:kT prog 30 (.slice none 0 0):=fun _=>by kernel_rfl
theorem aoL:Enters prog 81 :=b6 func81
theorem aoM:Enters prog 105 :=b6 func105
theorem RR:eB prog 30 false:=fun _=>by kernel_rfl
theorem Z7:eO prog 30 1:=fun _=>by kernel_rfl
theorem RS:kT prog 48 (.agg #[.int .i64 0, .int .i64 0, .slice none 0 0]):=fun _=>by kernel_rfl
theorem Z8:Enters prog 61 :=b6 func61
theorem aoO:Enters prog 28 :=b6 func28
theorem aoP:Enters prog 62 :=b6 func62
theorem aoQ:Enters prog 96 :=b6 func96
theorem RT:eB prog 112 false:=fun _=>by kernel_rfl
theorem aoR:kT prog 112 (.slice none 0 0):=fun _=>by kernel_rfl
theorem Z9:Enters prog 95 :=b6 func95
theorem aoS:Enters prog 73 :=b6 func73
theorem aoU:Enters prog 31 :=b6 func31
theorem rf:Fd prog 55 0 0:=fun _ _ _=>by kernel_rfl
theorem FO:Fd prog 55 1 9:=fun _ _ _=>by kernel_rfl
theorem RU:eB prog 53 false:=fun _=>by kernel_rfl
theorem RV:eO prog 53 1:=fun _=>by kernel_rfl
theorem Z_:Enters prog 66 :=b6 func66
theorem ym:Enters prog 51 :=b6 func51
theorem Z':Enters prog 11 :=b6 func11
theorem IV:Enters prog 71 :=b6 func71
theorem rh:Enters prog 46 :=b6 func46
theorem aoW:Enters prog 70 :=b6 func70
theorem aoX:Enters prog 43 :=b6 func43
theorem aoY:Enters prog 42 :=b6 func42
theorem aaa:Enters prog 19 :=b6 func19
theorem aoZ:Enters prog 45 :=b6 func45
theorem ao0:Enters prog 47 :=b6 func47
theorem ao1:Enters prog 48 :=b6 func48
theorem ao2:Enters prog 49 :=b6 func49
theorem ao3:Enters prog 50 :=b6 func50
theorem ao4:Enters prog 52 :=b6 func52
theorem ao5:Enters prog 53 :=b6 func53
theorem RX:Enters prog 8 :=b6 func8
theorem ao6:kT prog 55 (.agg #[.int .i64 0, .int .i64 0, .slice none 0 0, .slice none 0 0, .slice none 0 0, .slice none 0 0, .slice none 0 0, .int .i64 0, .int .i64 0, .slice none 0 0]):=fun _=>by kernel_rfl
theorem ao7:kT prog 32 (.agg #[.pointer none, .slice none 0 0]):=fun _=>by kernel_rfl
theorem ao8:Enters prog 20 :=b6 func20
theorem ao9:Enters prog 10 :=b6 func10
theorem apa:Enters prog 12 :=b6 func12
theorem apb:Enters prog 16 :=b6 func16
theorem apc:Enters prog 17 :=b6 func17
theorem Na:Enters prog 9 :=b6 func9
theorem aac:Enters prog 6 :=b6 func6
theorem Nb:Enters prog 7 :=b6 func7
theorem apd:Enters prog 15 :=b6 func15
theorem RY:Enters prog 14 :=b6 func14
theorem aad:Enters prog 13 :=b6 func13
end
end Go.Proofs.YthlpmldmhakhaaaGreatDoor
