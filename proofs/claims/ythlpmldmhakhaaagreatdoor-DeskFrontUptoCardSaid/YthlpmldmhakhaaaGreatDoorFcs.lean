import Derived.Test.YthlpmldmhakhaaaGreatDoorBas
import Derived.Test.YthlpmldmhakhaaaGreatDoorProg
import Derived.WideMake
set_option linter.unusedVariables false
set_option linter.unusedSimpArgs false
set_option maxRecDepth 100000
set_option maxHeartbeats 4000000
open Go.RowKit
namespace Go.Proofs.YthlpmldmhakhaaaGreatDoor
open Tryz
open Tryz
abbrev aMu:=@List.mem_singleton
abbrev aMv:=@List.getD_eq_getElem?_getD
abbrev aMz:=@List.length_nil
abbrev aMV:=@decide_eq_true
abbrev aMY:=@decide_eq_false
abbrev aM5:=@List.mem_cons_self
abbrev aNE:=@Int.toNat_natCast
abbrev aNU:=@Nat.succ_mul
abbrev aNZ:=@Nat.le_of_ble_eq_true
abbrev aN0:=@Nat.eq_of_beq_eq_true
abbrev aN2:=@Array.size_replicate
abbrev aN3:=@List.getElem?_replicate
abbrev aN9:=@Nat.lt_of_lt_of_le
abbrev aOG:=@of_decide_eq_false
abbrev aOJ:=@List.set_eq_take_append_cons_drop
abbrev aOP:=@Go.run_sliceAt_slice
abbrev aOS:=@List.contains_iff_mem
abbrev aOU:=@List.cons_append
abbrev aOW:=@Nat.add_assoc
abbrev aOY:=@And.left
abbrev aO0:=@Nat.min_eq_left
abbrev aO1:=@List.replicate_succ
abbrev aO9:=@Array.getElem?_append_left
abbrev aPf:=@Nat.mul_one
abbrev aPi:=@Nat.lt_succ_iff_lt_or_eq
abbrev aPm:=@Nat.ne_of_beq_eq_false
abbrev aPn:=@Nat.add_comm
abbrev aPu:=@List.getElem?_toArray
abbrev aPF:=@List.forall_mem_cons
abbrev aPQ:=@List.cons.inj
abbrev aPW:=@Go.MapKept.run_findKey
abbrev aQk:=@Array.getD_eq_getD_getElem?
abbrev aQx:=@Prod.mk.injEq
abbrev aQA:=@List.getElem?_take_of_lt
abbrev aQD:=@Go.size_madeCells
abbrev aQI:=@List.drop_of_length_le
abbrev aQN:=@List.mem_of_mem_erase
abbrev aQR:=@List.mem_of_mem_drop
abbrev aQW:=@List.drop_succ_cons
abbrev aQ3:=@not_true_eq_false
abbrev aQ6:=@Go.MapKept.run_checkKey

def dz (n:Int):Prop:=(Lit.int .i64 n).wf=true
theorem cH {n:Int}:dz n↔ -9223372036854775808≤n∧n≤9223372036854775807:=by
 unfold dz;simp [Lit.wf,IntKind.min,IntKind.max,IntKind.signed,IntKind.bits]
def bz:Φ Int:=Φ.flat 1 (fun n=> [.int .i64 n]) dz (fun _ u=>∃ n:Int,u= .int .i64 n) (fun _=>rfl) (by intro a u hu;simp at hu;subst hu;rfl) (by
 intro a j u hu;cases j with
 | zero=>simp at hu;exact ⟨a,hu.symm⟩
 | succ j=>simp at hu)
def nQ:Φ Bool:=Φ.flat 1 (fun n=> [.bool n]) (fun _=>True) (fun _ u=>∃ n:Bool,u= .bool n) (fun _=>rfl) (by intro a u hu;simp at hu;subst hu;rfl) (by
 intro a j u hu;cases j with
 | zero=>simp at hu;exact ⟨a,hu.symm⟩
 | succ j=>simp at hu)
def eU:Φ ByteArray:=Φ.M_ 1 (fun n=> [.string n]) (fun s=>s.size≤140737488351232) (fun _ u=>∃ n:ByteArray,u= .string n∧n.size≤140737488351232) (fun _=>rfl) (by intro a u hu;simp at hu;subst hu;rfl) (by
 intro a ok j u hu;cases j with
 | zero=>simp at hu;exact ⟨a,hu.symm,ok⟩
 | succ j=>simp at hu)
theorem ax7:bz.Plain:=Φ.q9
theorem ax9:eU.Plain:=Φ.Z3
theorem px:eU.uW:=Φ.apm
section
variable {by_:Nat} {w:World} {A:Option Addr} {c:Nat}
theorem D_ {l:List Int} (h:bz.aQ by_ w A c l) (aB:0<l.length):∃ b o,A=some ⟨b,o,none⟩∧∀ (i:Nat) (a:Int),l[i]? =some a→w.cell? ⟨b,o+i,none⟩=some (.int .i64 a):=by
 obtain ⟨b,o,e,hc⟩:=h.at_ aB;refine ⟨b,o,e,fun i a ha=> ?_⟩;obtain ⟨es,⟨rfl,_⟩,aw⟩:=hc i a ha;have:=aw 0 _ rfl;simpa [bz,Φ.flat] using this
theorem ax8 {l:List ByteArray} (h:eU.aQ by_ w A c l) (aB:0<l.length):∃ b o,A=some ⟨b,o,none⟩∧∀ (i:Nat) (a:ByteArray),l[i]? =some a→w.cell? ⟨b,o+i,none⟩=some (.string a):=by
 obtain ⟨b,o,e,hc⟩:=h.at_ aB;refine ⟨b,o,e,fun i a ha=> ?_⟩;obtain ⟨es,⟨rfl,_⟩,aw⟩:=hc i a ha;have:=aw 0 _ rfl;simpa [eU,Φ.M_] using this
end
theorem ax6 {by_:Nat} {w:World} {A:Option Addr} {c:Nat} {l:List Int} (h:bz.aQ by_ w A c l):∀ a∈l,dz a:=Φ.aQ.H6 (R:=bz) (Q:=dz) (fun {w cs a} (h:bz.has w cs a)=>(show cs= [.int .i64 a]∧dz a from h).2) h
theorem wj:(prog.info? 3).map (fun i=>(i.zero,i.size,i.bytes))=some (some (.int .i64 0),1,8):=by kernel_rfl
theorem jm {α:Type} {l:List α} {i:Nat} (h:i<l.length):∃ a,l[i]? =some a:=⟨_,aMy h⟩
open Tryz
theorem aBp:∀ (j:Nat) u,(Value.int .i64 0).cells[j]? =some u→bz.raw j u:=by
 intro j u hu;have hu:(#[Value.int .i64 0]:Array Value)[j]? =some u:=hu
 match j,hu with
 | 0,hu=>exact ⟨0,(aMJ hu).symm⟩
 | j+1,hu=>cases hu
open Tryz

abbrev Env:=List (Nat×Value)
def look:List (Nat×Value)→Nat→Option Value
 | [],_=>none
 | (k,v)::r,t=>match Nat.beq k t with | true=>some v | false=>look r t
structure c8 (n:Nat) (E:List (Nat×Value)) (a:Act):Prop where
 d:a.defers= []
 s:a.tmps.size=n
 g:∀ t v,look E t=some v→a.tmps[t]? =some v
def ev (E:List (Nat×Value)):Operand→Option Value
 | .tmp t=>look E t
 | .const v=>some v
 | .global g=>some (.pointer (some ⟨g,0,none⟩))
 | .func f=>some (.func (.func f) #[] #[])
def fr (E:List (Nat×Value)):List Operand→Option (List Value)
 | []=>some []
 | x::r=>match ev E x with
  | some v=>match fr E r with
   | some l=>some (v::l)
   | none=>none
  | none=>none
section
variable {P:Program} {n:Nat} {E cd:List (Nat×Value)} {a:Act} {w w' aM:World} {Q:Exit→Act→World→Prop} {ops:Array Oper} {v:Value}
theorem c8.ev {x:Operand} (h:c8 n E a) (hx:ev E x=some v):a.eval x=v:=by
 cases x with
 | tmp t=>have:=h.g t v hx;simp [Act.eval,this]
 | const u=>exact aMJ hx
 | global g=>exact aMJ hx
 | func f=>exact aMJ hx
theorem c8.fr (h:c8 n E a):∀ {l:List Operand} {vs:List Value},fr E l=some vs→l.map a.eval=vs
 | [],_,e=>by simp only [Proofs.YthlpmldmhakhaaaGreatDoor.fr] at e;exact aMJ e
 | x::r,vs,e=>by
  simp only [Proofs.YthlpmldmhakhaaaGreatDoor.fr] at e;cases hx:Proofs.YthlpmldmhakhaaaGreatDoor.ev E x with
  | none=>rw [hx] at e;cases e
  | some v =>
   rw [hx] at e;simp only at e;cases hr:Proofs.YthlpmldmhakhaaaGreatDoor.fr E r with
   | none=>rw [hr] at e;cases e
   | some l =>
    rw [hr] at e;simp only at e;obtain rfl:=aMJ e;rw [aNc,h.ev hx,c8.fr h hr]
theorem c8.put {d:Nat} (h:c8 n E a) (hd:Nat.blt d n=true) (v:Value):c8 n ((d,v)::E) (a.put (some d) v):=by
 rw [aO6] at hd;refine ⟨h.d,by simp [Act.put,h.s],fun t u hu=> ?_⟩;simp only [look] at hu;cases af:Nat.beq d t with
 | true =>
  rw [af] at hu;obtain rfl:d=t:=aN0 af;obtain rfl:=aMJ hu;simp [Act.put,h.s,hd]
 | false =>
  rw [af] at hu;have dD:d≠t:=aPm af;simp only [Act.put];rw [aNY dD];exact h.g t u hu
theorem c8.none (h:c8 n E a) (v:Value):c8 n E (a.put none v):=h
def Sub (cd E:List (Nat×Value)):Prop:=∀ t v,look cd t=some v→look E t=some v
theorem Sub.nil:Sub [] E:=fun t v h=>by simp [look] at h
theorem Sub.cons {k:Nat} (h:look E k=some v) (hs:Sub cd E):Sub ((k,v)::cd) E:=fun t u hu=>by
 simp only [look] at hu;cases af:Nat.beq k t with
 | true=>rw [af] at hu;obtain rfl:k=t:=aN0 af;obtain rfl:=aMJ hu;exact h
 | false=>rw [af] at hu;exact hs t u hu
theorem c8.sub (h:c8 n E a) (hs:Sub cd E):c8 n cd a:=⟨h.d,h.s,fun t v hv=>h.g t v (hs t v hv)⟩
def W (P:Program) (n:Nat) (c:Code) (Q:Exit→Act→World→Prop) (E:List (Nat×Value)) (w:World):Prop:=∀ a,c8 n E a→c.wp P Q a w
def N (n:Nat) (Q:Exit→Act→World→Prop) (E:List (Nat×Value)) (w:World):Prop:=∀ a,c8 n E a→Q .normal a w
def X (n:Nat) (Q:Exit→Act→World→Prop) (id:Nat) (E:List (Nat×Value)) (w:World):Prop:=∀ a,c8 n E a→Q (.exit id) a w
def T (n:Nat) (Q:Exit→Act→World→Prop) (E:List (Nat×Value)) (w:World):Prop:=∀ a,c8 n E a→Q .ret a w
def bO (P:Program) (n:Nat) (ops:Array Oper) (Q:Exit→Act→World→Prop) (l:List Oper) (E:List (Nat×Value)) (w:World):Prop:=∀ a,c8 n E a→wpList P ops Q l a w
abbrev lB (P:Program) (y:Code) (Q:Exit→Act→World→Prop):Exit→Act→World→Prop:=Exit.then (fun a w=>y.wp P Q a w) Q
theorem aI {x y:Code} (h:W P n x (lB P y Q) E w):W P n (.seq x y) Q E w:=fun a ha=>wp_seq (h a ha)
theorem gb (h:N n Q E w):W P n .skip Q E w:=fun a ha=>wp_skip (h a ha)
theorem rt (h:T n Q E w):W P n .ret Q E w:=fun a ha=>wp_ret (h a ha)
theorem er {id:Nat} (h:X n Q id E w):W P n (.exit id) Q E w:=fun a ha=>wp_exit (h a ha)
theorem bV {id:Nat} {c:Code} (h:W P n c (Exit.inBlock id Q) E w):W P n (.block id c) Q E w:=fun a ha=>wp_block (h a ha)
theorem rg {id:Nat} {l:List Oper} (h:bO P n l.toArray Q l E w):W P n (.region id l.toArray false) Q E w:=fun a ha=>wp_region_lit (h a ha)
theorem gX {c:Operand} {x y:Code} (hc:ev E c=some (.bool true)) (h:W P n x Q E w):W P n (.cond c x y) Q E w:=fun a ha=>wp_cond_true (ha.ev hc) (h a ha)
theorem hL {c:Operand} {x y:Code} (hc:ev E c=some (.bool false)) (h:W P n y Q E w):W P n (.cond c x y) Q E w:=fun a ha=>wp_cond_false (ha.ev hc) (h a ha)
theorem Ig {c:Operand} {x y:Code} (b:Bool) (hc:ev E c=some (.bool b)) (κ:b=true→W P n x Q E w) (τ:b=false→W P n y Q E w):W P n (.cond c x y) Q E w :=
 fun a ha=>wp_cond_split (ha.ev hc) (fun h=>κ h a ha) (fun h=>τ h a ha)
theorem c_ {c:Operand} {x y:Code} {b:Bool} (hc:ev E c=some (.bool b)) (κ:b=true→W P n x Q E w) (τ:b=false→W P n y Q E w):W P n (.cond c x y) Q E w:=Ig b hc κ τ
theorem nl (h:N n Q E w):bO P n ops Q [] E w:=h
theorem br {y:Code} (h:W P n y Q E w):N n (lB P y Q) E w:=h
theorem cm {id:Nat} (h:N n Q E w):N n (Exit.inBlock id Q) E w:=h
theorem ep {y:Code} {id:Nat} (h:X n Q id E w):X n (lB P y Q) id E w:=h
theorem eY {K:Act→World→Prop} {id:Nat} (h:X n Q id E w):X n (Exit.then K Q) id E w:=h
theorem eo {id:Nat} (h:N n Q E w):X n (Exit.inBlock id Q) id E w:=fun a ha=>by simp only [Exit.inBlock,aN5];exact h a ha
theorem KX {id N3:Nat} (dD:Nat.beq N3 id=false) (h:X n Q N3 E w):X n (Exit.inBlock id Q) N3 E w:=fun a ha=>by simp only [Exit.inBlock,aMA (aPm dD)];exact h a ha
theorem cW {y:Code} (h:T n Q E w):T n (lB P y Q) E w:=h
theorem Ee {K:Act→World→Prop} (h:T n Q E w):T n (Exit.then K Q) E w:=h
theorem hk {id:Nat} (h:T n Q E w):T n (Exit.inBlock id Q) E w:=h
def zq:Nat→List Value→List (Nat×Value)
 | _, []=> []
 | i,v::r=>(i,v)::zq (i+1) r
theorem L':∀ (l:List Value) (i t:Nat) (v:Value),look (zq i l) t=some v→∃ j,t=i+j∧l[j]? =some v
 | [],_,_,_,h=>by simp [zq,look] at h
 | u::r,i,t,v,h=>by
  simp only [zq,look] at h;cases af:Nat.beq i t with
  | true=>rw [af] at h;exact ⟨0,by have:=aN0 af;omega,by simpa using h⟩
  | false =>
   rw [af] at h;obtain ⟨j,e,aw⟩:=L' r (i+1) t v h;exact ⟨j+1,by omega,by simpa using aw⟩
theorem cx {f:FuncId} {fn:Func} {c:Code} {l:List Value} {R:Ending→World→Prop} (hf:P.funcs[f]? =some fn) (af:fn.body=some c) (hn:fn.ntmps=n) (ay:Nat.ble l.length n=true)
  (h:W P n c (bodyPost P fn R) (zq 0 l) w):Calls P f l.toArray w R:=by
 refine calls_of_wp hf af (h _ ⟨Z, ?_,fun t v hv=> ?_⟩)
 ·have:=aNZ ay;simp only [aPh,aN2,hn,aNV];omega
 ·obtain ⟨j,e,aw⟩:=L' l 0 t v hv;have bB:=(aMx.1 aw).1;rw [aO9 (by simp;omega)];simpa [show t=j by omega] using aw
inductive vq (P:Program) (E:List (Nat×Value)) (w:World):List ResultVar→List Value→Prop
 | nil:vq P E w [] []
 | tmp {t:Nat} {v:Value} {r:List ResultVar} {vs:List Value} (h:look E t=some v) (hr:vq P E w r vs):vq P E w (.tmp t::r) (v::vs)
 | cell {t:Nat} {ty:TypeId} {p:Addr} {v:Value} {r:List ResultVar} {vs:List Value} (h:look E t=some (.pointer (some p))) (ay:(loadVar ty p).run P w= .ok v w) (hr:vq P E w r vs):vq P E w (.cell t ty::r) (v::vs)
def qB:List Value→Value
 | [v]=>v
 | vs=> .tuple vs.toArray
theorem vq.run {l:List ResultVar} {vs:List Value} (h:vq P E w l vs) (ha:c8 n E a) (f:ResultVar→Sem Value) (f1:∀ t,f (.tmp t)=pure (a.tmps.getD t undef)) (f2:∀ c t,f (.cell c t)=(asAddr (a.tmps.getD c undef)>>= fun p=>loadVar t p)):
  (l.mapM f).run P w= .ok vs w:=by
 induction h with
 | nil=>rfl
 | @tmp t v r vs h hr bu =>
  have τ:a.tmps.getD t undef=v:=by rw [aQk,ha.g _ _ h];rfl
  simp only [List.mapM_cons,aML,f1,τ,aMP,aMG,bu]
 | @cell t ty p v r vs h ay hr bu =>
  have τ:a.tmps.getD t undef= .pointer (some p):=by rw [aQk,ha.g _ _ h];rfl
  simp only [List.mapM_cons,aML,f2,τ,asAddr,aMP,aMG,ay,bu]
theorem UK {fn:Func} {vs:List Value} (h:vq P E w fn.results.toList vs) (ha:c8 n E a):(results fn a.tmps).run P w= .ok (qB vs) w:=by
 unfold results;rw [Array.mapM_eq_mapM_toList];simp only [aML,Sem.run_map];rw [h.run ha _ (fun _=>rfl) (fun _ _=>rfl)]
 match vs with
 | []=>rfl
 | [v]=>rfl
 | _::_::_=>simp [qB]
theorem dR {fn:Func} {R:Ending→World→Prop} {vs:List Value} (h:vq P E w fn.results.toList vs) (hR:R (.returned (qB vs)) w):T n (bodyPost P fn R) E w :=
 fun a ha=>⟨ha.d,_,UK h ha,hR⟩
def HL (n:Nat) (cC:Nat→List (Nat×Value)→World→Prop) (m:Nat):Act→World→Prop:=fun a w=>∃ m',m'<m∧∃ cd,cC m' cd w∧c8 n cd a
theorem gh {c:Code} (cC:Nat→List (Nat×Value)→World→Prop) (m:Nat) (cd:List (Nat×Value)) (aB:cC m cd w) (hs:Sub cd E)
  (round:∀ m E w,cC m E w→W P n c (Exit.then (HL n cC m) Q) E w):W P n (.loop c) Q E w:=fun a ha=>by
 intro b k cs;have key:∀ m a w,(∃ E,cC m E w∧c8 n E a)→∃ e a' w',Q e a' w'∧Arrives P (lone (b.at a (.code c:: .inLoop c::k)) cs w) b k cs e a' w':=by
  intro m;induction m using Nat.strongRecOn with
  | _ m bu =>
   intro a w ⟨E,kR,ha⟩;obtain ⟨e,cV,aM,I,ov⟩:=round m E w kR a ha b (.inLoop c::k) cs;cases e with
   | normal =>
    obtain ⟨m',bB,Sn⟩:=I;obtain ⟨a6,a2,b',Gg,SZ⟩:=bu m' bB cV aM Sn;exact ⟨a6,a2,b',Gg, .of_steps (Steps.trans ov (.one step_inLoop)) SZ⟩
   | exit id=>exact ⟨_,cV,aM,I, .pass (x:= .inLoop c) rfl (fun _ _=> .inl (by simp)) ov⟩
   | goto l=>exact ⟨_,cV,aM,I, .pass (x:= .inLoop c) rfl (fun _ _=> .inl (by simp)) ov⟩
   | ret=>exact ⟨_,cV,aM,I, .pass (x:= .inLoop c) rfl (fun _ _=> .inl (by simp)) ov⟩
   | panic ch=>exact ⟨_,cV,aM,I, .pass (x:= .inLoop c) rfl (fun _ _=> .inl (by simp)) ov⟩
   | outgrown=>exact ⟨_,cV,aM,I, .pass (x:= .inLoop c) rfl (fun _ _=> .inl (by simp)) ov⟩
 obtain ⟨e,a',w',I,ov⟩:=key m a w ⟨cd,aB,ha.sub hs⟩;exact ⟨e,a',w',I, .of_steps (.one step_loop) ov⟩
theorem lM {cC:Nat→List (Nat×Value)→World→Prop} {m:Nat} (m':Nat) (cd:List (Nat×Value)) (h:cC m' cd w) (hm:m'<m) (hs:Sub cd E):N n (Exit.then (HL n cC m) Q) E w :=
 fun a ha=>⟨m',hm,cd,h,ha.sub hs⟩
variable {d:Option Nat} {ty:TypeId} {pos:String} {aW:Array Edge} {g:Option (Nat×Bool)} {x y z:Operand} {t:TypeId} {rest:List Oper}
def cF (P:Program) (E:List (Nat×Value)) (o:Oper) (w:World) (v:Value) (w':World):Prop:=∀ n a,c8 n E a→(execOp a.eval o).run P w= .ok (.value v) w'
def akp (P:Program) (E:List (Nat×Value)) (o:Oper) (w w':World):Prop:=∀ n a,c8 n E a→(execOp a.eval o).run P w= .ok .skip w'
theorem xL {o:Oper} (aT:o.guard=none) {a:Act} (h:o.wp P a w (wpList P ops Q rest) Q):wpList P ops Q (o::rest) a w:=by
 unfold wpList;rw [aMI (by simp [Region.wanted,aT])];exact .inl h
theorem ig {d:Nat} {op:Op} (hr:cF P E ⟨some d,op,ty,pos,aW,none⟩ w v w') (hd:Nat.blt d n=true) (h:bO P n ops Q rest ((d,v)::E) w'):bO P n ops Q (⟨some d,op,ty,pos,aW,none⟩::rest) E w:=fun a ha=>by
 refine xL Z ?_;unfold Oper.wp;rw [hr n a ha];exact h _ (ha.put hd v)
theorem us {op:Op} (hr:akp P E ⟨none,op,ty,pos,aW,none⟩ w w') (h:bO P n ops Q rest E w'):bO P n ops Q (⟨none,op,ty,pos,aW,none⟩::rest) E w:=fun a ha=>by
 refine xL Z ?_;unfold Oper.wp;rw [hr n a ha];exact h _ ha
def Enters (P:Program) (f:FuncId):Prop:=∃ fn,P.funcs[f]? =some fn∧(fn.name == "runtime.NumGoroutine")=false∧fn.body.isNone=false
theorem B1 {f:FuncId} (hf:Enters P f) {xs:Array Operand} {ts:Array TypeId} {args:List Value} {a:Act} (ha:c8 n E a) (he:fr E xs.toList=some args):
  (execOp a.eval ⟨d, .call {callee:= .value (.func f),args:=xs,argTypes:=ts},ty,pos,aW,g⟩).run P w= .ok (.enter f args.toArray) w:=by
 obtain ⟨fn,κ,τ,aq⟩:=hf;have hm:xs.map a.eval=args.toArray:=by rw [← ha.fr he];apply aNW;simp
 exact afE f fn κ τ aq xs ts Z _ hm
theorem ca {d:Nat} {f:FuncId} (hf:Enters P f) {xs:Array Operand} {ts:Array TypeId} {args:List Value} (he:fr E xs.toList=some args) (hd:Nat.blt d n=true)
  (h:Calls P f args.toArray w fun e w'=>∃ v,e= .returned v∧bO P n ops Q rest ((d,v)::E) w'):bO P n ops Q (⟨some d, .call {callee:= .value (.func f),args:=xs,argTypes:=ts},ty,pos,aW,none⟩::rest) E w:=fun a ha=>by
 refine xL Z ?_;unfold Oper.wp;rw [B1 hf ha he];refine aOs h fun e w' dN=> ?_;obtain ⟨v,rfl,h⟩:=dN;exact h _ (ha.put hd v)
theorem jx (hx:ev E x=some v):cF P E ⟨d, .move x,ty,pos,aW,g⟩ w v w:=fun n a ha=>by simp only [execOp,ha.ev hx];rfl
theorem eQ (hx:ev E x=some v):cF P E ⟨d, .assign x,ty,pos,aW,g⟩ w v w:=fun n a ha=>by simp only [execOp,ha.ev hx];rfl
theorem ex {l:List Value} {k:Nat} (hx:ev E x=some (.tuple l.toArray)) (aj:l[k]? =some v):cF P E ⟨d, .extract x k,ty,pos,aW,g⟩ w v w:=fun n a ha=>by
 simp only [execOp,ha.ev hx,Instr.extract,aPu,aj];rfl
theorem b1 {p:Addr} (hx:ev E x=some (.pointer (some p))):cF P E ⟨d, .nilCheck x,ty,pos,aW,g⟩ w (.pointer (some p)) w:=fun n a ha=>by simp only [execOp,ha.ev hx];rfl
theorem dH {b:Bool} (hx:ev E x=some (.bool b)):cF P E ⟨d, .unOp .not t x,ty,pos,aW,g⟩ w (.bool !b) w:=fun n a ha=>by
 simp only [execOp,ha.ev hx];cases b<;>rfl
theorem oL {v:Value} (hx:ev E x=some (.bool true)) (aH:ev E y=some v):cF P E ⟨d, .pick x y z,ty,pos,aW,g⟩ w v w:=fun n a ha=>by
 simp only [execOp,ha.ev hx,ha.ev aH];rfl
theorem pn {v:Value} (hx:ev E x=some (.bool false)) (bo:ev E z=some v):cF P E ⟨d, .pick x y z,ty,pos,aW,g⟩ w v w:=fun n a ha=>by
 simp only [execOp,ha.ev hx,ha.ev bo];rfl
def eb (c:Bool) (v:Value):Value:=if c=true then v else undef
theorem gt {c:Bool} (hc:c=true) (h:ev E x=some (eb c v)):ev E x=some v:=by rw [h,hc];rfl
theorem gq {b c q:Bool} (hx:ev E x=some (.bool b)) (aH:ev E y=some (.bool true)) (I:(b == false)=q) (bo:ev E z=some (eb q (.bool c))):cF P E ⟨d, .pick x y z,ty,pos,aW,g⟩ w (.bool (b || c)) w:=fun n a ha=>by
 subst I;simp only [execOp,ha.ev hx,ha.ev aH,ha.ev bo];cases b<;>rfl
theorem fG {b c q:Bool} (hx:ev E x=some (.bool b)) (bo:ev E z=some (.bool false)) (I:(b == true)=q) (aH:ev E y=some (eb q (.bool c))):cF P E ⟨d, .pick x y z,ty,pos,aW,g⟩ w (.bool (b && c)) w:=fun n a ha=>by
 subst I;simp only [execOp,ha.ev hx,ha.ev aH,ha.ev bo];cases b<;>rfl
section
variable {k k':IntKind} {i j:Int} {u:TypeId}
theorem ua {op:BinOp} {s:Sem Value} (hx:ev E x=some (.int k i)) (aH:ev E y=some (.int k' j)) (h:binOp op t (.int k i) (.int k' j)=s) (hr:s.run P w= .ok v w):cF P E ⟨d, .binOp op t x y u,ty,pos,aW,g⟩ w v w:=fun n a ha=>by
 simp only [execOp,ha.ev hx,ha.ev aH,eqGuard_at_int,h,aML,aMP,aMG,hr]
theorem bad (hx:ev E x=some (.int k i)) (aH:ev E y=some (.int k j)) (h:k.wrap (i+j)=i+j):cF P E ⟨d, .binOp .add t x y u,ty,pos,aW,g⟩ w (.int k (i+j)) w:=ua hx aH (binOp_add t k i j) (by simp [Op.intArith,h])
theorem iH (hx:ev E x=some (.int k i)) (aH:ev E y=some (.int k j)) (h:k.wrap (i - j)=i - j):cF P E ⟨d, .binOp .sub t x y u,ty,pos,aW,g⟩ w (.int k (i - j)) w:=ua hx aH (binOp_sub t k i j) (by simp [Op.intArith,h])
theorem zx (hx:ev E x=some (.int k i)) (aH:ev E y=some (.int k j)) (h:k.wrap (i * j)=i * j):cF P E ⟨d, .binOp .mul t x y u,ty,pos,aW,g⟩ w (.int k (i * j)) w:=ua hx aH (binOp_mul t k i j) (by simp [Op.intArith,h])
theorem blt (hx:ev E x=some (.int k i)) (aH:ev E y=some (.int k j)):cF P E ⟨d, .binOp .lss t x y u,ty,pos,aW,g⟩ w (.bool (decide (i<j))) w:=ua hx aH (binOp_lss t k i j) rfl
theorem ble (hx:ev E x=some (.int k i)) (aH:ev E y=some (.int k j)):cF P E ⟨d, .binOp .leq t x y u,ty,pos,aW,g⟩ w (.bool (decide (i≤j))) w:=ua hx aH (binOp_leq t k i j) rfl
theorem iv (hx:ev E x=some (.int k i)) (aH:ev E y=some (.int k j)):cF P E ⟨d, .binOp .gtr t x y u,ty,pos,aW,g⟩ w (.bool (decide (j<i))) w:=ua hx aH (binOp_gtr t k i j) rfl
theorem k7 (hx:ev E x=some (.int k i)) (aH:ev E y=some (.int k j)):cF P E ⟨d, .binOp .geq t x y u,ty,pos,aW,g⟩ w (.bool (decide (j≤i))) w:=ua hx aH (binOp_geq t k i j) rfl
theorem beq (hx:ev E x=some (.int k i)) (aH:ev E y=some (.int k j)):cF P E ⟨d, .binOp .eql t x y u,ty,pos,aW,g⟩ w (.bool (i == j)) w:=ua hx aH (binOp_eql t k i j) rfl
theorem bne (hx:ev E x=some (.int k i)) (aH:ev E y=some (.int k j)):cF P E ⟨d, .binOp .neq t x y u,ty,pos,aW,g⟩ w (.bool (i != j)) w:=ua hx aH (binOp_neq t k i j) rfl
end
def eN (P:Program) (t:TypeId) (k:Nat):Prop:=∀ w,(sizeOf t).run P w= .ok k w
def eB (P:Program) (t:TypeId) (b:Bool):Prop:=∀ w,(isAgg t).run P w= .ok b w
def kO (P:Program) (t:TypeId) (v:Value):Prop:=∀ w,(zeroValue t).run P w= .ok v w
def Fd (P:Program) (t:TypeId) (i off:Nat):Prop:=∀ w g o,(Instr.fieldAt t (.pointer (some ⟨g,o,none⟩)) i).run P w= .ok (.pointer (some ⟨g,o+off,none⟩)) w
section
variable {b o k:Nat} {cs:List Value}
theorem ar {i off:Nat} (hf:Fd P t i off) (hx:ev E x=some (.pointer (some ⟨b,o,none⟩))):cF P E ⟨d, .fieldAddr t x i,ty,pos,aW,g⟩ w (.pointer (some ⟨b,o+off,none⟩)) w:=fun n a ha=>by
 simp only [execOp,ha.ev hx,aML,hf w b o,aMG,aMP]
theorem JE {e:TypeId} {size len cap:Nat} {TN:IntKind} {i:Int} (j:Nat) (aC:P.underlying t=some (.slice e)) (hs:eN P e size) (hx:ev E x=some (.slice (some ⟨b,o,none⟩) len cap)) (ak:ev E y=some (.int TN i)) (aw:i=(j:Int)) (bB:j<len):
  cF P E ⟨d, .indexAddr t x y,ty,pos,aW,g⟩ w (.pointer (some ⟨b,o+j * size,none⟩)) w:=fun n a ha=>by
 subst aw;simp only [execOp,ha.ev hx,ha.ev ak,Instr.indexAt,asIntOf,aML,aMP,aMG,aNH aC];rw [aMI ⟨by omega,by omega⟩];simp only [aML,hs w,aMG,aMP,aNE,H5]
def kx (P:Program) (w:World) (t:TypeId) (p:Addr) (v:Value):Prop:=(loadVar t p).run P w= .ok v w
theorem kx.one {p:Addr} (aC:eB P t false) (h:w.cell? p=some v):kx P w t p v:=by
 unfold kx loadVar;simp only [aML,aC w,aMG,aNm,aNR,run_load,h]
theorem kx.agg (aC:eB P t true) (hs:eN P t cs.length) (h:∀ j v,cs[j]? =some v→w.cell? ⟨b,o+j,none⟩=some v):kx P w t ⟨b,o,none⟩ (.agg cs.toArray):=by
 unfold kx loadVar;simp only [aML,aC w,aMG,aN5,hs w,run_loadCells_list w ⟨b,o,none⟩ cs (fun j v aw=>by rw [H5];exact h j v aw),aMP]
theorem aA {p:Addr} (hx:ev E x=some (.pointer (some p))) (h:kx P w t p v):cF P E ⟨d, .load t x,ty,pos,aW,g⟩ w v w:=fun n a ha=>by
 unfold kx at h;simp only [execOp,ha.ev hx,Instr.loadAt,Instr.sureAddr,aML,aMP,aMG,h]
theorem aO.one {p:Nat} {cur:List Value} {e:TypeId} {ao:Nat×Nat} (h:aO w b cur e ao) (aC:eB P t false) (hv:cur[p]? =some v):kx P w t ⟨b,p,none⟩ v:=kx.one aC (by rw [h.cell,hv])
theorem aO.agg {p:Nat} {cur:List Value} {e:TypeId} {ao:Nat×Nat} (h:aO w b cur e ao) (aC:eB P t true) (hs:eN P t cs.length) (hv:(cur.drop p).take cs.length=cs):kx P w t ⟨b,p,none⟩ (.agg cs.toArray):=
 kx.agg aC hs fun j v aw=>by
  rw [h.cell,← aw];have ay:=(aMx.1 aw).1
  conv=>rhs;rw [← hv]
  rw [aQA ay,aNz]
theorem alb {op:Op} {d:Nat} {cs:List Value} (tJ:op= .box t x) (hx:ev E x=some v) (hc:v.cells=cs.toArray) (hd:Nat.blt d n=true)
  (h:∀ aM b,Ext w aM→w.heap.size≤b→aO aM b cs t (0,0)→bO P n ops Q rest ((d, .pointer (some ⟨b,0,none⟩))::E) aM):bO P n ops Q (⟨some d,op,ty,pos,aW,none⟩::rest) E w:=by
 subst tJ;refine ig (w':=w.alloc (.cells v.cells t)) (v:= .pointer (some ⟨w.heap.size,0,none⟩)) (fun n a ha=> ?_) hd (h _ _ ((aNb _ w).alloc (aMO _) _) (aMO _) (by rw [hc];exact aO.new w cs t (0,0)));simp only [execOp,ha.ev hx,Instr.box,newVar,newRow,aML,run_newObj_alloc,aMG,aMP]
theorem al {op:Op} {d:Nat} {cs:List Value} (tJ:op= .alloc t) (bo:kO P t v) (hc:v.cells=cs.toArray) (hd:Nat.blt d n=true)
  (h:∀ aM b,Ext w aM→w.heap.size≤b→aO aM b cs t (0,0)→bO P n ops Q rest ((d, .pointer (some ⟨b,0,none⟩))::E) aM):bO P n ops Q (⟨some d,op,ty,pos,aW,none⟩::rest) E w:=by
 subst tJ;refine ig (w':=w.alloc (.cells v.cells t)) (v:= .pointer (some ⟨w.heap.size,0,none⟩)) (fun n a ha=> ?_) hd (h _ _ ((aNb _ w).alloc (aMO _) _) (aMO _) (by rw [hc];exact aO.new w cs t (0,0)));simp only [execOp,Instr.alloc,aML,bo w,newVar,newRow,run_newObj_alloc,aMG,aMP]
end
end
section
variable {P:Program} {n:Nat} {E cd:List (Nat×Value)} {a:Act} {w w' w0 aM:World} {Q:Exit→Act→World→Prop} {ops:Array Oper} {v:Value} {aK:Nat→Nat}
variable {d:Option Nat} {ty:TypeId} {pos:String} {aW:Array Edge} {g:Option (Nat×Bool)} {x y z:Operand} {t:TypeId} {rest:List Oper} {ba:List Nat} {i:Nat}
def eD (P:Program) (n:Nat) (ops:Array Oper) (Q:Exit→Act→World→Prop) (aK:Nat→Nat) (ba:List Nat) (E:List (Nat×Value)) (w0:World):Prop:=∀ a,c8 n E a→xf P ops (eT (Q .normal)) aK ba a w0
def j7 (l:List (Nat×Nat)) (i:Nat):Nat:=match l with
 | []=>1
 | (j,k)::r=>match Nat.beq j i with | true=>k | false=>j7 r i
theorem rd {id:Nat} (hO:List (Nat×Nat)) (ba:List Nat) (hm:P.follows .mixedOrders=true) (aS:(Region.noSelect ops && (ba.length == ops.size) && hM ops (j7 hO) ba (Array.replicate ops.size false))=true)
  (h:eD P n ops Q (j7 hO) ba E w):W P n (.region id ops true) Q E w:=fun a ha=>ax2 ba hm aS (h a ha)
theorem fn (h:∀ w,Ext w0 w→N n Q E w):eD P n ops Q aK [] E w0:=fun a ha w hw=>h w hw a ha
theorem qG {o:Oper} (aT:o.guard=none):Region.wanted o (yielded ops a.tmps)=true:=by simp [Region.wanted,aT]
theorem RY {d:Nat} {op:Op} (ak:ops[i]? =some ⟨some d,op,ty,pos,aW,none⟩) (aj:aK i=0) (hr:∀ w,Ext w0 w→cF P E ⟨some d,op,ty,pos,aW,none⟩ w v w) (hd:Nat.blt d n=true)
  (h:eD P n ops Q aK ba ((d,v)::E) w0):eD P n ops Q aK (i::ba) E w0:=fun a ha =>
 ⟨_,ak, .inl ⟨aj,v, .inl ⟨qG rfl,fun w hw=>by rw [hr w hw n a ha];exact ⟨rfl,rfl⟩⟩,h _ (ha.put hd v)⟩⟩
theorem ki {d:Nat} {op:Op} (ak:ops[i]? =some ⟨some d,op,ty,pos,aW,none⟩) (aj:aK i=1) (hr:∀ w,cF P E ⟨some d,op,ty,pos,aW,none⟩ w v w) (hd:Nat.blt d n=true)
  (h:eD P n ops Q aK ba ((d,v)::E) w0):eD P n ops Q aK (i::ba) E w0:=fun a ha =>
 ⟨_,ak, .inr (.inl ⟨aj,v, .inl ⟨qG rfl,fun w=>hr w n a ha⟩,h _ (ha.put hd v)⟩)⟩
theorem q8 {d:Nat} {f:FuncId} {xs:Array Operand} {ts:Array TypeId} {args:List Value} (ak:ops[i]? =some ⟨some d, .call {callee:= .value (.func f),args:=xs,argTypes:=ts},ty,pos,aW,none⟩) (aj:aK i=0) (hf:Enters P f) (he:fr E xs.toList=some args)
  (hr:∀ w,Ext w0 w→Calls P f args.toArray w fun e w'=>e= .returned v∧Ext w w') (hd:Nat.blt d n=true)
  (h:eD P n ops Q aK ba ((d,v)::E) w0):eD P n ops Q aK (i::ba) E w0:=fun a ha =>
 ⟨_,ak, .inl ⟨aj,v, .inl ⟨qG rfl,fun w hw=>by rw [B1 hf ha he];exact ⟨rfl,hr w hw⟩⟩,h _ (ha.put hd v)⟩⟩
theorem Es {o:Oper} {j:Nat} {q b:Bool} {cI:Oper} {iU:Nat} (aT:o.guard=some (j,q)) (aw:ops[j]? =some cI) (oz:cI.dst=some iU) (af:look E iU=some (.bool b)) (ha:c8 n E a):Region.wanted o (yielded ops a.tmps)=(b == q):=by
 have:=ha.g _ _ af;cases b<;>cases q<;>simp [Region.wanted,aT,yielded,aw,oz,this]
theorem ao4 {d:Nat} {op:Op} {j:Nat} {q b c:Bool} {cI:Oper} {iU:Nat} (ak:ops[i]? =some ⟨some d,op,ty,pos,aW,some (j,q)⟩) (aj:aK i=0) (aw:ops[j]? =some cI) (oz:cI.dst=some iU) (af:look E iU=some (.bool b)) (hc:(b == q)=c)
  (hr:c=true→∀ w,Ext w0 w→cF P E ⟨some d,op,ty,pos,aW,some (j,q)⟩ w v w) (hd:Nat.blt d n=true)
  (h:eD P n ops Q aK ba ((d,eb c v)::E) w0):eD P n ops Q aK (i::ba) E w0:=fun a ha=>by
 have hw:=Es (o:=⟨some d,op,ty,pos,aW,some (j,q)⟩) rfl aw oz af ha;rw [hc] at hw;refine ⟨_,ak, .inl ⟨aj,eb c v, ?_,h _ (ha.put hd _)⟩⟩;cases c with
 | true=>exact .inl ⟨hw,fun w hx=>by rw [hr rfl w hx n a ha];exact ⟨rfl,rfl⟩⟩
 | false=>exact .inr ⟨hw,rfl⟩
theorem ao5 {d:Nat} {op:Op} {j:Nat} {q b c:Bool} {cI:Oper} {iU:Nat} (ak:ops[i]? =some ⟨some d,op,ty,pos,aW,some (j,q)⟩) (aj:aK i=1) (aw:ops[j]? =some cI) (oz:cI.dst=some iU) (af:look E iU=some (.bool b)) (hc:(b == q)=c)
  (hr:c=true→∀ w,cF P E ⟨some d,op,ty,pos,aW,some (j,q)⟩ w v w) (hd:Nat.blt d n=true)
  (h:eD P n ops Q aK ba ((d,eb c v)::E) w0):eD P n ops Q aK (i::ba) E w0:=fun a ha=>by
 have hw:=Es (o:=⟨some d,op,ty,pos,aW,some (j,q)⟩) rfl aw oz af ha;rw [hc] at hw;refine ⟨_,ak, .inr (.inl ⟨aj,eb c v, ?_,h _ (ha.put hd _)⟩)⟩;cases c with
 | true=>exact .inl ⟨hw,fun w=>hr rfl w n a ha⟩
 | false=>exact .inr ⟨hw,rfl⟩
theorem kh {d:Nat} {f:FuncId} {xs:Array Operand} {ts:Array TypeId} {args:List Value} {j:Nat} {q b c:Bool} {cI:Oper} {iU:Nat} (ak:ops[i]? =some ⟨some d, .call {callee:= .value (.func f),args:=xs,argTypes:=ts},ty,pos,aW,some (j,q)⟩) (aj:aK i=0) (aw:ops[j]? =some cI) (oz:cI.dst=some iU) (af:look E iU=some (.bool b)) (hc:(b == q)=c)
  (hf:Enters P f) (he:c=true→fr E xs.toList=some args)
  (hr:c=true→∀ w,Ext w0 w→Calls P f args.toArray w fun e w'=>e= .returned v∧Ext w w') (hd:Nat.blt d n=true)
  (h:eD P n ops Q aK ba ((d,eb c v)::E) w0):eD P n ops Q aK (i::ba) E w0:=fun a ha=>by
 have hw:=Es (o:=⟨some d, .call {callee:= .value (.func f),args:=xs,argTypes:=ts},ty,pos,aW,some (j,q)⟩) rfl aw oz af ha;rw [hc] at hw;refine ⟨_,ak, .inl ⟨aj,eb c v, ?_,h _ (ha.put hd _)⟩⟩;cases c with
 | true=>exact .inl ⟨hw,fun w hx=>by rw [B1 hf ha (he rfl)];exact ⟨rfl,hr rfl w hx⟩⟩
 | false=>exact .inr ⟨hw,rfl⟩
def A4 (P:Program) (n:Nat) (ops:Array Oper) (o:Oper) (E:List (Nat×Value)) (w:World) (K:List (Nat×Value)→World→Prop):Prop :=
 ∀ (Q:Exit→Act→World→Prop),(∀ cd w',K cd w'→bO P n ops Q [] cd w')→bO P n ops Q [o] E w
theorem aAU {QM akn:Exit→Act→World→Prop} {o:Oper} {K:Act→World→Prop} (hp:∀ c a w,¬ QM (.panic c) a w) (bl:¬ LetsOut QM) (h:o.wp P a w K QM):o.wp P a w K akn:=by
 unfold Oper.wp at *
 generalize (execOp a.eval o).run P w=r at *
 cases r with
 | ok m w' =>
  cases m<;>simp only [Oper.upon] at h ⊢ <;>
   first
    | exact h
    | exact aOs h (fun e kp he=>by cases e<;>first | exact he | exact (hp _ _ _ he).elim | exact (bl he).elim)
 | halt x w'=>cases x<;>simp only [Oper.upon] at h ⊢<;>first | exact h | exact (hp _ _ _ h).elim
theorem Ec {o:Oper} (aT:o.guard=none) (ak:ops[i]? =some o) {K:Act→World→Prop} {E:List (Nat×Value)} {w:World} {Xs:List (Nat×Value)→World→Prop} (h:A4 P n ops o E w Xs) (hK:∀ cd w' a',Xs cd w'→c8 n cd a'→K a' w') (ha:c8 n E a):
  wpOp P ops (eT (Q .normal)) i K a w:=by
 have:=h (eT K) (fun cd w' aj a' ot=>hK cd w' a' aj ot) a ha;unfold wpList at this;unfold wpOp;simp only [ak];rw [aMI (qG aT)] at this ⊢;rcases this with h | ⟨h,a,w,τ⟩
 ·exact .inl (aAU (fun _ _ _ h=>h) (fun ⟨_,_,h⟩=>h) h)
 ·exact τ.elim
theorem fS {o:Oper} (aT:o.guard=none) (ak:ops[i]? =some o) (aj:aK i=2) (h:∀ w,Ext w0 w→A4 P n ops o E w fun cd w'=>Ext w0 w'∧eD P n ops Q aK ba cd w'):eD P n ops Q aK (i::ba) E w0:=fun a ha =>
 ⟨_,ak, .inr (.inr ⟨by omega,fun w hw=>Ec aT ak (h w hw) (fun cd w' a' aj ot=>⟨fun _=>aj.1,aj.2 a' ot⟩) ha⟩)⟩
theorem dA {o:Oper} (aT:o.guard=none) (ak:ops[i]? =some o) (aj:aK i=3) (h:∀ w,Ext w0 w→A4 P n ops o E w fun cd w'=>eD P n ops Q aK ba cd w'):eD P n ops Q aK (i::ba) E w0:=fun a ha =>
 ⟨_,ak, .inr (.inr ⟨by omega,fun w hw=>Ec aT ak (h w hw) (fun cd w' a' aj ot=>⟨fun τ=>by omega,aj a' ot⟩) ha⟩)⟩
end
structure Mod (S:List Nat) (w w':World):Prop where
 os:w'.os=w.os
 tape:w'.tape=w.tape
 output:w'.output=w.output
 size:w.heap.size≤w'.heap.size
 block:∀ k,k<w.heap.size→k∉S→w'.heap[k]? =w.heap[k]?
section
variable {S S':List Nat} {w w' w0 aM b':World} {B:Nat}
theorem Mod.aP (h:Ext w w'):Mod S w w':=⟨h.os,h.tape,h.output,h.size,fun k aj _=>h.block k aj⟩
theorem Mod.below {az:Nat} (h:Mod S w w') (hS:∀ x∈S,az≤x) (sx:az≤w.heap.size):Below az w w' :=
 ⟨h.os,h.tape,h.output,h.size,fun k aj=>h.block k (by omega) fun hm=>by have:=hS k hm;omega⟩
theorem Ext.mod (h:Ext w0 w) (hm:Mod S w w') (hS:∀ x∈S,w0.heap.size≤x):Ext w0 w':=aQY h (hm.below hS h.size)
theorem Mod.bM (S:List Nat) (w:World):Mod S w w:=⟨rfl,rfl,rfl,aMO _,fun _ _ _=>rfl⟩
theorem Mod.md (h:Mod S w aM) (cp:Mod S' aM b') (hs:∀ q∈S',q∈S∨w.heap.size≤q):Mod S w b' :=
 ⟨cp.os.trans h.os,cp.tape.trans h.tape,cp.output.trans h.output,aMR h.size cp.size,fun k aj hn=>(cp.block k (aN9 aj h.size) fun hm=>(hs k hm).elim hn (fun h=>by omega)).trans (h.block k aj hn)⟩
theorem Mod.sub (h:Mod S w w') (hs:∀ x∈S,x∈S'):Mod S' w w':=⟨h.os,h.tape,h.output,h.size,fun k aj hn=>h.block k aj fun hm=>hn (hs k hm)⟩
theorem Mod.trans (h:Mod S w aM) (cp:Mod S aM b'):Mod S w b' :=
 ⟨cp.os.trans h.os,cp.tape.trans h.tape,cp.output.trans h.output,aMR h.size cp.size,fun k aj hn=>(cp.block k (aN9 aj h.size) hn).trans (h.block k aj hn)⟩
theorem Mod.grown {row:Option Nat} (h:w.grownBy w' row):Mod row.toList w w' :=
 ⟨h.os,h.tape,h.output,h.size,fun k aj hn=>h.block k aj fun e=>hn (by rw [← e];simp)⟩
theorem Mod.setRow (w:World) (b:Nat) (cs:Array Value):Mod [b] w (w.setRow b cs):=by
 refine ⟨Z,Z,Z,by simp [World.setRow],fun k aj hn=> ?_⟩;simp only [World.setRow,aPy];rw [aMA (by simp at hn;omega)]
theorem Mod.setCell (w:World) (p:Addr) (u:Value):Mod [p.block] w (w.setCell p u):=by
 refine ⟨Z,Z,Z,by simp [World.setCell],fun k aj hn=> ?_⟩;exact Below.heap_setCell _ _ _ _ (by simpa using hn)
theorem aO.mod {g:Nat} {cur:List Value} {e:TypeId} {ao:Nat×Nat} (h:aO w g cur e ao) (hm:Mod S w w') (aT:g∉S):aO w' g cur e ao:=by
 unfold aO at *
 rw [hm.block g (aM1.1 h).1 aT];exact h
theorem Φ.aL.mod {α:Type} {R:Φ α} {E by_:Nat} {f:List Nat} {A:Option Addr} {c:Nat} {l:List α} (h:R.aL E by_ w B f A c l) (hm:Mod S w w') (hd:∀ x∈f,x∉S):R.aL E by_ w' B f A c l :=
 h.keep fun g aT=>hm.block g (h.lt g aT).2 (hd g aT)
end
section
variable {P:Program} {n:Nat} {E cd:List (Nat×Value)} {a:Act} {w w' w0 aM:World} {Q:Exit→Act→World→Prop} {ops:Array Oper} {v:Value}
variable {d:Option Nat} {ty:TypeId} {pos:String} {aW:Array Edge} {g:Option (Nat×Bool)} {x y z:Operand} {t:TypeId} {rest:List Oper}
theorem UL {b p:Nat} {cur cs:List Value} {e:TypeId} (aS:aO w b cur e (0,0)) (hc:v.cells=cs.toArray) (hs:eN P t cs.length) (κ:cs.all (·.oneCell')=true) (ay:p+cs.length≤cur.length):
  (storeVar t ⟨b,p,none⟩ v).run P w= .ok () (w.setRow b (cur.take p++cs++cur.drop (p+cs.length)).toArray):=by
 unfold storeVar;simp only [hc,aML,hs w,aMG,aNV,ne_eq,aQ3,aNR];have:=run_storeCells_at P b p e cs 0 cur.toArray w aS (by simpa using ay) (fun v hv=>aNd.1 κ v hv);simpa using this
theorem st {b p:Nat} {cur cs new:List Value} {e:TypeId} (hx:ev E x=some (.pointer (some ⟨b,p,none⟩))) (aH:ev E y=some v) (aS:aO w b cur e (0,0)) (hc:v.cells=cs.toArray) (hs:eN P t cs.length) (κ:cs.all (·.oneCell')=true) (ay:Nat.ble (p+cs.length) cur.length=true)
  (hn:cur.take p++cs++cur.drop (p+cs.length)=new)
  (h:∀ aM,Mod [b] w aM→aO aM b new e (0,0)→bO P n ops Q rest E aM):bO P n ops Q (⟨none, .store t x y,ty,pos,aW,none⟩::rest) E w:=by
 refine us (w':=w.setRow b new.toArray) (fun n a ha=> ?_) (h _ (Mod.setRow w b _) (by rw [← hn];exact aS.setRow _));have:=UL (P:=P) aS hc hs κ (aNZ ay);rw [hn] at this;simp only [execOp,ha.ev hx,ha.ev aH,Instr.storeAt,Instr.sureAddr,aML,aMP,aMG,this]
theorem bi {E7:Builtin} {xs:Array Operand} {ts:Array TypeId} {vs:List Value} (he:fr E xs.toList=some vs) (h:∀ cs,(builtin E7 ts ty cs vs.toArray).run P w= .ok (.value v) w'):
  cF P E ⟨d, .call {callee:= .builtin E7,args:=xs,argTypes:=ts},ty,pos,aW,g⟩ w v w':=fun n a ha=>by
 have hm:xs.map a.eval=vs.toArray:=by rw [← ha.fr he];apply aNW;simp
 simp only [execOp,resolve,invoke,hm,aML,aMP,aMG,h]
theorem dC {A:Option Addr} {len cap e:Nat} (aC:P.underlying t=some (.slice e)) (hx:ev E x=some (.slice A len cap)):cF P E ⟨d, .call {callee:= .builtin .len,args:=#[x],argTypes:=#[t]},ty,pos,aW,g⟩ w (.int .i64 (len:Int)) w :=
 bi (vs:= [.slice A len cap]) (by simp only [fr,hx]) fun cs=>by
  have κ:P.underlying t=some (.slice (P.elem t)):=by simp [Program.elem,aC]
  have:=run_len_slice (P:=P) w t ty A len cap κ;simp only [builtin,aML,this,aMG,aMP];rfl
theorem b6 {f:FuncId} {fn:Func} (h:P.funcs[f]? =some fn) (κ:(fn.name == "runtime.NumGoroutine")=false:=by kernel_rfl) (τ:fn.body.isNone=false:=by kernel_rfl):Enters P f:=⟨fn,h,κ,τ⟩
theorem VN {o:Oper} {c:Bool} (hw:∀ a,c8 n E a→Region.wanted o (yielded ops a.tmps)=c) (κ:c=true→∀ a,c8 n E a→o.wp P a w (wpList P ops Q rest) Q) (τ:c=false→∀ a,c8 n E a→wpList P ops Q rest (a.put o.dst undef) w):bO P n ops Q (o::rest) E w:=fun a ha=>by
 unfold wpList;rw [hw a ha];cases c with
 | true=>rw [aMI rfl];exact .inl (κ Z a ha)
 | false=>rw [aMA (by decide)];exact τ Z a ha
theorem az6 {d:Nat} {op:Op} {j:Nat} {q b c:Bool} {cI:Oper} {iU:Nat} (aw:ops[j]? =some cI) (oz:cI.dst=some iU) (af:look E iU=some (.bool b)) (hc:(b == q)=c)
  (hr:c=true→cF P E ⟨some d,op,ty,pos,aW,some (j,q)⟩ w v w) (hd:Nat.blt d n=true) (h:bO P n ops Q rest ((d,eb c v)::E) w):bO P n ops Q (⟨some d,op,ty,pos,aW,some (j,q)⟩::rest) E w :=
 VN (c:=c) (fun a ha=>by rw [Es (o:=⟨some d,op,ty,pos,aW,some (j,q)⟩) rfl aw oz af ha,hc])
  (fun hc a ha=>by unfold Oper.wp;rw [hr hc n a ha];subst hc;exact h _ (ha.put hd v)) (fun hc a ha=>by subst hc;exact h _ (ha.put hd undef))
theorem az5 {d:Nat} {f:FuncId} {xs:Array Operand} {ts:Array TypeId} {args:List Value} {j:Nat} {q b c:Bool} {cI:Oper} {iU:Nat} (aw:ops[j]? =some cI) (oz:cI.dst=some iU) (af:look E iU=some (.bool b)) (hc:(b == q)=c)
  (hf:Enters P f) (he:c=true→fr E xs.toList=some args) (hr:c=true→Calls P f args.toArray w fun e w'=>e= .returned v∧Ext w w') (hd:Nat.blt d n=true)
  (h:∀ w',Ext w w'→bO P n ops Q rest ((d,eb c v)::E) w'):bO P n ops Q (⟨some d, .call {callee:= .value (.func f),args:=xs,argTypes:=ts},ty,pos,aW,some (j,q)⟩::rest) E w :=
 VN (c:=c) (fun a ha=>by rw [Es (o:=⟨some d,_,ty,pos,aW,some (j,q)⟩) rfl aw oz af ha,hc])
  (fun hc a ha=>by unfold Oper.wp;rw [B1 hf ha (he hc)];exact (hr hc).mono fun e w' ⟨κ,hx⟩=>by subst κ;subst hc;exact h w' hx _ (ha.put hd v)) (fun hc a ha=>by subst hc;exact h w (Ext.bM w) _ (ha.put hd undef))
theorem jR {d:Option Nat} {op:Op} {j:Nat} {q:Bool} {cI:Oper} {iU:Nat} (aw:ops[j]? =some cI) (oz:cI.dst=some iU) (af:look E iU=some (.bool q)) (h:bO P n ops Q (⟨d,op,ty,pos,aW,none⟩::rest) E w):bO P n ops Q (⟨d,op,ty,pos,aW,some (j,q)⟩::rest) E w:=fun a ha=>by
 have h:=h a ha;have hw:=Es (o:=⟨d,op,ty,pos,aW,some (j,q)⟩) (q:=q) rfl aw oz af ha;unfold wpList at h ⊢;rw [aMI (qG rfl)] at h;rw [hw,aMI (by cases q<;>rfl)];exact h
theorem gl {x:Operand} {b c:Bool} (h:ev E x=some (.bool b)) (e:b=c):ev E x=some (.bool c):=by rw [h,e]
theorem J_ {ZY:Fn} {fs cs:Array Operand} {l m:List Value} (κ:fr E fs.toList=some l) (τ:fr E cs.toList=some m):cF P E ⟨d, .makeFunc ZY fs cs,ty,pos,aW,g⟩ w (.func ZY l.toArray m.toArray) w:=fun n a ha=>by
 have aR:fs.map a.eval=l.toArray:=by rw [← ha.fr κ];apply aNW;simp
 have a6:cs.map a.eval=m.toArray:=by rw [← ha.fr τ];apply aNW;simp
 simp only [execOp,aR,a6,Instr.makeFunc,aML,aMP,aMG]
def q7 (E:List (Nat×Value)):List (Nat×Operand)→Option (List (Nat×Value))
 | []=>some []
 | (i,x)::r=>match ev E x with
  | some v=>match q7 E r with
   | some l=>some ((i,v)::l)
   | none=>none
  | none=>none
theorem c8.q7 (h:c8 n E a):∀ {l:List (Nat×Operand)} {vs:List (Nat×Value)},q7 E l=some vs→l.map (fun (i,x)=>(i,a.eval x))=vs
 | [],vs,e=>by simp only [Proofs.YthlpmldmhakhaaaGreatDoor.q7] at e;exact aMJ e
 | (i,x)::r,vs,e=>by
  simp only [Proofs.YthlpmldmhakhaaaGreatDoor.q7] at e;cases hx:Proofs.YthlpmldmhakhaaaGreatDoor.ev E x with
  | none=>rw [hx] at e;cases e
  | some v =>
   rw [hx] at e;simp only at e;cases hr:Proofs.YthlpmldmhakhaaaGreatDoor.q7 E r with
   | none=>rw [hr] at e;cases e
   | some l =>
    rw [hr] at e;simp only at e;obtain rfl:=aMJ e;rw [aNc,c8.q7 h hr];simp only [h.ev hx]
theorem gO {ps:Array (Nat×Operand)} {l:List (Nat×Value)} (he:q7 E ps.toList=some l) (hr:(Instr.build t l.toArray).run P w= .ok v w):cF P E ⟨d, .build t ps,ty,pos,aW,g⟩ w v w:=fun n a ha=>by
 have aR:ps.map (fun (i,x)=>(i,a.eval x))=l.toArray:=by rw [← ha.q7 he];apply aNW;simp
 simp only [execOp,aR,aML,hr,aMG,aMP]
theorem b9 {ps:Array (Nat×Operand)} {l:List (Nat×Value)} {d k e:Nat} {cs:List Value} (he:q7 E ps.toList=some l) (hr:∀ w,(Instr.buildSlice t k l.toArray).run P w= .ok (.slice (some ⟨w.heap.size,0,none⟩) k k) (w.alloc (.cells cs.toArray e))) (hd:Nat.blt d n=true)
  (h:∀ aM b,Ext w aM→w.heap.size≤b→aO aM b cs e (0,0)→bO P n ops Q rest ((d, .slice (some ⟨b,0,none⟩) k k)::E) aM):bO P n ops Q (⟨some d, .buildSlice t k ps,ty,pos,aW,none⟩::rest) E w:=by
 refine ig (w':=w.alloc (.cells cs.toArray e)) (v:= .slice (some ⟨w.heap.size,0,none⟩) k k) (fun n a ha=> ?_) hd (h _ _ ((aNb _ w).alloc (aMO _) _) (aMO _) (aO.new w cs e (0,0)));have aR:ps.map (fun (i,x)=>(i,a.eval x))=l.toArray:=by rw [← ha.q7 he];apply aNW;simp
 simp only [execOp,aR,aML,hr,aMG,aMP]
def et (A:Option Addr):Nat:=match A with | some a=>a.block | none=>0
def jO (A:Option Addr):Nat:=match A with | some a=>a.off | none=>0
theorem Φ.aQ.bx {α:Type} {R:Φ α} {by_ c:Nat} {A:Option Addr} {l:List α} (h:R.aQ by_ w A c l) (aB:0<l.length):A=some ⟨et A,jO A,none⟩:=by
 obtain ⟨b,o,rfl,_⟩:=h.at_ aB;rfl
theorem Φ.aQ.ck {α:Type} {R:Φ α} {by_ c:Nat} {A:Option Addr} {l:List α} (h:R.aQ by_ w A c l) (aB:0<l.length):R.aQ by_ w (some ⟨et A,jO A,none⟩) c l:=by
 rw [← h.bx aB];exact h
theorem bX {e:TypeId} {size len cap b o:Nat} {TN:IntKind} {i:Int} {A:Option Addr} (j:Nat) (aC:P.underlying t=some (.slice e)) (hs:eN P e size) (hx:ev E x=some (.slice A len cap)) (ak:ev E y=some (.int TN i)) (hA:A=some ⟨b,o,none⟩) (aw:i=(j:Int)) (bB:j<len):
  cF P E ⟨d, .indexAddr t x y,ty,pos,aW,g⟩ w (.pointer (some ⟨b,o+j * size,none⟩)) w:=by subst hA;exact JE j aC hs hx ak aw bB
theorem cl {α:Type} {l:List α} {j:Nat} {u:α} (h:j<l.length):l[j]? =some (l.getD j u):=by rw [aMv,aMy h];rfl
section
variable {α:Type} {R:Φ α} {by_ c b o j:Nat} {l:List α} {cells:α→List Value} {q u:α}
theorem Φ.aQ.oh (hc:∀ {w cs a},R.has w cs a→cs=cells a) (h:R.aQ by_ w (some ⟨b,o,none⟩) c l) (k:Nat) (aw:l[j]? =some q) (hu:(cells q)[k]? =some v) (aC:eB P t false):kx P w t ⟨b,o+j * R.size+k,none⟩ v:=by
 obtain ⟨vx,Kb,e,ej⟩:=h.at_ (by have:=(aMx.1 aw).1;omega);injection e with e;injection e with aR a6;subst aR;subst a6
 obtain ⟨es,κ,τ⟩:=ej j q aw;rw [hc κ] at τ;exact kx.one aC (by rw [aOW];exact τ k v hu)
theorem Φ.aQ.dm (hc:∀ {w cs a},R.has w cs a→cs=cells a) (h:R.aQ by_ w (some ⟨b,o,none⟩) c l) (aw:l[j]? =some q) (hu:(cells q)[0]? =some v) (aC:eB P t false):kx P w t ⟨b,o+j * R.size,none⟩ v:=h.oh hc 0 aw hu aC
theorem Φ.aQ.jG (hc:∀ {w cs a},R.has w cs a→cs=cells a) (h:R.aQ by_ w (some ⟨b,o,none⟩) c l) (aw:l[j]? =some q) (aC:eB P t true) (hs:eN P t (cells q).length):kx P w t ⟨b,o+j * R.size,none⟩ (.agg (cells q).toArray):=by
 obtain ⟨vx,Kb,e,ej⟩:=h.at_ (by have:=(aMx.1 aw).1;omega);injection e with e;injection e with aR a6;subst aR;subst a6
 obtain ⟨es,κ,τ⟩:=ej j q aw;rw [hc κ] at τ;exact kx.agg aC hs fun k v aj=>by rw [aOW];exact τ k v aj
theorem Φ.aQ.part (hc:∀ {w cs a},R.has w cs a→cs=cells a) (h:R.aQ by_ w (some ⟨b,o,none⟩) c l) (k:Nat) {ds:List Value} (aw:l[j]? =some q) (hd:((cells q).drop k).take ds.length=ds) (aC:eB P t true) (hs:eN P t ds.length):kx P w t ⟨b,o+j * R.size+k,none⟩ (.agg ds.toArray):=by
 obtain ⟨vx,Kb,e,ej⟩:=h.at_ (by have:=(aMx.1 aw).1;omega);injection e with e;injection e with aR a6;subst aR;subst a6
 obtain ⟨es,κ,τ⟩:=ej j q aw;rw [hc κ] at τ;refine kx.agg aC hs fun i v ak=> ?_;rw [aOW,aOW];refine τ _ v ?_;rw [← hd] at ak;have ay:=(aMx.1 ak).1;rw [aME] at ay
 rwa [aQA (by omega),aNz] at ak
end
theorem aO.all {b:Nat} {cur:List Value} {e:TypeId} {ao:Nat×Nat} (h:aO w b cur e ao) (aC:eB P t true) (hs:eN P t cur.length):kx P w t ⟨b,0,none⟩ (.agg cur.toArray):=
 kx.agg aC hs fun j v aw=>by rw [h.cell,aND,aw]
theorem aO.par {b p:Nat} {cur:List Value} {e:TypeId} {ao:Nat×Nat} (h:aO w b cur e ao) (cs:List Value) (aC:eB P t true) (hs:eN P t cs.length) (hv:(cur.drop p).take cs.length=cs):kx P w t ⟨b,p,none⟩ (.agg cs.toArray):=h.agg aC hs hv
end
open Tryz

section
variable {P:Program} {n:Nat} {E cd:List (Nat×Value)} {a:Act} {w w' w0 aM:World} {Q:Exit→Act→World→Prop} {ops:Array Oper} {v:Value}
theorem la {x:Int} (h: -9223372036854775808≤x∧x≤9223372036854775807):IntKind.i64.wrap x=x:=IntWalk.i64_in x h
section
variable {d:Option Nat} {ty:TypeId} {pos:String} {aW:Array Edge} {g:Option (Nat×Bool)} {x y:Operand} {t u:TypeId} {k:IntKind} {i j r:Int}
theorem q0 (hx:ev E x=some (.int k i)) (aH:ev E y=some (.int k j)) (h:k.wrap (i+j)=i+j) (he:i+j=r):cF P E ⟨d, .binOp .add t x y u,ty,pos,aW,g⟩ w (.int k r) w:=by subst he;exact bad hx aH h
end
theorem DK {p:Nat→Prop} {k:Nat} (h:∀ j,j<k→p j) (aj:p k):∀ j,j<k+1→p j:=fun j aw=>(aPi.1 aw).elim (h j) fun e=>e ▸ aj
theorem dy {w:World} {cs:List Value} {a:Int} (h:bz.has w cs a):cs= [.int .i64 a]:=aOY (show cs= [.int .i64 a]∧dz a from h)
theorem Jg {w:World} {cs:List Value} {a:Bool} (h:nQ.has w cs a):cs= [.bool a]:=aOY (show cs= [.bool a]∧True from h)
theorem gG {x:Operand} {r:List Operand} {l:List Value} (h:ev E x=some v) (hr:fr E r=some l):fr E (x::r)=some (v::l):=by simp only [fr,h,hr]
theorem BJ {t:Nat} {k:IntKind} {i j:Int} (h:look E t=some (.int k i)) (e:i=j):look E t=some (.int k j):=by rw [h,e]
section
variable {c:Operand} {x y:Code} {i j:Int}
theorem fM (hc:ev E c=some (.bool (decide (i<j)))) (κ:i<j→W P n x Q E w) (τ:¬ i<j→W P n y Q E w):W P n (.cond c x y) Q E w:=c_ hc (fun h=>κ (aNt h)) (fun h=>τ (aOG h))
theorem CW (hc:ev E c=some (.bool (decide (i≤j)))) (κ:i≤j→W P n x Q E w) (τ:¬ i≤j→W P n y Q E w):W P n (.cond c x y) Q E w:=c_ hc (fun h=>κ (aNt h)) (fun h=>τ (aOG h))
theorem lF (hc:ev E c=some (.bool (i == j))) (κ:i=j→W P n x Q E w) (τ:¬ i=j→W P n y Q E w):W P n (.cond c x y) Q E w:=c_ hc (fun h=>κ (by simpa using h)) (fun h=>τ (by simpa using h))
theorem ob (hc:ev E c=some (.bool (i != j))) (κ:¬ i=j→W P n x Q E w) (τ:i=j→W P n y Q E w):W P n (.cond c x y) Q E w:=c_ hc (fun h=>κ (by simpa using h)) (fun h=>τ (by simpa using h))
end
end
def dL (P:Program) {α:Type} (R:Φ α) (t e:TypeId) (by_:Nat):Prop :=
 ∃ (i:TypeInfo) (z:Value),P.underlying t=some (.slice e)∧P.info? e=some i∧i.zero=some z∧i.size=R.size∧i.bytes=by_∧z.cells.size=R.size∧0<R.size∧∀ (j:Nat) u,z.cells[j]? =some u→R.raw j u
section
variable {P:Program} {n:Nat} {E cd:List (Nat×Value)} {a:Act} {w w' w0 aM:World} {Q:Exit→Act→World→Prop} {ops:Array Oper} {v:Value}
variable {d:Option Nat} {ty:TypeId} {pos:String} {aW:Array Edge} {g:Option (Nat×Bool)} {x y z:Operand} {t:TypeId} {rest:List Oper}
theorem dL.jw {α:Type} {R:Φ α} {t e by_ k:Nat} {z:Value} (aC:P.underlying t=some (.slice e)) (ak:(P.info? e).map (fun i=>(i.zero,i.size,i.bytes))=some (some z,k,by_)) (aj:R.size=k) (κ:z.cells.size=k) (τ:0<k) (aq:∀ (j:Nat) u,z.cells[j]? =some u→R.raw j u):dL P R t e by_:=by
 cases I:P.info? e with
 | none=>rw [I] at ak;cases ak
 | some i =>
  rw [I] at ak;simp only [aOc,aPX,aQx] at ak;exact ⟨i,z,aC,I,ak.1,by rw [ak.2.1,aj],ak.2.2,by rw [κ,aj],by rw [aj];exact τ,aq⟩
theorem Ak:∀ (j:Nat) u,(Value.int .i64 0).cells[j]? =some u→bz.raw j u:=by
 intro j u hu;have hu:(#[(.int .i64 0:Value)]:Array Value)[j]? =some u:=hu
 match j,hu with
 | 0,hu=>exact ⟨0,(aMJ hu).symm⟩
 | j+1,hu=>simp at hu
theorem UF:∀ (j:Nat) u,(Value.bool false).cells[j]? =some u→nQ.raw j u:=by
 intro j u hu;have hu:(#[(.bool false:Value)]:Array Value)[j]? =some u:=hu
 match j,hu with
 | 0,hu=>exact ⟨false,(aMJ hu).symm⟩
 | j+1,hu=>simp at hu
def QN (P:Program) (n:Nat) (c:Code) (Q:Exit→Act→World→Prop) (k:Nat) (E:List (Nat×Value)) (w:World):Prop:=∀ a,c8 n E a→Code.rounds P c Q k a w
theorem JU {c:Code} (k:Nat) (h:QN P n c Q k E w):W P n (.loop c) Q E w:=fun a ha=>wp_loop_rounds k (h a ha)
theorem mf {c:Code} {k:Nat} (h:W P n c (Exit.then (Code.rounds P c Q k) Q) E w):QN P n c Q (k+1) E w:=fun a ha=>h a ha
theorem rC {c:Code} {k:Nat} (h:QN P n c Q k E w):N n (Exit.then (Code.rounds P c Q k) Q) E w:=h
theorem aO.fu {α:Type} {R:Φ α} {by_ b:Nat} {cs:List Value} {e:TypeId} {ao:Nat×Nat} {q:α} (af:aO w b cs e ao) (h:R.has w cs q) (oy:by_≤140737488355328):R.aQ by_ w (some ⟨b,0,none⟩) 1 [q]:=by
 refine ⟨aMO _,by decide,by simpa using oy,(fun h=>by cases h), [cs],⟨h,trivial⟩, ?_⟩;have ay:=R.len h;refine ⟨by simp [ay],fun _=>⟨b,0,rfl,fun j u hu=> ?_⟩⟩;rw [aND,af.cell];simpa using hu
theorem aO.zW {α:Type} {R:Φ α} {by_ b:Nat} {cs:List Value} {e:TypeId} {ao:Nat×Nat} {k:List α} (af:aO w b cs e ao) (ess:List (List Value)) (yl:ess.flatten=cs) (h:dp (fun es a=>R.has w es a) ess k) (p5:k.length≤9223372036854775807) (oy:k.length * by_≤140737488355328):R.aQ by_ w (some ⟨b,0,none⟩) k.length k:=by
 refine ⟨aMO _,p5,oy,(fun h=>by cases h),ess,h, ?_⟩;have ay:∀ x∈ess,x.length=R.size:=fun x hx=>by obtain ⟨a,ha⟩:=h.left x hx;exact R.len ha
 refine ⟨by rw [C_ ay,h.length],fun _=>⟨b,0,rfl,fun j u hu=> ?_⟩⟩;rw [aND,af.cell,← yl];exact hu
theorem aO.Kg {α:Type} {R:Φ α} {by_ b B:Nat} {cs:List Value} {e:TypeId} {k:List α} (af:aO w b cs e (0,0)) (ess:List (List Value)) (yl:ess.flatten=cs) (h:dp (fun es a=>R.has w es a) ess k) (p5:k.length≤9223372036854775807) (oy:k.length * by_≤140737488355328) (aB:0<R.size) (aS:B≤b) (hR:R.Plain:=by exact Φ.q9):
  R.aL e by_ w B (Φ.ab (some ⟨b,0,none⟩)) (some ⟨b,0,none⟩) k.length k:=by
 have ay:∀ x∈ess,x.length=R.size:=fun x hx=>by obtain ⟨a,ha⟩:=h.left x hx;exact R.len ha
 have hlen:cs.length=k.length * R.size:=by rw [← yl,C_ ay,h.length]
 refine Φ.aL.GB hR h oy ⟨by rw [yl,hlen], .inr ⟨b,k.length,cs.toArray,rfl,aS,af,aMO _,p5,by simpa using hlen, ?_,fun j u hu=> ?_⟩⟩
 ·rw [yl];exact aMU (by simp [hlen])
 ·exact Na h aB (by rw [yl];simpa using hu)
theorem ap {α:Type} {R:Φ α} {e by_ base:Nat} {A cz:Option Addr} {c bP d:Nat} {l k:List α} (I2:dL P R t e by_) (hR:R.uW) (h:R.aL e by_ w base (Φ.ab A) A c l) (τ:R.aQ by_ w cz bP k)
  (hs:ev E x=some (.slice A l.length c)) (hx:ev E y=some (.slice cz k.length bP)) (hlen:l.length+k.length≤9223372036854775807) (p8:(l.length+k.length) * by_≤140737488355328) (ow:base≤w.heap.size) (hd:Nat.blt d n=true)
  (aj:∀ aM bR cn,Mod (Φ.ab A) w aM→R.aL e by_ aM base (Φ.ab bR) bR cn (l++k)→(∀ q∈Φ.ab bR,q∈Φ.ab A∨w.heap.size≤q)→(bR=none↔A=none∧k= [])→bO P n ops Q rest ((d, .slice bR (l++k).length cn)::E) aM):
  bO P n ops Q (⟨some d, .call {callee:= .builtin .append,args:=#[x,y],argTypes:=#[t,t]},ty,pos,aW,none⟩::rest) E w:=fun a ha=>by
 obtain ⟨i,z,aR,a6,cM,iV,Iv,Iw,Zj,Zk⟩:=I2;obtain ⟨s1,s2,aKB,aKC,ess,aym,ayn⟩:=τ;obtain ⟨mW,mX⟩:=Φ.ae1 ess;refine Φ.aAS Z x y base t e i z aR a6 cM iV Iv Iw Zj Zk (Φ.ab A) A c l h cz k.length bP k (ess.map fun es=>(([]:List Nat),es)) (Φ.dp.plain hR.1 aym) Z (by rw [mX];exact ayn) (by rw [mW,aM4];exact h.nodup) hlen p8 ow Z (ha.ev hs) (ha.ev hx) ?_;rintro bR cn f' aM ⟨kX,nP,D8,ON,Uu,afc⟩;obtain rfl:=kX.apx hR.2;have hm:Mod (Φ.ab A) w aM:=by
  have:=Mod.grown nP
  rwa [Φ.OH] at this
 have:=aj aM bR cn hm kX (fun q I=>by
  rcases ON q I with h | h | h
  ·exact .inl h
  ·rw [mW] at h;cases h
  ·exact .inr (by omega)) (by rw [Uu];exact and_congr_right fun _=>List.length_eq_zero_iff)
 rw [aMB] at this;exact this _ (ha.put hd _)
theorem Own.Yn {base e size:Nat} {G:Nat→Value→Prop} {b c n:Nat} {xs:List Value} (h:Own w base e size G (.slice (some ⟨b,0,none⟩) n c) n xs):∃ cur:Array Value,w.heap[b]? =some (.cells cur e (0,0))∧cur.size=c * size∧cur.toList.take (n * size)=xs:=by
 obtain ⟨κ,τ⟩:=h;rcases τ with ⟨τ,_⟩ | ⟨g',cap,cur,hv,vx,dN,d,hm,hs,aC,av⟩
 ·cases τ
 ·injection hv with hv _ hc
  injection hv with hv
  injection hv with hv
  subst hv;subst hc;exact ⟨cur,dN,hs,aC⟩
theorem so {α:Type} {R:Φ α} {e by_ B j i:Nat} {A:Option Addr} {c:Nat} {l:List α} {q q':α} {p:Addr} {u:Value} (h:R.aL e by_ w B (Φ.ab A) A c l) (hR:R.uW) (ak:l[i]? =some q) (aw:Nat.blt j R.size=true) (hx:ev E x=some (.pointer (some p))) (hp:p=⟨et A,jO A+i * R.size+j,none⟩) (aH:ev E y=some u)
  (hu:∀ (aM:World) cs,R.has w cs q→R.has aM (cs.set j u) q') (κ:u.oneCell'=true) (yl:u.cells=#[u]) (hs:eN P t 1)
  (aj:∀ aM,Mod (Φ.ab A) w aM→R.aL e by_ aM B (Φ.ab A) A c (l.set i q')→bO P n ops Q rest E aM):bO P n ops Q (⟨none, .store t x y,ty,pos,aW,none⟩::rest) E w:=by
 obtain ⟨b,rfl⟩:=h.block (by have:=(aMx.1 ak).1;omega);rw [aO6] at aw;have Jv:p=⟨b,i * R.size+j,none⟩:=by rw [hp];simp [et,jO]
 subst Jv;have tL:=h.ayQ hR ak aw (fun cs hc=>hu _ cs hc);have bB:=(aMx.1 ak).1;have jJ:∃ agn,w.cell? ⟨b,i * R.size+j,none⟩=some agn:=by
  obtain ⟨_,ps,_,_,bl,ej⟩:=h;have ay:=bl.1;rw [bl.cell _ (by rw [aOm i];exact aN9 (by rw [aOm];exact (by omega:i * R.size+j<i * R.size+R.size)) (by rw [← aNU];exact aNh _ bB))];exact ⟨_,aMy (by rw [ay];exact aN9 (by omega:i * R.size+j<i * R.size+R.size) (by rw [← aNU];exact aNh _ bB))⟩
 obtain ⟨agn,asA⟩:=jJ;have hf:=h.free (i * R.size+j);refine us (w':=w.setCell ⟨b,i * R.size+j,none⟩ u) (fun n a ha=> ?_) (aj _ (Mod.setCell w ⟨b,i * R.size+j,none⟩ u) tL);have iZ:(storeVar t ⟨b,i * R.size+j,none⟩ u).run P w= .ok () (w.setCell ⟨b,i * R.size+j,none⟩ u):=by
  unfold storeVar;simp only [yl,aML,hs w,aMG,aNV,aMw,aMz,ne_eq,aND,aQ3,aNR,storeCells];have:(⟨b,i * R.size+j,none⟩:Addr).add 0=⟨b,i * R.size+j,none⟩:=rfl;rw [this,run_store P w _ u _ κ,asA];simp only [hf,aNm,aNR,aMG,aMP]
 simp only [execOp,ha.ev hx,ha.ev aH,Instr.storeAt,Instr.sureAddr,aML,aMP,aMG,iZ]
theorem Mi {e u:TypeId} {q:Option Addr} (aC:P.underlying t=some (.pointer e)) (hx:ev E x=some (.pointer q)) (aH:ev E y=some (.pointer none)):cF P E ⟨d, .binOp .eql t x y u,ty,pos,aW,g⟩ w (.bool q.isNone) w:=fun n a ha=>by
 have κ:P.underlying t=some (.pointer (P.pointee t)):=by simp [Program.pointee,aC]
 have:(eqGuard .eql t x y (.pointer q) (.pointer none)).run P w= .ok () w:=by cases x<;>cases y<;>rfl
 simp only [execOp,ha.ev hx,ha.ev aH,aML,this,run_eql_pointer_nil w t q κ,aMG,aMP]
def P9 (P:Program) {α:Type} [DecidableEq α] (cells:α→List Value) (t:TypeId):Prop:=∀ (a b:α) (w:World),(binOp .eql t (.agg (cells a).toArray) (.agg (cells b).toArray)).run P w= .ok (.bool (decide (a=b))) w∧(binOp .neq t (.agg (cells a).toArray) (.agg (cells b).toArray)).run P w= .ok (.bool (!decide (a=b))) w
theorem ao2 {o:BinOp} {xs ys:Array Value} (h:P.eqGuardType P.depth t=false):(eqGuard o t x y (.agg xs) (.agg ys)).run P w= .ok () w:=by
 cases o<;>simp [eqGuard,h]
theorem Yd {α:Type} [DecidableEq α] {cells:α→List Value} {u:TypeId} {p q:α} (I2:P9 P cells t) (av:P.eqGuardType P.depth t=false) (hx:ev E x=some (.agg (cells p).toArray)) (aH:ev E y=some (.agg (cells q).toArray)):cF P E ⟨d, .binOp .neq t x y u,ty,pos,aW,g⟩ w (.bool (!decide (p=q))) w:=fun n a ha=>by
 simp only [execOp,ha.ev hx,ha.ev aH,aML,ao2 av,(I2 p q w).2,aMG,aMP]
theorem N5 {u i:Value} (hx:ev E x=some u) (aH:ev E y=some i) (hr:(Instr.index t u i).run P w= .ok v w):cF P E ⟨d, .index t x y,ty,pos,aW,g⟩ w v w:=fun n a ha=>by
 simp only [execOp,ha.ev hx,ha.ev aH,aML,hr,aMG,aMP]
theorem J' {k:IntKind} {i j:Int} {ts:Array TypeId} (hx:ev E x=some (.int k i)) (aH:ev E y=some (.int k j)):cF P E ⟨d, .call {callee:= .builtin .min,args:=#[x,y],argTypes:=ts},ty,pos,aW,g⟩ w (.int k (min i j)) w :=
 bi (vs:= [.int k i, .int k j]) (by simp only [fr,hx,aH]) fun cs=>by
  have:=run_min_int2 (P:=P) (w:=w) ts ty k k i j;simp only [builtin,aML,this,aMG,aMP];congr 3;rw [Int.min_def];split<;>split<;>omega
theorem mx {k:IntKind} {i j:Int} {ts:Array TypeId} (hx:ev E x=some (.int k i)) (aH:ev E y=some (.int k j)):cF P E ⟨d, .call {callee:= .builtin .max,args:=#[x,y],argTypes:=ts},ty,pos,aW,g⟩ w (.int k (max i j)) w :=
 bi (vs:= [.int k i, .int k j]) (by simp only [fr,hx,aH]) fun cs=>by
  have:=run_max_int2 (P:=P) (w:=w) ts ty k k i j;simp only [builtin,aML,this,aMG,aMP];congr 3;rw [Int.max_def];split<;>split<;>omega
end
open Tryz

section
variable {P:Program} {n:Nat} {E:List (Nat×Value)} {a:Act} {w w0:World} {Q:Exit→Act→World→Prop} {ops:Array Oper} {aK:Nat→Nat}
def rJ (r:List Nat) (l:Array Bool):Array Bool:=match r with | []=>l | i::r=>rJ r (l.setIfInBounds i true)
def Bl (ops:Array Oper) (aK:Nat→Nat):List Nat→Array Bool→Bool
 | [],_=>true
 | i::r,l=>(match aK i with
   | 0=>Region.free .any ops l i && (Region.ready .any ops l).contains i && Mf ops aK l i
   | 1=>Region.free .any ops l i && (Region.ready .any ops l).contains i
   | _=>false) && Bl ops aK r (l.setIfInBounds i true)
def E5 (ops:Array Oper) (aK:Nat→Nat) (r:List Nat):Nat→List Nat→Array Bool→Bool
 | 0,R,l=>R.isEmpty && hM ops aK r l
 | f+1,R,l=> !(Region.ready .any ops l).isEmpty && (Region.ready .any ops l).all fun j=>R.contains j && Nat.beq (aK j) 2 && E5 ops aK r f (R.erase j) (l.setIfInBounds j true)
theorem H_ (hs:Region.noSelect ops=true) (eI:∀ c a w,¬ Q (.panic c) a w) {o4:Exit→Act→World→Prop} {m:Nat}:∀ (r:List Nat) (l:Array Bool) (a:Act) (w0:World),l.size=ops.size→Bl ops aK r l=true→xf P ops o4 aK r a w0→
  (∀ a w0,(∀ w,Ext w0 w→o4 .normal a w)→vw P ops Q aK m (rJ r l) a w0)→vw P ops Q aK (r.length+m) l a w0
 | [],l,a,w0,_,_,h,j2=>by rw [aMz,aND];exact j2 a w0 h
 | i::r,l,a,w0,ay,aS,h,j2=>by
  rw [aMw,Nat.succ_add];obtain ⟨o,bl,h⟩:=h;have j6:=aOB hs;rcases h with ⟨aj,v,I,hK⟩ | ⟨aj,v,I,hK⟩ | ⟨aj,h⟩
  ·simp only [Bl,aj,aMF] at aS;obtain ⟨⟨⟨hf,hr⟩,af⟩,aS⟩:=aS;obtain ⟨R,r1,r2,sI⟩:=Ib ay af;exact M9 bl (by omega) j6 eI (fun w0 a=>r5 P ops w0 o v a) (fun _ _ h=>h) (fun _ _ _ h he hw=>h.of_same he hw) (fun _ _ _ hx h=>h.on hx) R l r1 (.inr sI) _ _ _ _ r2 (fun _ h=>h) (aNT bl hf) (by simpa using hr) I
    (H_ hs eI r _ _ _ (by simpa using ay) aS hK j2)
  ·simp only [Bl,aj,aMF] at aS;obtain ⟨⟨hf,hr⟩,aS⟩:=aS;exact M9 bl (by omega) j6 eI (fun _ a=>Yields P ops o v a) (fun _ _ h=>Yields.afm h) (fun _ _ _ h he hw=>h.of_same he hw) (fun _ _ _ _ h=>h) (fun _=>true) l (fun _ _ _ _ _=>Z) (.inl fun _ _ _ h=>h) _ _ _ _ (fun _ _=>Z) (fun _ h=>h) (aNT bl hf) (by simpa using hr) I
    (H_ hs eI r _ _ _ (by simpa using ay) aS hK j2)
  ·obtain ⟨k,lH⟩:∃ k,aK i=k+2:=⟨aK i - 2,by omega⟩;simp only [Bl,lH,Bool.false_and,aNm] at aS
theorem c8.axu {d:Nat} (h:c8 n E a) (hf:look E d=Option.none) (v:Value):c8 n E (a.put (some d) v):=by
 refine ⟨h.d,by simp [Act.put,h.s],fun t u hu=> ?_⟩;have dD:d≠t:=fun e=>by rw [e,hu] at hf;cases hf
 simp only [Act.put];rw [aNY dD];exact h.g t u hu
structure Lx (P:Program) (n:Nat) (ops:Array Oper) (Q:Exit→Act→World→Prop) (E:List (Nat×Value)) (w0:World) (i d:Nat) (Cr:Value→List Nat→World→Prop):Prop where
 mono:∀ v f w w',Cr v f w→Ext w w'→Cr v f w'
 free:look E d=none
 gO:Nat.blt d n=true
 run:∀ (a:Act) (w:World) (K:Act→World→Prop),c8 n E a→Ext w0 w→(∀ v w' f,Ext w w'→(∀ q∈f,w.heap.size≤q∧q<w'.heap.size)→Cr v f w'→K (a.put (some d) v) w')→wpOp P ops (eT (Q .normal)) i K a w
abbrev Made:=Nat×Nat×(Value→List Nat→World→Prop)
theorem aed {vs:Nat→Value} {t:Nat} {v:Value}:∀ {M:List Made},look (M.map (fun x=>(x.2.1,vs x.1))++E) t=some v→(∃ x∈M,x.2.1=t∧vs x.1=v)∨look E t=some v
 | [],h=> .inr h
 | x::M,h=>by
  simp only [aNc,aOU,look] at h;cases af:Nat.beq x.2.1 t with
  | true=>rw [af] at h;exact .inl ⟨x,aM5,aN0 af,aMJ h⟩
  | false =>
   rw [af] at h;rcases aed h with ⟨y,aH,τ⟩ | h
   ·exact .inl ⟨y,aMK _ aH,τ⟩
   ·exact .inr h
theorem TO {α β:Type} {f:α→β}:∀ {l:List α},(l.map f).Nodup→∀ x∈l,∀ y∈l,f x=f y→x=y
 | z::l,h,x,hx,y,aH,e=>by
  rw [aNc,aOF] at h;rcases aMN.1 hx with κ | κ
  ·rcases aMN.1 aH with τ | τ
   ·rw [κ,τ]
   ·exact absurd (aMT.2 ⟨y,τ,by rw [← e,κ]⟩) h.1
  ·rcases aMN.1 aH with τ | τ
   ·exact absurd (aMT.2 ⟨x,κ,by rw [e,τ]⟩) h.1
   ·exact TO h.2 x κ y τ e
theorem akX (hs:Region.noSelect ops=true) {ba:List Nat} (M:List Made) (om:∀ x∈M,Lx P n ops Q E w0 x.1 x.2.1 x.2.2) (vW:(M.map (·.1)).Nodup) (Gb:(M.map (·.2.1)).Nodup)
  (S7:∀ (w:World) (vs:Nat→Value) (fs:Nat→List Nat),Ext w0 w→(∀ x∈M,x.2.2 (vs x.1) (fs x.1) w∧∀ q∈fs x.1,w0.heap.size≤q∧q<w.heap.size)→(∀ x∈M,∀ y∈M,x.1≠y.1→∀ q∈fs x.1,q∈fs y.1→False)→eD P n ops Q aK ba (M.map (fun x=>(x.2.1,vs x.1))++E) w):
  ∀ (f:Nat) (R:List Nat) (l:Array Bool) (a:Act) (w:World) (vs:Nat→Value) (fs:Nat→List Nat),l.size=ops.size→E5 ops aK ba f R l=true→(∀ i∈R,∃ x∈M,x.1=i)→R.Nodup→Ext w0 w→c8 n E a→
   (∀ x∈M,x.1∉R→x.2.2 (vs x.1) (fs x.1) w∧(∀ q∈fs x.1,w0.heap.size≤q∧q<w.heap.size)∧a.tmps[x.2.1]? =some (vs x.1))→
   (∀ x∈M,x.1∉R→∀ y∈M,y.1∉R→x.1≠y.1→∀ q∈fs x.1,q∈fs y.1→False)→vw P ops (eT (Q .normal)) aK (f+ba.length) l a w:=by
 intro f;induction f with
 | zero =>
  intro R l a w vs fs ay aS _ _ hx ha κ τ;simp only [E5,aMF,List.isEmpty_iff] at aS;obtain ⟨rfl,aS⟩:=aS;rw [aND];refine CQ hs (fun _ _ _ h=>h) ba l a w ay aS (S7 w vs fs hx (fun x hx=>⟨(κ x hx (by simp)).1,(κ x hx (by simp)).2.1⟩) (fun x hx y aH=>τ x hx (by simp) y aH (by simp)) a ⟨ha.d,ha.s,fun t v hv=> ?_⟩);rcases aed hv with ⟨x,hx,rfl,rfl⟩ | hv
  ·exact (κ x hx (by simp)).2.2
  ·exact ha.g t v hv
 | succ f bu =>
  intro R l a w vs fs ay aS hR hY hx ha κ τ;rw [Nat.succ_add];simp only [E5,aMF,aNF] at aS;obtain ⟨dD,ej⟩:=aS;refine ⟨fun aB=>(by rw [aB] at dD;cases dD),fun j aw=> ?_⟩;have jq:=aNd.1 ej j aw;simp only [aMF,aOS] at jq;obtain ⟨⟨arz,aj⟩,aS⟩:=jq;have aj:=aN0 aj;obtain ⟨x,TI,rfl⟩:=hR j arz;obtain ⟨_,o,bl,_⟩:=aOZ.1 aw;have mk:=om x TI;refine ⟨o,bl, .inr ⟨by omega,fun aM i_=>mk.run a aM _ ha (hx.nT i_) fun v b' FG yp NI asT=>⟨fun _=>i_.nT yp, ?_⟩⟩⟩;have NA:=mk.gO;rw [aO6] at NA;have JB:∀ y∈M,y.1∉R.erase x.1→y.1≠x.1→y.1∉R:=fun y aH hn dD hm=>hn ((List.mem_erase_of_ne dD).2 hm);have aGC:=hx.size;have gm:=i_.size;have iI:=yp.size;refine bu (R.erase x.1) _ _ b' (fun k=>if k=x.1 then v else vs k) (fun k=>if k=x.1 then FG else fs k) (by simpa using ay) aS (fun i ak=>hR i (aQN ak)) (hY.erase _) ((hx.nT i_).nT yp) (ha.axu mk.free v) (fun y aH hn=> ?_) (fun y aH hn z bo NP dD q I Gf=> ?_)
  ·by_cases he:y.1=x.1
   ·obtain rfl:=TO vW y aH x TI he;simp only [aN5];refine ⟨asT,fun q I=>⟨by have:=(NI q I).1;omega,(NI q I).2⟩, ?_⟩;simp only [Act.put];rw [aPB (by rw [ha.s];exact NA)]
   ·simp only [aMA he];obtain ⟨g1,g2,g3⟩:=κ y aH (JB y aH hn he);refine ⟨(om y aH).mono _ _ _ _ g1 (i_.nT yp),fun q I=>⟨(g2 q I).1,by have:=(g2 q I).2;omega⟩, ?_⟩;have hd:x.2.1≠y.2.1:=fun e=>he (by rw [TO Gb x TI y aH e]);simp only [Act.put];rw [aNY hd];exact g3
  ·by_cases he:y.1=x.1
   ·by_cases sA:z.1=x.1
    ·exact dD (he.trans sA.symm)
    ·simp only [aMI he] at I;simp only [aMA sA] at Gf;have:=(NI q I).1;have:=((κ z bo (JB z bo NP sA)).2.1 q Gf).2;omega
   ·by_cases sA:z.1=x.1
    ·simp only [aMA he] at I;simp only [aMI sA] at Gf;have:=(NI q Gf).1;have:=((κ y aH (JB y aH hn he)).2.1 q I).2;omega
    ·simp only [aMA he] at I;simp only [aMA sA] at Gf;exact τ y aH (JB y aH hn he) z bo (JB z bo NP sA) dD q I Gf
def Wq (P:Program) (ops:Array Oper) (Q:Exit→Act→World→Prop) (aK:Nat→Nat) (B ba:List Nat) (l:Array Bool):Exit→Act→World→Prop
 | .normal,a,w=>Region.noSelect ops=true→l.size=ops.size→E5 ops aK ba B.length B l=true→vw P ops (eT (Q .normal)) aK (B.length+ba.length) l a w
 | _,_,_=>False
theorem GK:∀ (r:List Nat) (l:Array Bool),(rJ r l).size=l.size
 | [],_=>rfl
 | i::r,l=>by unfold rJ;rw [GK r];simp
theorem GH {id:Nat} (hO:List (Nat×Nat)) (Cs B ba:List Nat) (hm:P.follows .mixedOrders=true) (aS:(Region.noSelect ops && (Cs.length+(B.length+ba.length)== ops.size) && Bl ops (j7 hO) Cs (Array.replicate ops.size false) && E5 ops (j7 hO) ba B.length B (rJ Cs (Array.replicate ops.size false)))=true)
  (h:eD P n ops (Wq P ops Q (j7 hO) B ba (rJ Cs (Array.replicate ops.size false))) (j7 hO) Cs E w):W P n (.region id ops true) Q E w:=fun a ha=>by
 simp only [aMF,aNq] at aS;obtain ⟨⟨⟨hs,ay⟩,κ⟩,τ⟩:=aS;refine aQf (aOI hm (Q:=eT (Q .normal)) ?_) (fun e a w I=>by cases e<;>first | exact I | exact I.elim);have:=H_ (P:=P) hs (Q:=eT (Q .normal)) (fun _ _ _ h=>h) (m:=B.length+ba.length) Cs (Array.replicate ops.size false) a w (by simp) κ (h a ha) (fun a w0 dN=>dN w0 (Ext.bM w0) hs (by rw [GK];simp) τ);rw [ay] at this;exact xM _ _ _ _ this _ (aNb _ w).drew
def nodupB:List Nat→Bool
 | []=>true
 | x::r=> !r.elem x && nodupB r
theorem Ui:∀ {l:List Nat},nodupB l=true→l.Nodup
 | [],_=>aPD
 | x::r,h=>by
  simp only [nodupB,aMF,aNF] at h;refine aOF.2 ⟨fun hm=> ?_,Ui h.2⟩;rw [List.elem_iff.2 hm] at h;cases h.1
theorem an {α:Type} {p:α→Prop}:∀ x∈([]:List α),p x:=fun x h=>nomatch h
theorem am {α:Type} {p:α→Prop} {x:α} {l:List α} (h:p x) (k:∀ y∈l,p y):∀ y∈x::l,p y:=aPF.2 ⟨h,k⟩
theorem E7 {ba:List Nat} {l:Array Bool} (M:List Made) (om:∀ x∈M,Lx P n ops Q E w x.1 x.2.1 x.2.2) (NL:nodupB (M.map (·.1))=true) (To:nodupB (M.map (·.2.1))=true) {B:List Nat} (aS:M.map (·.1)=B)
  (S7:∀ (aM:World) (vs:Nat→Value) (fs:Nat→List Nat),Ext w aM→(∀ x∈M,x.2.2 (vs x.1) (fs x.1) aM∧∀ q∈fs x.1,w.heap.size≤q∧q<aM.heap.size)→(∀ x∈M,∀ y∈M,x.1≠y.1→∀ q∈fs x.1,q∈fs y.1→False)→eD P n ops Q aK ba (M.map (fun x=>(x.2.1,vs x.1))++E) aM):
  N n (Wq P ops Q aK B ba l) E w:=fun a ha hs ay af=>by
 subst aS;have vW:=Ui NL;have Gb:=Ui To;refine akX hs M om vW Gb S7 _ _ l a w (fun _=>undef) (fun _=> []) ay af (fun i ak=> ?_) vW (Ext.bM w) ha (fun x hx hn=>absurd (aMT.2 ⟨x,hx,Z⟩) hn) (fun x hx hn=>absurd (aMT.2 ⟨x,hx,Z⟩) hn);obtain ⟨x,hx,e⟩:=aMT.1 ak;exact ⟨x,hx,e⟩
variable {d i:Nat} {ty:TypeId} {pos:String} {aW:Array Edge} {x y z:Operand} {t:TypeId} {v:Value}
theorem Uf {f:FuncId} (hf:Enters P f) {xs:Array Operand} {ts:Array TypeId} {args:List Value} (Cr:Value→List Nat→World→Prop) (ak:ops[i]? =some ⟨some d, .call {callee:= .value (.func f),args:=xs,argTypes:=ts},ty,pos,aW,none⟩) (he:fr E xs.toList=some args) (kB:look E d=none) (hd:Nat.blt d n=true)
  (hm:∀ v f w w',Cr v f w→Ext w w'→Cr v f w') (h:∀ aM,Ext w aM→Calls P f args.toArray aM fun e w'=>∃ v FG,e= .returned v∧Ext aM w'∧(∀ q∈FG,aM.heap.size≤q∧q<w'.heap.size)∧Cr v FG w'):Lx P n ops Q E w i d Cr:=by
 refine ⟨hm,kB,hd,fun a aM K ha hx hK=> ?_⟩;unfold wpOp;simp only [ak];rw [aMI (qG rfl)];refine .inl ?_;unfold Oper.wp;rw [B1 hf ha he];refine aOs (h aM hx) fun e w' dN=> ?_;obtain ⟨v,FG,rfl,g1,g2,g3⟩:=dN;exact hK v w' FG g1 g2 g3
def aDq (cs:List Value) (t:TypeId) (v:Value) (f:List Nat) (w:World):Prop:=∃ b,v= .pointer (some ⟨b,0,none⟩)∧f= [b]∧aO w b cs t (0,0)
end
open Tryz

section
variable {P:Program} {n:Nat} {E cd:List (Nat×Value)} {a:Act} {w w' w0 aM:World} {Q:Exit→Act→World→Prop} {ops:Array Oper}
variable {d:Option Nat} {ty:TypeId} {pos:String} {aW:Array Edge} {g:Option (Nat×Bool)} {x y z u:Operand} {t:TypeId} {rest:List Oper} {v:Value}
theorem Uh {i:Int} (hx:ev E x=some (.int .i64 i)) (h:IntKind.i64.wrap (-i)= -i):cF P E ⟨d, .unOp .neg t x,ty,pos,aW,g⟩ w (.int .i64 (-i)) w:=fun n a ha=>by
 have:(execOp a.eval ⟨d, .unOp .neg t x,ty,pos,aW,g⟩).run P w= .ok (.value (.int .i64 (IntKind.i64.wrap (-i)))) w:=by
  have aB:(0:Int) - i= -i:=Int.zero_sub i;have hu:(Op.unary .neg (.int .i64 i)).run P w= .ok (.int .i64 (IntKind.i64.wrap (-i))) w:=by
   show (Op.intArith .sub .i64 0 i).run P w=_;simp [Op.intArith,aB]
  simp only [execOp,ha.ev hx,aML,hu,aMG,aMP]
 rw [this,h]
theorem ava {k:IntKind} {i j l m:Int} {ts:Array TypeId} (hx:ev E x=some (.int k i)) (aH:ev E y=some (.int k j)) (bo:ev E z=some (.int k l)) (hu:ev E u=some (.int k m)):cF P E ⟨d, .call {callee:= .builtin .max,args:=#[x,y,z,u],argTypes:=ts},ty,pos,aW,g⟩ w (.int k (max (max (max i j) l) m)) w :=
 bi (vs:= [.int k i, .int k j, .int k l, .int k m]) (by simp only [fr,hx,aH,bo,hu]) fun cs=>by
  have e:∀ a b:Int,(if b > a then b else a)=max a b:=fun a b=>by rw [Int.max_def];split<;>split<;>omega
  have:(Builtin.max_ ts ty #[.int k i, .int k j, .int k l, .int k m]).run P w= .ok (.int k (max (max (max i j) l) m)) w:=by
   rw [← e,← e,← e];simp [Builtin.max_,Builtin.max2]
  simp only [builtin,aML,this,aMG,aMP]
end
def Xq (e:MapEntry) (p:Int×Int):Prop:=e.key= .int .i64 p.1∧e.val= .int .i64 p.2
def n9 (w:World) (r:Nat) (l:List (Int×Int)):Prop:=∃ (es:Array MapEntry) (clock:Nat),w.heap[r]? =some (.map es clock)∧dp Xq es.toList l
def cN (l:List (Int×Int)) (k:Int):Option Int:=(l.find? fun p=>p.1 == k).map (·.2)
section
variable {w w':World} {r:Nat} {l:List (Int×Int)} {S:List Nat}
theorem n9.lt (h:n9 w r l):r<w.heap.size:=by
 obtain ⟨es,c,κ,_⟩:=h;exact (aM1.1 κ).1
theorem n9.later (h:n9 w r l) (x:Ext w w'):n9 w' r l:=by
 have ay:=h.lt;obtain ⟨es,c,κ,τ⟩:=h;exact ⟨es,c,by rw [x.block r ay];exact κ,τ⟩
theorem n9.mod (h:n9 w r l) (m:Mod S w w') (hs:r∉S):n9 w' r l:=by
 have ay:=h.lt;obtain ⟨es,c,κ,τ⟩:=h;exact ⟨es,c,by rw [m.block r ay hs];exact κ,τ⟩
theorem RQ (k:Int):∀ {es:List MapEntry} {l:List (Int×Int)} (i:Nat),dp Xq es l→(cN l k=none→Instr.findNow (.int .i64) (.int .i64 k) es i=some none)∧(∀ v,cN l k=some v→∃ j,Instr.findNow (.int .i64) (.int .i64 k) es i=some (some (j, .int .i64 v)))
 | [], [],i,_=>⟨fun _=>rfl,fun v h=>by simp [cN] at h⟩
 | e::es,p::l,i,h=>by
  obtain ⟨⟨aj,hv⟩,τ⟩:=h;have bu:=RQ k (i+1) τ;have NW:Instr.sameNow (.int .i64) (.int .i64 k) e.key=some (decide (k=p.1)):=by
   rw [aj];obtain ⟨q,I,ak⟩:=MapKept.sameNow_of_keys (d:= .int .i64) (a:= .int .i64 k) (b:= .int .i64 p.1) rfl rfl;rw [I];cases q with
   | true=>have:=ak.1 rfl;injection this with _ this;rw [aMV this]
   | false=>rw [aMY fun e=>by have:=ak.2 (by rw [e]);cases this]
  by_cases he:k=p.1
  ·have af:(p.1 == k)=true:=by simp [he]
   rw [aMV he] at NW;refine ⟨fun aB=>by simp [cN,List.find?,af] at aB,fun v aB=>⟨i, ?_⟩⟩;have:p.2=v:=by simpa [cN,List.find?,af] using aB
   simp [Instr.findNow,NW,hv,this]
  ·have af:(p.1 == k)=false:=by simpa using fun e=>he e.symm
   rw [aMY he] at NW;have aT:cN (p::l) k=cN l k:=by simp [cN,List.find?,af]
   rw [aT];simpa [Instr.findNow,NW] using bu
end
section
variable {P:Program} {n:Nat} {E cd:List (Nat×Value)} {a:Act} {w w' w0 aM:World} {Q:Exit→Act→World→Prop} {ops:Array Oper}
variable {d:Option Nat} {ty:TypeId} {pos:String} {aW:Array Edge} {g:Option (Nat×Bool)} {x y z u:Operand} {t:TypeId} {rest:List Oper} {v:Value}
theorem Ug {d:Nat} (hd:Nat.blt d n=true) (h:∀ aM r,Ext w aM→w.heap.size≤r→n9 aM r []→bO P n ops Q rest ((d, .map (some r))::E) aM):bO P n ops Q (⟨some d, .makeMap t none,ty,pos,aW,none⟩::rest) E w:=by
 refine ig (w':=w.alloc (.map #[] 0)) (v:= .map (some w.heap.size)) (fun n a ha=> ?_) hd (h _ _ ((aNb _ w).alloc (aMO _) _) (aMO _) ⟨#[],0,(MapKept.heap_alloc w _).1,trivial⟩);simp only [execOp,Option.map,aML,run_makeMap_plain,aMG,aMP]
theorem lk {JP M4:TypeId} {r:Nat} {l:List (Int×Int)} {k:Int} (hm:P.underlying t=some (.map JP M4)) (aj:P.underlying JP=some (.int .i64)) (he:kO P M4 (.int .i64 0)) (h:n9 w r l) (hx:ev E x=some (.map (some r))) (aH:ev E y=some (.int .i64 k)):
  cF P E ⟨d, .lookup t x y true,ty,pos,aW,g⟩ w (.tuple #[.int .i64 ((cN l k).getD 0), .bool (cN l k).isSome]) w:=fun n a ha=>by
 obtain ⟨es,c,κ,τ⟩:=h;have hf:=RQ k 0 τ;have NF:=aQ6 (P:=P) (w:=w) aj (show MapKept.IsKey (.int .i64) (.int .i64 k) from rfl) es.isEmpty 9999;have kC:(Instr.lookup t (.map (some r)) (.int .i64 k) true).run P w= .ok (.tuple #[.int .i64 ((cN l k).getD 0), .bool (cN l k).isSome]) w:=by
  cases aT:cN l k with
  | none =>
   have:=aPW (P:=P) (w:=w) aj (hf.1 aT);simp [Instr.lookup,aML,aNH hm,aNp κ,NF,this,he w,Result.andThen]
  | some v =>
   obtain ⟨j,aw⟩:=hf.2 v aT;have:=aPW (P:=P) (w:=w) aj aw;simp [Instr.lookup,aML,aNH hm,aNp κ,NF,this,Result.andThen]
 simp only [execOp,ha.ev hx,ha.ev aH,aML,kC,aMG,aMP]
theorem mu {JP M4:TypeId} {r:Nat} {l:List (Int×Int)} {k v:Int} (hm:P.underlying t=some (.map JP M4)) (aj:P.underlying JP=some (.int .i64)) (h:n9 w r l) (aT:cN l k=none) (hx:ev E x=some (.map (some r))) (aH:ev E y=some (.int .i64 k)) (bo:ev E z=some (.int .i64 v))
  (hK:∀ aM,Mod [r] w aM→n9 aM r (l++ [(k,v)])→bO P n ops Q rest E aM):bO P n ops Q (⟨none, .mapUpdate t x y z,ty,pos,aW,none⟩::rest) E w:=by
 have bB:=h.lt;obtain ⟨es,c,κ,τ⟩:=h;have hf:=(RQ k 0 τ).1 aT;have NF:=aQ6 (P:=P) (w:=w) aj (show MapKept.IsKey (.int .i64) (.int .i64 k) from rfl) false 9999;have ard:=aPW (P:=P) (w:=w) aj hf;have tL:=aNM (P:=P) (.map (es.push {key:= .int .i64 k,val:= .int .i64 v,born:=c}) (c+1)) κ;refine us (w':= {w with heap:=w.heap.setIfInBounds r (.map (es.push {key:= .int .i64 k,val:= .int .i64 v,born:=c}) (c+1))}) (fun n a ha=> ?_) (hK _ ⟨Z,Z,Z,by simp,fun q I hn=> ?_⟩ ⟨es.push {key:= .int .i64 k,val:= .int .i64 v,born:=c},c+1,(MapKept.heap_set κ).1, ?_⟩)
 ·have kC:(Instr.mapUpdate t (.map (some r)) (.int .i64 k) (.int .i64 v)).run P w= .ok () {w with heap:=w.heap.setIfInBounds r (.map (es.push {key:= .int .i64 k,val:= .int .i64 v,born:=c}) (c+1))}:=by
   simp [Instr.mapUpdate,aML,aNH hm,aNp κ,NF,ard,tL,Result.andThen]
  simp only [execOp,ha.ev hx,ha.ev aH,ha.ev bo,aML,kC,aMG,aMP]
 ·exact (MapKept.heap_set κ).2 q (by simpa using hn)
 ·rw [Array.toList_push];exact τ.app ⟨⟨Z,Z⟩,trivial⟩
end
theorem avk {w:World} {B e size c m:Nat} {G:Nat→Value→Prop} {z:Array Value} (bo:z.size=size) (aB:0<size) (av:∀ (j:Nat) u,z[j]? =some u→G j u) (aS:B≤w.heap.size) (hm:m≤c) (hc:c≤maxLen):
  Own (w.alloc (.cells (madeCells z (c * size)) e)) B e size G (.slice (some ⟨w.heap.size,0,none⟩) m c) m ((madeCells z (c * size)).toList.take (m * size)):=by
 have aGf:m * size≤c * size:=aNh _ hm;refine ⟨by rw [aME,aNN,aQD];omega, .inr ⟨w.heap.size,c,_,rfl,aS,(MapKept.heap_alloc w _).1,hm,hc,aQD _ _,rfl,fun j u hu=> ?_⟩⟩;have bB:=(aM1.1 hu).1;simp only [madeCells,aPV] at hu;rw [aQD] at bB;rw [aPJ,aMI bB] at hu;have aw:j % size<z.size:=by rw [bo];exact aQo _ aB
 have e:z[j % z.size]! =z[j % size]:=by rw [bo];exact getElem!_pos z (j % size) aw
 rw [aOc,e] at hu;exact av _ _ (by rw [Array.getElem?_eq_getElem aw];exact hu)
section
variable {P:Program} {n:Nat} {E cd:List (Nat×Value)} {a:Act} {w w' w0 aM:World} {Q:Exit→Act→World→Prop} {ops:Array Oper}
variable {d:Nat} {ty:TypeId} {pos:String} {aW:Array Edge} {g:Option (Nat×Bool)} {x y z:Operand} {t:TypeId} {rest:List Oper}
theorem aeo {α:Type} {R:Φ α} {e by_ B m c:Nat} {zv:Value} {l:List α} (bJ:R.Plain) (aC:P.underlying t=some (.slice e)) (ak:(P.info? e).map (fun i=>(i.zero,i.size,i.bytes))=some (some zv,R.size,by_)) (κ:zv.cells.size=R.size) (τ:0<R.size) (aq:∀ (j:Nat) u,zv.cells[j]? =some u→R.raw j u)
  (hx:ev E x=some (.int .i64 (m:Int))) (aH:ev E y=some (.int .i64 (c:Int))) (hd:Nat.blt d n=true) (hm:m≤c) (af:c * by_≤140737488355328) (hc:c≤9223372036854775807) (aS:B≤w.heap.size) (ay:l.length=m) {ess:List (List Value)} (aq7:∀ w,dp (fun es a=>R.has w es a) ess l) (rf:ess.flatten=(madeCells zv.cells (c * R.size)).toList.take (m * R.size))
  (h:∀ aM b,Ext w aM→w.heap.size≤b→R.aL e by_ aM B (Φ.ab (some ⟨b,0,none⟩)) (some ⟨b,0,none⟩) c l→bO P n ops Q rest ((d, .slice (some ⟨b,0,none⟩) m c)::E) aM):bO P n ops Q (⟨some d, .makeSlice t x y,ty,pos,aW,none⟩::rest) E w:=by
 cases I:P.info? e with
 | none=>rw [I] at ak;cases ak
 | some i =>
  rw [I] at ak;simp only [aOc,aPX,aQx] at ak;obtain ⟨i1,i2,i3⟩:=ak;have bq:(i.bytes:Int) * (c:Int)≤281474976710656:=by
   have:i.bytes * c≤281474976710656:=by rw [i3,aOm];omega
   have h:((i.bytes * c:Nat):Int)≤281474976710656:=by omega
   rwa [Int.natCast_mul] at h
  have hr:=run_make (P:=P) w t e i zv aC I i1 .i64 .i64 (m:Int) (c:Int) (by omega) (by omega) bq (by omega);simp only [aNE] at hr;have bl:=avk (w:=w) (e:=e) (c:=c) (m:=m) κ τ aq aS hm (by simp [maxLen];omega);rw [← rf] at bl;subst ay;rw [i2] at hr;refine ig (fun n a ha=> ?_) hd (h _ w.heap.size ((aNb _ w).alloc (aMO _) _) (aMO _) (Φ.aL.GB (R:=R) bJ (aq7 _) (aMR (aNh _ hm) af) bl));simp only [execOp,ha.ev hx,ha.ev aH,aML,hr,aMG,aMP]
theorem avb {α:Type} {R:Φ α} {e by_ B c:Nat} {zv:Value} (bJ:R.Plain) (aC:P.underlying t=some (.slice e)) (ak:(P.info? e).map (fun i=>(i.zero,i.size,i.bytes))=some (some zv,R.size,by_)) (κ:zv.cells.size=R.size) (τ:0<R.size) (aq:∀ (j:Nat) u,zv.cells[j]? =some u→R.raw j u)
  (hx:ev E x=some (.int .i64 0)) (aH:ev E y=some (.int .i64 (c:Int))) (hd:Nat.blt d n=true) (af:c * by_≤140737488355328) (hc:c≤9223372036854775807) (aS:B≤w.heap.size)
  (h:∀ aM b,Ext w aM→w.heap.size≤b→R.aL e by_ aM B (Φ.ab (some ⟨b,0,none⟩)) (some ⟨b,0,none⟩) c ([]:List α)→bO P n ops Q rest ((d, .slice (some ⟨b,0,none⟩) 0 c)::E) aM):bO P n ops Q (⟨some d, .makeSlice t x y,ty,pos,aW,none⟩::rest) E w :=
 aeo (m:=0) (l:=([]:List α)) (ess:= []) bJ aC ak κ τ aq hx aH hd (aNl _) af hc aS rfl (fun _=>trivial) (by simp) h
theorem DL {α:Type} {R:Φ α} {e by_ B c:Nat} {zv:Value} {q:α} (bJ:R.Plain) (aC:P.underlying t=some (.slice e)) (ak:(P.info? e).map (fun i=>(i.zero,i.size,i.bytes))=some (some zv,R.size,by_)) (hs:R.size=1) (κ:zv.cells=#[zv]) (aq:∀ (j:Nat) u,zv.cells[j]? =some u→R.raw j u) (I:∀ w,R.has w [zv] q)
  (hx:ev E x=some (.int .i64 (c:Int))) (aH:ev E y=some (.int .i64 (c:Int))) (hd:Nat.blt d n=true) (af:c * by_≤140737488355328) (hc:c≤9223372036854775807) (aS:B≤w.heap.size)
  (h:∀ aM b,Ext w aM→w.heap.size≤b→R.aL e by_ aM B (Φ.ab (some ⟨b,0,none⟩)) (some ⟨b,0,none⟩) c (List.replicate c q)→bO P n ops Q rest ((d, .slice (some ⟨b,0,none⟩) c c)::E) aM):bO P n ops Q (⟨some d, .makeSlice t x y,ty,pos,aW,none⟩::rest) E w:=by
 refine aeo (m:=c) (ess:=List.replicate c [zv]) bJ aC ak (by rw [κ,hs];rfl) (by omega) aq hx aH hd (aMO _) af hc aS (by simp) (fun w=> ?_) ?_ h
 ·clear h af hc hx aH;induction c with
  | zero=>trivial
  | succ c bu=>exact ⟨I w,bu⟩
 ·rw [hs,aPf,κ];apply aOd;intro i;simp only [aNe,aNw,madeCells,aPV,aPJ];have aR:∀ k:Nat,(List.replicate k [zv]).flatten=List.replicate k zv:=fun k=>by
   induction k with
   | zero=>rfl
   | succ k bu=>simp [aO1,bu]
  rw [aR,aN3];split
  ·simp [Nat.mod_one]
  ·rfl
end
def ez (A:Option Addr) (c lo s:Nat):Option Addr:=if c=lo then A else A.map (·.add (lo * s))
theorem RT {β:Type} {size:Nat}:∀ (lo:Nat) {ess:List (List β)},(∀ x∈ess,x.length=size)→(ess.drop lo).flatten=ess.flatten.drop (lo * size)
 | 0,ess,_=>by simp
 | lo+1, [],_=>by simp
 | lo+1,x::ess,h=>by
  have hx:=h x aM5;rw [aQW,RT lo fun y aH=>h y (aMK _ aH),aNr,aNU,aPn,← List.drop_drop];congr 1;rw [List.drop_append_of_le_length (by omega),aQI (by omega)];rfl
theorem Nb {β:Type} {size:Nat}:∀ (n:Nat) {ess:List (List β)},(∀ x∈ess,x.length=size)→(ess.take n).flatten=ess.flatten.take (n * size)
 | 0,ess,_=>by simp
 | n+1, [],_=>by simp
 | n+1,x::ess,h=>by
  have hx:=h x aM5;have e:(n+1) * size=size+n * size:=by rw [aNU,aPn]
  rw [aPM,aNr,Nb n fun y aH=>h y (aMK _ aH),aNr,e,aQa,hx,Nat.add_sub_cancel_left,aMU (by rw [hx];omega:x.length≤size+n * size)]
theorem dp.drop {α β:Type} {P:β→α→Prop}:∀ (n:Nat) {l:List β} {m:List α},dp P l m→dp P (l.drop n) (m.drop n)
 | 0,_,_,h=>h
 | n+1, [], [],_=>trivial
 | n+1,_::_,_::_,h=>dp.drop n h.2
theorem dp.take {α β:Type} {P:β→α→Prop}:∀ (n:Nat) {l:List β} {m:List α},dp P l m→dp P (l.take n) (m.take n)
 | 0,_,_,_=>trivial
 | n+1, [], [],_=>trivial
 | n+1,_::_,_::_,h=>⟨h.1,dp.take n h.2⟩
theorem Φ.aQ.sub {α:Type} {R:Φ α} {by_ c:Nat} {A:Option Addr} {l:List α} {w:World} (h:R.aQ by_ w A c l) (lo ak:Nat) (κ:lo≤ak) (τ:ak≤l.length):R.aQ by_ w (ez A c lo R.size) (c - lo) ((l.drop lo).take (ak - lo)):=by
 obtain ⟨g1,g2,g3,g4,ess,g5,g6⟩:=h;have hlen:((l.drop lo).take (ak - lo)).length=ak - lo:=by rw [aME,aM9];omega
 have hu:∀ x∈ess,x.length=R.size:=fun x hx=>by obtain ⟨a,ha⟩:=g5.left x hx;exact R.len ha
 refine ⟨by rw [hlen];omega,by omega,by rw [hlen];exact aMR (aNh _ (by omega)) g3,fun hn=> ?_,(ess.drop lo).take (ak - lo),(g5.drop lo).take _, ?_⟩
 ·unfold ez at hn;split at hn
  ·omega
  ·cases A with
   | none=>have:=g4 rfl;omega
   | some a=>cases hn
 ·have asC:∀ x∈ess.drop lo,x.length=R.size:=fun x hx=>hu x (aQR hx);have F8:ess.length=l.length:=g5.length;rw [Nb _ asC,RT _ hu,hlen];have rf:=C_ hu;refine ⟨?_,fun aB=> ?_⟩
  ·rw [aME,aM9,rf,F8,← Nat.sub_mul,aO0 (aNh _ (by omega))]
  ·obtain ⟨b,o,rfl,hc⟩:=g6.2 (by omega);have dD:¬ c=lo:=by omega
   refine ⟨b,o+lo * R.size,by unfold ez;rw [aMA dD];simp [Addr.add],fun j u aw=> ?_⟩;rw [aNe] at aw;split at aw
   ·rw [aNz] at aw;rw [aOW];exact hc _ u aw
   ·cases aw
section
variable {P:Program} {n:Nat} {E cd:List (Nat×Value)} {w:World} {d:Option Nat} {ty:TypeId} {pos:String} {aW:Array Edge} {g:Option (Nat×Bool)} {x y z:Operand} {t:TypeId}
theorem ayp {A:Option Addr} {len cap e s:Nat} {k k':IntKind} (lo ak:Nat) {i j:Int} (aC:P.underlying t=some (.slice e)) (hs:eN P e s) (hx:ev E x=some (.slice A len cap)) (aH:ev E y=some (.int k i)) (bo:ev E z=some (.int k' j)) (zZ:i=(lo:Int)) (Ds:j=(ak:Int)) (κ:lo≤ak) (τ:ak≤cap):
  cF P E ⟨d, .slice t x (some y) (some z) none,ty,pos,aW,g⟩ w (.slice (ez A cap lo s) (ak - lo) (cap - lo)) w:=fun n a ha=>by
 subst zZ;subst Ds;have kX:P.underlying t=some (.slice (P.elem t)):=by simp [Program.elem,aC]
 have nP:P.elem t=e:=by simp [Program.elem,aC]
 have aq:=run_slice_lh (P:=P) (w:=w) t A len cap kX k k' (lo:Int) (ak:Int) (by omega) (by omega) (by omega);have bb:=aOP (P:=P) (w:=w) t (.slice A len cap) (some (.int k (lo:Int))) (some (.int k' (ak:Int))) none kX;rw [nP,hs w] at aq;simp only [execOp,ha.ev hx,ha.ev aH,ha.ev bo,Option.map,bb,aq,aML,aMG,aMP,sliced,aNE,ez]
end
open Tryz

section
variable {P:Program} {n:Nat} {E cd:List (Nat×Value)} {a:Act} {w w' w0 aM:World} {Q:Exit→Act→World→Prop} {ops:Array Oper}
variable {d:Option Nat} {ty:TypeId} {pos:String} {aW:Array Edge} {g:Option (Nat×Bool)} {x y z:Operand} {t:TypeId} {rest:List Oper} {v:Value}
theorem ayi {f:FuncId} (hf:Enters P f) {xs:Array Operand} {ts:Array TypeId} {args zy:List Value} {a:Act} (ha:c8 n E a) (hx:ev E x=some (.func (.func f) #[] zy.toArray)) (he:fr E xs.toList=some args):
  (execOp a.eval ⟨d, .call {callee:= .value x,args:=xs,argTypes:=ts},ty,pos,aW,g⟩).run P w= .ok (.enter f (args++zy).toArray) w:=by
 obtain ⟨fn,κ,τ,aq⟩:=hf;have hm:xs.map a.eval=args.toArray:=by rw [← ha.fr he];apply aNW;simp
 have hp:Sem.run P program w= .ok P w:=rfl;unfold execOp;simp only [resolve,invoke,Deferred.ofValue,ha.ev hx,callFunc,aML,aMP,aMG,hm,hp,κ,τ,aq,aPa,aNm,aNR];simp
theorem Rb {d:Nat} {f:FuncId} (hf:Enters P f) {xs:Array Operand} {ts:Array TypeId} {args zy:List Value} (hx:ev E x=some (.func (.func f) #[] zy.toArray)) (he:fr E xs.toList=some args) (hd:Nat.blt d n=true)
  (h:Calls P f (args++zy).toArray w fun e w'=>∃ v,e= .returned v∧bO P n ops Q rest ((d,v)::E) w'):bO P n ops Q (⟨some d, .call {callee:= .value x,args:=xs,argTypes:=ts},ty,pos,aW,none⟩::rest) E w:=fun a ha=>by
 refine xL Z ?_;unfold Oper.wp;rw [ayi hf ha hx he];refine aOs h fun e w' dN=> ?_;obtain ⟨v,rfl,h⟩:=dN;exact h _ (ha.put hd v)
theorem ne {fn:Func} {R:Ending→World→Prop} (h:T n (bodyPost P fn R) E w):N n (bodyPost P fn R) E w:=fun a ha=>h a ha
end
def Raw (az size j:Nat) (w:World) (A:Option Addr) (c:Nat):Prop :=
 (A=none∧c=0)∨∃ (b:Nat) (cur:List Value) (e:TypeId),A=some ⟨b,0,none⟩∧az≤b∧aO w b cur e (0,0)∧∀ i,i<c→∃ m:Int,cur[i * size+j]? =some (.int .i64 m)
section
variable {w w':World} {az size j c i:Nat} {A:Option Addr} {S:List Nat}
theorem Raw.lt (h:Raw az size j w A c):∀ q∈Φ.ab A,az≤q∧q<w.heap.size:=by
 intro q I;rcases h with ⟨rfl,_⟩ | ⟨b,cur,e,rfl,κ,τ,_⟩
 ·simp [Φ.ab] at I
 ·obtain rfl:q=b:=aMu.1 I;exact ⟨κ,τ.lt⟩
theorem Raw.later (h:Raw az size j w A c) (x:Ext w w'):Raw az size j w' A c:=by
 rcases h with h | ⟨b,cur,e,κ,τ,aq,bb⟩
 ·exact .inl h
 ·exact .inr ⟨b,cur,e,κ,τ,aq.later x,bb⟩
theorem Raw.bx (h:Raw az size j w A c) (aB:0<c):A=some ⟨et A,jO A,none⟩:=by
 rcases h with ⟨_,h⟩ | ⟨b,cur,e,rfl,_⟩
 ·omega
 ·rfl
theorem Raw.get (h:Raw az size j w A c) (ak:i<c):∃ m:Int,w.cell? ⟨et A,jO A+i * size+j,none⟩=some (.int .i64 m):=by
 rcases h with ⟨_,h⟩ | ⟨b,cur,e,rfl,_,aq,bb⟩
 ·omega
 ·obtain ⟨m,hm⟩:=bb i ak;exact ⟨m,by rw [show (⟨et (some ⟨b,0,none⟩),jO (some ⟨b,0,none⟩)+i * size+j,none⟩:Addr)=⟨b,i * size+j,none⟩ from by simp [et,jO],aq.cell,hm]⟩
end
open Tryz
section
variable {B S:List Nat} {a id m o:Nat} {l:List Oper} {cur cs:List Value} {e:TypeId}
theorem bk {b n:Nat} (u:∀ q∈B,q<n) (h:n≤b:=by omega):∀ q∈B,q∈ [b]→False:=fun q I af=>by have:=u q I;have:=aMu.1 af;omega
theorem bG {b n:Nat} (u:∀ q∈B,n≤q) (h:b<n:=by omega):∀ q∈B,q∈ [b]→False:=fun q I af=>by have:=u q I;have:=aMu.1 af;omega
theorem aY {b:Nat} (h:a≠b:=by omega):a∉ [b]:=fun e=>h (aMu.1 e)
section
variable {P:Program} {n:Nat} {ops:Array Oper} {Q:Exit→Act→World→Prop} {E:List (Nat×Value)} {w w' w0:World} {v:Value} {ty:TypeId} {pos:String} {aW:Array Edge} {x:Operand} {rest:List Oper} {d i:Nat} {ba:List Nat} {aK:Nat→Nat}
theorem aJ {y:Code} (h:W P n y Q E w):bO P n ops (lB P y Q) [] E w:=nl (br h)
theorem aG {y:Code} (h:bO P n l.toArray (lB P y Q) l E w):W P n (.seq (.region id l.toArray false) y) Q E w:=aI (rg h)
theorem bF {y:Code} (h:W P n y Q E w):W P n .skip (lB P y Q) E w:=gb (br h)
theorem aa {op:Op} (hr:cF P E ⟨some d,op,ty,pos,aW,none⟩ w v w') (h:bO P n ops Q rest ((d,v)::E) w') (hd:Nat.blt d n=true:=by rfl):bO P n ops Q (⟨some d,op,ty,pos,aW,none⟩::rest) E w:=ig hr hd h
theorem vm (hx:ev E x=some v) (h:bO P n ops Q rest ((d,v)::E) w) (hd:Nat.blt d n=true:=by rfl):bO P n ops Q (⟨some d, .move x,ty,pos,aW,none⟩::rest) E w:=ig (jx hx) hd h
theorem va (hx:ev E x=some v) (h:bO P n ops Q rest ((d,v)::E) w) (hd:Nat.blt d n=true:=by rfl):bO P n ops Q (⟨some d, .assign x,ty,pos,aW,none⟩::rest) E w:=ig (eQ hx) hd h
theorem ax {op:Op} (ak:ops[i]? =some ⟨some d,op,ty,pos,aW,none⟩) (hr:∀ w,cF P E ⟨some d,op,ty,pos,aW,none⟩ w v w) (h:eD P n ops Q aK ba ((d,v)::E) w0) (aj:aK i=1:=by rfl) (hd:Nat.blt d n=true:=by rfl):eD P n ops Q aK (i::ba) E w0:=ki ak aj hr hd h
theorem cR {op:Op} (ak:ops[i]? =some ⟨some d,op,ty,pos,aW,none⟩) (hr:∀ w,Ext w0 w→cF P E ⟨some d,op,ty,pos,aW,none⟩ w v w) (h:eD P n ops Q aK ba ((d,v)::E) w0) (aj:aK i=0:=by rfl) (hd:Nat.blt d n=true:=by rfl):eD P n ops Q aK (i::ba) E w0:=RY ak aj hr hd h
end
theorem ib:∀ {cd E:List (Nat×Value)},cd.map (fun p=>look E p.1)=cd.map (fun p=>some p.2)→Sub cd E
 | [],_,_=>Sub.nil
 | (k,v)::r,E,h=>have cp:look E k::r.map (fun p=>look E p.1)=some v::r.map (fun p=>some p.2):=h
  Sub.cons (aPQ cp).1 (ib (aPQ cp).2)
theorem cq:(∀ (a b:Bool),((a || b)=true)↔(a=true∨b=true))∧(∀ (a b:Bool),((a || b)=false)↔(a=false∧b=false))∧(∀ (a b:Bool),((a && b)=true)↔(a=true∧b=true))∧(∀ (a b:Bool),((a && b)=false)↔(a=false∨b=false))∧(∀ (p:Prop) [Decidable p],(decide p=true)↔p)∧(∀ (p:Prop) [Decidable p],(decide p=false)↔¬ p)∧(∀ (α:Type) [BEq α] [LawfulBEq α] (a b:α),((a == b)=true)↔(a=b))∧(∀ (α:Type) [BEq α] [LawfulBEq α] (a b:α),((a != b)=true)↔(a≠b))∧(∀ (α:Type) [BEq α] [LawfulBEq α] (a b:α),((a == b)=false)↔(a≠b))∧(∀ (α:Type) [BEq α] [LawfulBEq α] (a b:α),((a != b)=false)↔(a=b))∧(∀ b:Bool,((!b)=true)↔(b=false))∧(∀ b:Bool,((!b)=false)↔(b=true))∧(∀ b:Bool,(¬ (b=true))↔(b=false))∧(∀ b:Bool,(¬ (b=false))↔(b=true))∧(∀ a b:Int,(¬ a<b)↔b≤a)∧(∀ a b:Int,(¬ a≤b)↔b<a)∧(∀ a b:Nat,(¬ a<b)↔b≤a)∧(∀ a b:Nat,(¬ a≤b)↔b<a)∧(∀ (α:Type) (a b:α),(a≠b)↔¬ (a=b))∧(∀ p:Prop,(¬ ¬ p)↔p):=
 ⟨fun a b=>by cases a<;>cases b<;>simp,fun a b=>by cases a<;>cases b<;>simp,fun a b=>by cases a<;>cases b<;>simp,fun a b=>by cases a<;>cases b<;>simp,fun p _=>by simp,fun p _=>by simp,fun α _ _ a b=>by simp,fun α _ _ a b=>by simp,fun α _ _ a b=>by simp,fun α _ _ a b=>by simp,fun b=>by simp,fun b=>by simp,fun b=>by simp,fun b=>by simp,fun _ _=>Int.not_lt,fun _ _=>Int.not_le,fun _ _=>Nat.not_lt,fun _ _=>Nat.not_le,fun _ _ _=>Iff.rfl,fun _=>Classical.not_not⟩
theorem a1 (j:Nat) {n:Nat} (h:j<n:=by omega):0<n:=Nat.zero_lt_of_lt h
theorem rp {E:List (Nat×Value)} {t:Nat} {k:IntKind} {i j:Int} (h:look E t=some (.int k i)) (e:i=j:=by first | omega | rfl | (simp<;>omega)):look E t=some (.int k j):=BJ h e
theorem J {a b c:World} (h:Ext a b) (k:Ext b c):Ext a c:=Ext.nT h k
theorem bE {b n:Nat} (h:n≤b:=by omega):∀ q∈ [b],n≤q:=fun q I=>by rw [aMu.1 I];exact h
abbrev a_ (b:Nat):Option Addr:=some ⟨b,0,none⟩
abbrev γ (x:Int):Value:= .int .i64 x
def p3 (ops:Array Oper) (E:List (Nat×Value)) (j:Nat):Option Value:=ops[j]?.bind fun o=>o.dst.bind fun d=>look E d
theorem Nj {ops:Array Oper} {E:List (Nat×Value)} {j:Nat} {v:Value} (h:p3 ops E j=some v):∃ cI iU,ops[j]? =some cI∧cI.dst=some iU∧look E iU=some v:=by
 unfold p3 at h;cases κ:ops[j]? with
 | none=>rw [κ] at h;cases h
 | some o =>
  rw [κ] at h;cases τ:o.dst with
  | none=>simp [τ] at h
  | some d=>exact ⟨o,d,rfl,τ,by simpa [τ] using h⟩
theorem aFs {ops:Array Oper} {E:List (Nat×Value)} {j:Nat} {b c:Bool} (h:p3 ops E j=some (.bool b)) (e:b=c):p3 ops E j=some (.bool c):=by rw [h,e]
theorem tO {a b c:World} (x:Ext a b) (m:Mod S b c):Mod S a c:=(Mod.aP x).trans m
theorem ud {a b c:World} (m:Mod S a b) (x:Ext b c):Mod S a c:=m.trans (Mod.aP x)
theorem fX {T:List Nat} (d:∀ q∈S,q∈T→False):∀ q∈T,q∈S→False:=fun q h k=>d q k h
theorem aFb {b:Nat} (d:∀ q,q=b→q∈S→False):∀ q∈S,q=b→False:=fun q h k=>d q k h
theorem gp {T:List Nat} {b n:Nat} (g:∀ q∈T,q∈S∨n≤q) (d:∀ q∈S,q=b→False) (h:b<n:=by omega):∀ q∈T,q=b→False:=fun q I af=>(g q I).elim (fun k=>d q k af) fun k=>by omega
theorem oJ {T U:List Nat} {n:Nat} (g:∀ q∈T,q∈S∨n≤q) (d:∀ q∈S,q∈U→False) (u:∀ q∈U,q<m) (h:m≤n:=by omega):∀ q∈T,q∈U→False:=fun q I af=>(g q I).elim (fun k=>d q k af) fun k=>by have:=u q af;omega
theorem cY {b:Nat} (d:∀ q∈S,q=b→False):∀ q∈S,q∈ [b]→False:=fun q I h=>d q I (aMu.1 h)
theorem bY {b:Nat} (h:∀ q∈S,a≤q∧q<b):∀ q∈S,q<b:=fun q I=>(h q I).2
theorem dJ {b:Nat} (h:∀ q∈S,a≤q∧q<b):∀ q∈S,a≤q:=fun q I=>(h q I).1
section
variable {P:Program} {n:Nat} {ops:Array Oper} {Q:Exit→Act→World→Prop} {E:List (Nat×Value)} {w w' w0:World} {v:Value} {ty:TypeId} {pos:String} {aW:Array Edge} {x y:Operand} {rest:List Oper} {d i j:Nat} {ba:List Nat} {aK:Nat→Nat} {op:Op} {q b:Bool} {f:FuncId} {xs:Array Operand} {ts:Array TypeId} {args:List Value} {t:TypeId}
theorem cb (af:p3 ops E j=some (.bool b)) (hr:(b == q)=true→cF P E ⟨some d,op,ty,pos,aW,some (j,q)⟩ w v w) (h:bO P n ops Q rest ((d,eb (b == q) v)::E) w) (hd:Nat.blt d n=true:=by rfl):bO P n ops Q (⟨some d,op,ty,pos,aW,some (j,q)⟩::rest) E w:=by
 obtain ⟨_,_,κ,τ,aq⟩:=Nj af;exact az6 κ τ aq Z hr hd h
theorem aKX (af:p3 ops E j=some (.bool b)) (hx:(b == q)=true→ev E x=some v) (h:bO P n ops Q rest ((d,eb (b == q) v)::E) w) (hd:Nat.blt d n=true:=by rfl):bO P n ops Q (⟨some d, .move x,ty,pos,aW,some (j,q)⟩::rest) E w:=cb af (fun hc=>jx (hx hc)) h hd
theorem gw (af:p3 ops E j=some (.bool b)) (hx:ev E x=some v) (h:bO P n ops Q rest ((d,eb (b == q) v)::E) w) (hd:Nat.blt d n=true:=by rfl):bO P n ops Q (⟨some d, .move x,ty,pos,aW,some (j,q)⟩::rest) E w:=cb af (fun _=>jx hx) h hd
theorem yO (af:p3 ops E j=some (.bool b)) (h:bO P n ops Q rest ((d,eb (b == q) undef)::E) w) (I:(b == q)=false:=by rfl) (hd:Nat.blt d n=true:=by rfl):bO P n ops Q (⟨some d,op,ty,pos,aW,some (j,q)⟩::rest) E w:=cb af (fun hc=>by rw [I] at hc;cases hc) h hd
theorem de (hf:Enters P f) (he:fr E xs.toList=some args) (h:Calls P f args.toArray w fun e w'=>e= .returned v∧Ext w w') (k:∀ w',Ext w w'→bO P n ops Q rest ((d,v)::E) w') (hd:Nat.blt d n=true:=by rfl):bO P n ops Q (⟨some d, .call {callee:= .value (.func f),args:=xs,argTypes:=ts},ty,pos,aW,none⟩::rest) E w :=
 ca hf he hd (h.mono fun e w' g=>⟨v,g.1,k w' g.2⟩)
theorem yN (af:p3 ops E j=some (.bool b)) (hf:Enters P f) (he:(b == q)=true→fr E xs.toList=some args) (hr:(b == q)=true→Calls P f args.toArray w fun e w'=>e= .returned v∧Ext w w') (h:∀ w',Ext w w'→bO P n ops Q rest ((d,eb (b == q) v)::E) w') (hd:Nat.blt d n=true:=by rfl):bO P n ops Q (⟨some d, .call {callee:= .value (.func f),args:=xs,argTypes:=ts},ty,pos,aW,some (j,q)⟩::rest) E w:=by
 obtain ⟨_,_,κ,τ,aq⟩:=Nj af;exact az5 κ τ aq Z hf he hr hd h
theorem dB (ak:ops[i]? =some ⟨some d,op,ty,pos,aW,some (j,q)⟩) (af:p3 ops E j=some (.bool b)) (hr:(b == q)=true→∀ w,Ext w0 w→cF P E ⟨some d,op,ty,pos,aW,some (j,q)⟩ w v w) (h:eD P n ops Q aK ba ((d,eb (b == q) v)::E) w0) (aj:aK i=0:=by rfl) (hd:Nat.blt d n=true:=by rfl):eD P n ops Q aK (i::ba) E w0:=by
 obtain ⟨_,_,κ,τ,aq⟩:=Nj af;exact ao4 ak aj κ τ aq Z hr hd h
theorem bQ (ak:ops[i]? =some ⟨some d,op,ty,pos,aW,some (j,q)⟩) (af:p3 ops E j=some (.bool b)) (hr:(b == q)=true→∀ w,cF P E ⟨some d,op,ty,pos,aW,some (j,q)⟩ w v w) (h:eD P n ops Q aK ba ((d,eb (b == q) v)::E) w0) (aj:aK i=1:=by rfl) (hd:Nat.blt d n=true:=by rfl):eD P n ops Q aK (i::ba) E w0:=by
 obtain ⟨_,_,κ,τ,aq⟩:=Nj af;exact ao5 ak aj κ τ aq Z hr hd h
theorem aE7 (ak:ops[i]? =some ⟨some d, .move x,ty,pos,aW,some (j,q)⟩) (af:p3 ops E j=some (.bool b)) (hx:(b == q)=true→ev E x=some v) (h:eD P n ops Q aK ba ((d,eb (b == q) v)::E) w0) (aj:aK i=1:=by rfl) (hd:Nat.blt d n=true:=by rfl):eD P n ops Q aK (i::ba) E w0:=bQ ak af (fun hc _=>jx (hx hc)) h aj hd
theorem eP (ak:ops[i]? =some ⟨some d, .move x,ty,pos,aW,some (j,q)⟩) (af:p3 ops E j=some (.bool b)) (hx:ev E x=some v) (h:eD P n ops Q aK ba ((d,eb (b == q) v)::E) w0) (aj:aK i=1:=by rfl) (hd:Nat.blt d n=true:=by rfl):eD P n ops Q aK (i::ba) E w0:=bQ ak af (fun _ _=>jx hx) h aj hd
theorem cT (ak:ops[i]? =some ⟨some d,op,ty,pos,aW,some (j,q)⟩) (af:p3 ops E j=some (.bool b)) (h:eD P n ops Q aK ba ((d,eb (b == q) undef)::E) w0) (I:(b == q)=false:=by rfl) (aj:aK i=1:=by rfl) (hd:Nat.blt d n=true:=by rfl):eD P n ops Q aK (i::ba) E w0:=bQ ak af (fun hc=>by rw [I] at hc;cases hc) h aj hd
theorem iX (ak:ops[i]? =some ⟨some d,op,ty,pos,aW,some (j,q)⟩) (af:p3 ops E j=some (.bool b)) (h:eD P n ops Q aK ba ((d,eb (b == q) undef)::E) w0) (I:(b == q)=false:=by rfl) (aj:aK i=0:=by rfl) (hd:Nat.blt d n=true:=by rfl):eD P n ops Q aK (i::ba) E w0:=dB ak af (fun hc=>by rw [I] at hc;cases hc) h aj hd
theorem bn (ak:ops[i]? =some ⟨some d, .move x,ty,pos,aW,none⟩) (hx:ev E x=some v) (h:eD P n ops Q aK ba ((d,v)::E) w0) (aj:aK i=1:=by rfl) (hd:Nat.blt d n=true:=by rfl):eD P n ops Q aK (i::ba) E w0:=ki ak aj (fun _=>jx hx) hd h
theorem du (hO:List (Nat×Nat)) (ba:List Nat) (h:eD P n ops Q (j7 hO) ba E w) (hm:P.follows .mixedOrders=true:=by kernel_rfl) (aS:(Region.noSelect ops && (ba.length == ops.size) && hM ops (j7 hO) ba (Array.replicate ops.size false))=true:=by kernel_rfl):W P n (.region id ops true) Q E w:=rd hO ba hm aS h
theorem c6 {c:Nat} (hx:ev E x=some (.pointer (some ⟨c,0,none⟩))) (aH:ev E y=some v) (aS:aO w c cur e (0,0)) (hc:v.cells=cs.toArray) (hs:eN P t cs.length) (κ:cs.all (·.oneCell')=true) (ay:Nat.beq cs.length cur.length=true)
  (h:∀ aM,Mod [c] w aM→aO aM c cs e (0,0)→bO P n ops Q rest E aM):bO P n ops Q (⟨none, .store t x y,ty,pos,aW,none⟩::rest) E w :=
 st (new:=cs) hx aH aS hc hs κ (by rw [aND,aN0 ay];exact Nat.ble_eq_true_of_le (aMO _)) (by rw [aND,aN0 ay,List.take_zero,List.drop_length,aN4,aM4]) h
theorem bA {c:Nat} (hx:ev E x=some (.pointer (some ⟨c,o,none⟩))) (aS:aO w c cs e (0,0)) (ha:eB P t false) (hv:cs[o]? =some v) (h:bO P n ops Q rest ((d,v)::E) w) (hd:Nat.blt d n=true:=by rfl):bO P n ops Q (⟨some d, .load t x,ty,pos,aW,none⟩::rest) E w:=ig (aA hx (aS.one ha hv)) hd h
theorem cO {c:Nat} (ak:ops[i]? =some ⟨some d, .load t x,ty,pos,aW,none⟩) (hx:ev E x=some (.pointer (some ⟨c,o,none⟩))) (aS:aO w0 c cs e (0,0)) (ha:eB P t false) (hv:cs[o]? =some v) (h:eD P n ops Q aK ba ((d,v)::E) w0) (aj:aK i=0:=by rfl) (hd:Nat.blt d n=true:=by rfl):eD P n ops Q aK (i::ba) E w0:=RY ak aj (fun _ x=>aA hx ((aS.later x).one ha hv)) hd h
theorem fH {p c:Nat} (hx:ev E x=some (.pointer (some ⟨c,p,none⟩))) (aH:ev E y=some v) (aS:aO w c cur e (0,0)) (hc:v.cells= [v].toArray) (hs:eN P t 1) (κ:v.oneCell'=true) (ay:Nat.ble (p+1) cur.length=true)
  (h:∀ aM,Mod [c] w aM→aO aM c (cur.set p v) e (0,0)→bO P n ops Q rest E aM):bO P n ops Q (⟨none, .store t x y,ty,pos,aW,none⟩::rest) E w :=
 st (new:=cur.set p v) hx aH aS hc hs (by simp [κ]) ay (by rw [aOJ,aMI (show p<cur.length from aNZ ay)];simp) h
end
section
variable {P:Program} {n:Nat} {ops:Array Oper} {Q:Exit→Act→World→Prop} {E:List (Nat×Value)} {w:World} {v:Value} {ty:TypeId} {pos:String} {aW:Array Edge} {x y:Operand} {rest:List Oper} {d k:Nat} {t u:TypeId} {eL:IntKind} {i j:Int} {c:Code}
def adK:List (Nat×Value)→Option (Nat×Value)
 | []=>none
 | [a]=>some a
 | _::b::l=>adK (b::l)
def JG:List (Nat×Value)→List (Nat×Value)
 | []=> []
 | [_]=> []
 | a::b::l=>a::JG (b::l)
theorem eV:∀ {cd:List (Nat×Value)},(JG cd).map (fun p=>look E p.1)=(JG cd).map (fun p=>some p.2)→adK cd=some (k, .int eL j)→look E k=some (.int eL i)→(_:i=j:=by first | omega | rfl | (simp<;>omega))→Sub cd E
 | [],_,_,_,_=>Sub.nil
 | [(a,b)],_,ay,τ,e=>by
  cases ay;exact Sub.cons (BJ τ e) Sub.nil
 | (a,b)::r::l,h,ay,τ,e =>
  have cp:look E a::(JG (r::l)).map (fun p=>look E p.1)=some b::(JG (r::l)).map (fun p=>some p.2):=h
  Sub.cons (aPQ cp).1 (eV (aPQ cp).2 ay τ e)
theorem fi (hx:ev E x=some (.int .i64 i)) (aH:ev E y=some (.int .i64 j)) (h:bO P n ops Q rest ((d, .int .i64 (i+j))::E) w) (hr: -9223372036854775808≤i+j∧i+j≤9223372036854775807:=by omega) (hd:Nat.blt d n=true:=by rfl):bO P n ops Q (⟨some d, .binOp .add t x y u,ty,pos,aW,none⟩::rest) E w:=ig (bad hx aH (la hr)) hd h
theorem eR {e:Nat} {z:Operand} {agl:TypeId} {pos':String} {XC:Array Edge} (hx:ev E x=some (.int .i64 i)) (aH:ev E y=some (.int .i64 j)) (hm:ev ((d, .int .i64 (i+j))::E) z=some v) (h:N n Q ((e,v)::(d, .int .i64 (i+j))::E) w) (hr: -9223372036854775808≤i+j∧i+j≤9223372036854775807:=by omega) (hd:Nat.blt d n=true:=by rfl) (he:Nat.blt e n=true:=by rfl):N n (lB P (.region id [⟨some d, .binOp .add t x y u,ty,pos,aW,none⟩,⟨some e, .move z,agl,pos',XC,none⟩].toArray false) Q) E w:=br (rg (fi hx aH (vm hm (nl h) he) hr hd))
theorem b2 {l:List Value} (hx:ev E x=some (.tuple l.toArray)) (aj:l[k]? =some v) (h:bO P n ops Q rest ((d,v)::E) w) (hd:Nat.blt d n=true:=by rfl):bO P n ops Q (⟨some d, .extract x k,ty,pos,aW,none⟩::rest) E w:=ig (ex hx aj) hd h
theorem fI (hx:ev E x=some (.int eL i)) (aH:ev E y=some (.int eL j)) (h:bO P n ops Q rest ((d, .bool (decide (i<j)))::E) w) (hd:Nat.blt d n=true:=by rfl):bO P n ops Q (⟨some d, .binOp .lss t x y u,ty,pos,aW,none⟩::rest) E w:=ig (blt hx aH) hd h
theorem gJ (hx:ev E x=some (.int eL i)) (aH:ev E y=some (.int eL j)) (h:bO P n ops Q rest ((d, .bool (i != j))::E) w) (hd:Nat.blt d n=true:=by rfl):bO P n ops Q (⟨some d, .binOp .neq t x y u,ty,pos,aW,none⟩::rest) E w:=ig (bne hx aH) hd h
theorem aU (hx:ev E x=some v) (h:W P n c Q ((d,v)::E) w) (hd:Nat.blt d n=true:=by rfl):bO P n ops (lB P c Q) [⟨some d, .assign x,ty,pos,aW,none⟩] E w:=va hx (aJ h) hd
theorem tM (h:T n Q E w):bO P n ops (lB P .ret Q) [] E w:=aJ (rt h)
theorem bL (hx:ev E x=some v) (h:T n Q ((d,v)::E) w) (hd:Nat.blt d n=true:=by rfl):bO P n ops (lB P .ret Q) [⟨some d, .assign x,ty,pos,aW,none⟩] E w:=va hx (tM h) hd
theorem aN (hx:ev E x=some v) (h:bO P n (⟨some d, .move x,ty,pos,aW,none⟩::l).toArray (lB P c Q) l ((d,v)::E) w) (hd:Nat.blt d n=true:=by rfl):W P n (.seq (.region id (⟨some d, .move x,ty,pos,aW,none⟩::l).toArray false) c) Q E w:=aG (vm hx h hd)
theorem c' {fn:Func} {R:Ending→World→Prop} (hf:fn.results.toList= [.tmp k]) (h:look E k=some v) (hR:R (.returned (qB [v])) w):T n (bodyPost P fn R) E w:=dR (by rw [hf];exact .tmp h .nil) hR
theorem hl {fn:Func} {R:Ending→World→Prop} {v':Value} (hf:fn.results.toList= [.tmp d, .tmp k]) (h:look E d=some v) (cp:look E k=some v') (hR:R (.returned (qB [v,v'])) w):T n (bodyPost P fn R) E w:=dR (by rw [hf];exact .tmp h (.tmp cp .nil)) hR
theorem ht {g:Option (Nat×Bool)} {d:Option Nat} {ps:Array (Nat×Operand)} {l:List (Nat×Value)} (he:q7 E ps.toList=some l) (hr:(Instr.build t l.toArray).run P w= .ok v w:=by kernel_rfl):cF P E ⟨d, .build t ps,ty,pos,aW,g⟩ w v w:=gO he hr
theorem cK {α:Type} {f:α→Ending} {p:α→Prop} {v:α} (h:p v):∃ a,f v=f a∧p a:=⟨v,rfl,h⟩
theorem kV {b:Nat} {l:List Nat}:∀ q∈ [b],q∈b::l∨m≤q:=fun q I=> .inl (by rw [aMu.1 I];exact aM5)
theorem fZ (h: -9223372036854775808≤i∧i≤9223372036854775807:=by (try dsimp only);omega):dz i:=cH.2 h
theorem fh {cC:Nat→List (Nat×Value)→World→Prop} {m':Nat} {cd:List (Nat×Value)} (h:cC m' cd w) (hm:m'<m:=by omega) (hs:Sub cd E:=by exact eV rfl rfl rfl):N n (Exit.then (HL n cC m) Q) E w:=lM m' cd h hm hs
theorem jk (hx:ev E x=some v) (hc:v.cells=cs.toArray) (h:∀ aM b,Ext w aM→w.heap.size≤b→aO aM b cs t (0,0)→bO P n ops Q rest ((d, .pointer (some ⟨b,0,none⟩))::E) aM) (hd:Nat.blt d n=true:=by rfl):bO P n ops Q (⟨some d, .box t x,ty,pos,aW,none⟩::rest) E w:=alb rfl hx hc hd h
theorem eW (hx:ev E x=some v) (hc:v.cells=cs.toArray) (h:∀ aM b,Ext w aM→w.heap.size≤b→aO aM b cs t (0,0)→bO P n (⟨some d, .box t x,ty,pos,aW,none⟩::l).toArray (lB P c Q) l ((d, .pointer (some ⟨b,0,none⟩))::E) aM) (hd:Nat.blt d n=true:=by rfl):W P n (.seq (.region id (⟨some d, .box t x,ty,pos,aW,none⟩::l).toArray false) c) Q E w:=aG (jk hx hc h hd)
theorem dj (bo:kO P t v) (hc:v.cells=cs.toArray) (h:∀ aM b,Ext w aM→w.heap.size≤b→aO aM b cs t (0,0)→bO P n ops Q rest ((d, .pointer (some ⟨b,0,none⟩))::E) aM) (hd:Nat.blt d n=true:=by rfl):bO P n ops Q (⟨some d, .alloc t,ty,pos,aW,none⟩::rest) E w:=al rfl bo hc hd h
theorem fN (h: -9223372036854775808≤i∧i≤9223372036854775807:=by omega):IntKind.i64.wrap i=i:=la h
end
theorem hz:Fd prog 98 0 0:=fun _ _ _=>by kernel_rfl
theorem aZ:eB prog 3 false:=fun _=>by kernel_rfl
theorem hB:Fd prog 98 1 1:=fun _ _ _=>by kernel_rfl
theorem b0:eB prog 98 true:=fun _=>by kernel_rfl
theorem bs:eN prog 98 2:=fun _=>by kernel_rfl
theorem MT:Enters prog 161 :=b6 func161
theorem MZ:Enters prog 162 :=b6 func162
theorem cr:eN prog 3 1:=fun _=>by kernel_rfl
theorem nE:eN prog 225 4:=fun _=>by kernel_rfl
theorem M0:Fd prog 225 2 3:=fun _ _ _=>by kernel_rfl
theorem MK:eB prog 225 true:=fun _=>by kernel_rfl
theorem oe:eB prog 161 false:=fun _=>by kernel_rfl
theorem MN:Enters prog 187 :=b6 func187
theorem MP:Enters prog 188 :=b6 func188
theorem Zs:eN prog 161 1:=fun _=>by kernel_rfl
theorem Zu:kO prog 225 (.agg #[.int .i64 0, .int .i64 0, .int .i64 0, .int .i64 0]):=fun _=>by kernel_rfl
theorem anY:Enters prog 192 :=b6 func192
theorem IA:Enters prog 149 :=b6 func149
theorem an8:Enters prog 163 :=b6 func163
theorem aoe:Enters prog 164 :=b6 func164
theorem aog:Enters prog 191 :=b6 func191
theorem ZI:Fd prog 163 0 0:=fun _ _ _=>by kernel_rfl
theorem C6:Fd prog 48 0 0:=fun _ _ _=>by kernel_rfl
theorem gZ:eB prog 48 true:=fun _=>by kernel_rfl
theorem gy:eN prog 48 3:=fun _=>by kernel_rfl
theorem o8:Enters prog 122 :=b6 func122
theorem aoB:Enters prog 126 :=b6 func126
theorem aoC:kO prog 158 (.agg #[.int .i64 0, .int .i64 0, .int .i64 0, .int .i64 0, .int .i64 0, .int .i64 0, .int .i64 0, .int .i64 0]):=fun _=>by kernel_rfl
theorem ZL:eN prog 158 8:=fun _=>by kernel_rfl
theorem aoD:eB prog 158 true:=fun _=>by kernel_rfl
theorem ZM:Fd prog 163 1 3:=fun _ _ _=>by kernel_rfl
theorem ZN:Enters prog 147 :=b6 func147
theorem C7:Fd prog 163 3 6:=fun _ _ _=>by kernel_rfl
theorem aoE:Enters prog 148 :=b6 func148
theorem lG:Enters prog 93 :=b6 func93
theorem nD:Fd prog 163 2 5:=fun _ _ _=>by kernel_rfl
theorem fC:eB prog 46 false:=fun _=>by kernel_rfl
theorem aoF:Enters prog 150 :=b6 func150
theorem RA:Fd prog 225 0 0:=fun _ _ _=>by kernel_rfl
theorem ZO:Fd prog 225 1 2:=fun _ _ _=>by kernel_rfl
theorem ZP:Enters prog 92 :=b6 func92
theorem sk:kO prog 98 (.agg #[.int .i64 0, .int .i64 0]):=fun _=>by kernel_rfl
theorem RB:Enters prog 91 :=b6 func91
theorem RD:Enters prog 124 :=b6 func124
theorem aoG:Enters prog 146 :=b6 func146
theorem tu:Fd prog 48 2 2:=fun _ _ _=>by kernel_rfl
theorem ZQ:Enters prog 123 :=b6 func123
theorem ZR:Enters prog 125 :=b6 func125
theorem ZS:Enters prog 90 :=b6 func90
theorem aoH:Enters prog 94 :=b6 func94
theorem aoI:Enters prog 151 :=b6 func151
theorem MU:Enters prog 127 :=b6 func127
theorem MV:Fd prog 108 2 2:=fun _ _ _=>by kernel_rfl
theorem MW:Enters prog 68 :=b6 func68
theorem MX:kO prog 103 (.agg #[.int .i64 0, .int .i64 0, .int .i64 0, .int .i64 0]):=fun _=>by kernel_rfl
theorem MY:eN prog 103 4:=fun _=>by kernel_rfl
theorem q6:Fd prog 108 3 3:=fun _ _ _=>by kernel_rfl
theorem Bj:Fd prog 108 1 1:=fun _ _ _=>by kernel_rfl
theorem aoJ:Fd prog 103 1 1:=fun _ _ _=>by kernel_rfl
theorem pZ:Fd prog 52 0 0:=fun _ _ _=>by kernel_rfl
theorem aoK:Enters prog 155 :=b6 func155
theorem fb:eB prog 52 true:=fun _=>by kernel_rfl
theorem cP:eN prog 52 9:=fun _=>by kernel_rfl
theorem Fy:Enters prog 82 :=b6 func82
theorem kf:Fd prog 52 4 6:=fun _ _ _=>by kernel_rfl
theorem l9:eB prog 50 false:=fun _=>by kernel_rfl
theorem kg:eN prog 108 7:=fun _=>by kernel_rfl
theorem zI:eB prog 108 true:=fun _=>by kernel_rfl
theorem Fz:kO prog 108 (.agg #[.int .i64 0, .int .i64 0, .int .i64 0, .int .i64 0, .int .i64 0, .int .i64 0, .int .i64 0]):=fun _=>by kernel_rfl
theorem FA:Fd prog 108 0 0:=fun _ _ _=>by kernel_rfl
theorem RE:eN prog 210 2:=fun _=>by kernel_rfl
theorem aoL:eB prog 210 true:=fun _=>by kernel_rfl
theorem aoM:kO prog 210 (.agg #[.int .i64 0, .int .i64 0]):=fun _=>by kernel_rfl
theorem aoN:Fd prog 210 0 0:=fun _ _ _=>by kernel_rfl
theorem RF:kO prog 3 (.int .i64 0):=fun _=>by kernel_rfl
theorem aoO:Fd prog 210 1 1:=fun _ _ _=>by kernel_rfl
theorem C8:eN prog 4 1:=fun _=>by kernel_rfl
theorem RG:eB prog 4 false:=fun _=>by kernel_rfl
theorem aoP:Enters prog 140 :=b6 func140
theorem aoQ:Fd prog 103 2 2:=fun _ _ _=>by kernel_rfl
theorem p0:kO prog 52 (.agg #[.int .i64 0, .int .i64 0, .slice none 0 0, .slice none 0 0, .slice none 0 0, .slice none 0 0, .slice none 0 0, .int .i64 0, .int .i64 0]):=fun _=>by kernel_rfl
theorem C9:Enters prog 65 :=b6 func65
theorem x_:eN prog 46 1:=fun _=>by kernel_rfl
theorem sq:Fd prog 52 1 3:=fun _ _ _=>by kernel_rfl
theorem x':eB prog 49 false:=fun _=>by kernel_rfl
theorem tv:Fd prog 52 2 4:=fun _ _ _=>by kernel_rfl
theorem RH:Enters prog 64 :=b6 func64
theorem RI:eN prog 49 1:=fun _=>by kernel_rfl
theorem FB:Fd prog 52 3 5:=fun _ _ _=>by kernel_rfl
theorem RJ:Enters prog 69 :=b6 func69
theorem IC:eN prog 50 1:=fun _=>by kernel_rfl
theorem aoR:Enters prog 116 :=b6 func116
theorem aoS:Enters prog 117 :=b6 func117
theorem M1:Fd prog 108 4 5:=fun _ _ _=>by kernel_rfl
theorem RL:eN prog 212 3:=fun _=>by kernel_rfl
theorem aoT:eB prog 212 true:=fun _=>by kernel_rfl
theorem aoU:Fd prog 212 0 0:=fun _ _ _=>by kernel_rfl
theorem FC:eB prog 214 false:=fun _=>by kernel_rfl
theorem aoV:Enters prog 142 :=b6 func142
theorem aoW:kO prog 214 (.pointer none):=fun _=>by kernel_rfl
theorem anB:eN prog 214 1:=fun _=>by kernel_rfl
theorem anC:Enters prog 141 :=b6 func141
theorem anD:Fd prog 212 1 1:=fun _ _ _=>by kernel_rfl
theorem Zn:Enters prog 72 :=b6 func72
theorem xX:Enters prog 44 :=b6 func44
theorem Fq:eB prog 57 false:=fun _=>by kernel_rfl
theorem Fs:Enters prog 41 :=b6 func41
theorem Bg:eN prog 9 1:=fun _=>by kernel_rfl
theorem Ft:eB prog 9 false:=fun _=>by kernel_rfl
theorem anE:eN prog 57 1:=fun _=>by kernel_rfl
theorem Ix:Enters prog 40 :=b6 func40
theorem Zo:Enters prog 83 :=b6 func83
theorem anF:Enters prog 84 :=b6 func84
theorem anG:Enters prog 67 :=b6 func67
theorem anH:Enters prog 118 :=b6 func118
theorem anI:Enters prog 119 :=b6 func119
theorem xY:Fd prog 191 1 1:=fun _ _ _=>by kernel_rfl
theorem ML:Enters prog 156 :=b6 func156
theorem MM:Enters prog 157 :=b6 func157
theorem Bh:Fd prog 108 5 6:=fun _ _ _=>by kernel_rfl
theorem MO:Fd prog 191 2 2:=fun _ _ _=>by kernel_rfl
theorem l8:Fd prog 189 0 0:=fun _ _ _=>by kernel_rfl
theorem anJ:Enters prog 167 :=b6 func167
theorem Zp:Fd prog 191 3 4:=fun _ _ _=>by kernel_rfl
theorem Zq:Fd prog 103 3 3:=fun _ _ _=>by kernel_rfl
theorem Bi:Fd prog 52 5 7:=fun _ _ _=>by kernel_rfl
theorem anK:Enters prog 158 :=b6 func158
theorem Zr:Fd prog 103 0 0:=fun _ _ _=>by kernel_rfl
theorem anL:Fd prog 191 0 0:=fun _ _ _=>by kernel_rfl
theorem Iy:eB prog 191 true:=fun _=>by kernel_rfl
theorem C2:eN prog 191 5:=fun _=>by kernel_rfl
theorem anM:Enters prog 143 :=b6 func143
theorem anN:Enters prog 144 :=b6 func144
theorem anO:Enters prog 145 :=b6 func145
theorem anP:Enters prog 120 :=b6 func120
theorem anQ:kO prog 189 (.agg #[.int .i64 0, .int .i64 0, .slice none 0 0, .slice none 0 0, .slice none 0 0, .slice none 0 0, .slice none 0 0, .int .i64 0, .int .i64 0]):=fun _=>by kernel_rfl
theorem anR:eN prog 189 9:=fun _=>by kernel_rfl
theorem anS:kO prog 191 (.agg #[.int .i64 0, .int .i64 0, .int .i64 0, .int .i64 0, .int .i64 0]):=fun _=>by kernel_rfl
theorem anT:Enters prog 121 :=b6 func121
theorem MQ:kO prog 110 (.agg #[.int .i64 0, .int .i64 0, .int .i64 0, .int .i64 0, .int .i64 0, .int .i64 0]):=fun _=>by kernel_rfl
theorem og:Fd prog 110 1 1:=fun _ _ _=>by kernel_rfl
theorem C3:Fd prog 110 2 2:=fun _ _ _=>by kernel_rfl
theorem Fu:Fd prog 110 3 3:=fun _ _ _=>by kernel_rfl
theorem C4:Fd prog 110 4 5:=fun _ _ _=>by kernel_rfl
theorem j1:eB prog 110 true:=fun _=>by kernel_rfl
theorem fR:eN prog 110 6:=fun _=>by kernel_rfl
theorem Fv:Fd prog 110 0 0:=fun _ _ _=>by kernel_rfl
theorem Fw:Enters prog 112 :=b6 func112
theorem anU:Enters prog 113 :=b6 func113
theorem Zt:Enters prog 85 :=b6 func85
theorem Rq:Fd prog 182 0 0:=fun _ _ _=>by kernel_rfl
theorem Zv:eB prog 143 false:=fun _=>by kernel_rfl
theorem anV:eN prog 143 1:=fun _=>by kernel_rfl
theorem Rr:Fd prog 182 1 1:=fun _ _ _=>by kernel_rfl
theorem Zw:eB prog 144 false:=fun _=>by kernel_rfl
theorem anW:eN prog 144 1:=fun _=>by kernel_rfl
theorem C5:Fd prog 182 2 2:=fun _ _ _=>by kernel_rfl
theorem MR:eB prog 145 false:=fun _=>by kernel_rfl
theorem Rs:eN prog 145 1:=fun _=>by kernel_rfl
theorem anX:Enters prog 114 :=b6 func114
theorem anZ:kO prog 182 (.agg #[.slice none 0 0, .slice none 0 0, .slice none 0 0]):=fun _=>by kernel_rfl
theorem Zx:Enters prog 115 :=b6 func115
theorem zH:kO prog 114 (.agg #[.slice none 0 0, .slice none 0 0, .slice none 0 0]):=fun _=>by kernel_rfl
theorem Rt:Enters prog 86 :=b6 func86
theorem sj:eN prog 114 3:=fun _=>by kernel_rfl
theorem MS:eB prog 114 true:=fun _=>by kernel_rfl
theorem Iz:Fd prog 52 6 8:=fun _ _ _=>by kernel_rfl
theorem an0:Enters prog 87 :=b6 func87
theorem Zy:Fd prog 114 0 0:=fun _ _ _=>by kernel_rfl
theorem an1:Enters prog 88 :=b6 func88
theorem Zz:Fd prog 114 1 1:=fun _ _ _=>by kernel_rfl
theorem an2:Enters prog 89 :=b6 func89
theorem ZA:Fd prog 114 2 2:=fun _ _ _=>by kernel_rfl
theorem ZB:eN prog 112 1:=fun _=>by kernel_rfl
theorem an3:Fd prog 48 1 1:=fun _ _ _=>by kernel_rfl
theorem an4:Enters prog 80 :=b6 func80
theorem an5:kO prog 30 (.slice none 0 0):=fun _=>by kernel_rfl
theorem an6:Enters prog 81 :=b6 func81
theorem an7:Enters prog 105 :=b6 func105
theorem Ru:eB prog 30 false:=fun _=>by kernel_rfl
theorem ZC:eN prog 30 1:=fun _=>by kernel_rfl
theorem Rv:kO prog 48 (.agg #[.int .i64 0, .int .i64 0, .slice none 0 0]):=fun _=>by kernel_rfl
theorem ZD:Enters prog 61 :=b6 func61
theorem an9:Enters prog 28 :=b6 func28
theorem aoa:Enters prog 62 :=b6 func62
theorem aob:Enters prog 96 :=b6 func96
theorem Rw:eB prog 112 false:=fun _=>by kernel_rfl
theorem aoc:kO prog 112 (.slice none 0 0):=fun _=>by kernel_rfl
theorem ZE:Enters prog 95 :=b6 func95
theorem aod:Enters prog 73 :=b6 func73
theorem aof:Enters prog 31 :=b6 func31
theorem q4:Fd prog 55 0 0:=fun _ _ _=>by kernel_rfl
theorem Fx:Fd prog 55 1 9:=fun _ _ _=>by kernel_rfl
theorem Rx:eB prog 53 false:=fun _=>by kernel_rfl
theorem Ry:eN prog 53 1:=fun _=>by kernel_rfl
theorem ZF:Enters prog 66 :=b6 func66
theorem xZ:Enters prog 51 :=b6 func51
theorem ZG:Enters prog 11 :=b6 func11
theorem IB:Enters prog 71 :=b6 func71
theorem q5:Enters prog 46 :=b6 func46
theorem aoh:Enters prog 70 :=b6 func70
theorem aoi:Enters prog 43 :=b6 func43
theorem aoj:Enters prog 42 :=b6 func42
theorem ZH:Enters prog 19 :=b6 func19
theorem aok:Enters prog 45 :=b6 func45
theorem aol:Enters prog 47 :=b6 func47
theorem aom:Enters prog 48 :=b6 func48
theorem aon:Enters prog 49 :=b6 func49
theorem aoo:Enters prog 50 :=b6 func50
theorem aop:Enters prog 52 :=b6 func52
theorem aoq:Enters prog 53 :=b6 func53
theorem ZJ:Enters prog 8 :=b6 func8
theorem aor:kO prog 55 (.agg #[.int .i64 0, .int .i64 0, .slice none 0 0, .slice none 0 0, .slice none 0 0, .slice none 0 0, .slice none 0 0, .int .i64 0, .int .i64 0, .slice none 0 0]):=fun _=>by kernel_rfl
theorem aos:kO prog 32 (.agg #[.pointer none, .slice none 0 0]):=fun _=>by kernel_rfl
theorem aot:Enters prog 20 :=b6 func20
theorem aou:Enters prog 10 :=b6 func10
theorem aov:Enters prog 12 :=b6 func12
theorem aow:Enters prog 16 :=b6 func16
theorem aox:Enters prog 17 :=b6 func17
theorem Rz:Enters prog 9 :=b6 func9
theorem aoy:Enters prog 13 :=b6 func13
theorem aoz:Enters prog 6 :=b6 func6
theorem ZK:Enters prog 7 :=b6 func7
theorem aoA:Enters prog 14 :=b6 func14
end
end Go.Proofs.YthlpmldmhakhaaaGreatDoor
