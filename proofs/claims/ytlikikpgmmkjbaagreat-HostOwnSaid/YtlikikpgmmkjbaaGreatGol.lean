import Derived.Test.YtlikikpgmmkjbaaGreatBas
import Derived.Test.YtlikikpgmmkjbaaGreatProg
import Derived.WideMake
set_option linter.unusedVariables false
set_option linter.unusedSimpArgs false
set_option maxRecDepth 100000
set_option maxHeartbeats 4000000
open Go.RowKit
namespace Go.Proofs.YtlikikpgmmkjbaaGreat
open Tryz
open Tryz
abbrev aUg:=@List.mem_singleton
abbrev aUi:=@List.getD_eq_getElem?_getD
abbrev aUt:=@List.length_nil
abbrev aUH:=@List.mem_cons_self
abbrev aUL:=@decide_eq_true
abbrev aUU:=@decide_eq_false
abbrev aVc:=@Int.toNat_natCast
abbrev aVr:=@List.getElem?_replicate
abbrev aVN:=@Nat.lt_of_lt_of_le
abbrev aVP:=@Nat.succ_mul
abbrev aVW:=@List.cons_append
abbrev aV5:=@Array.getElem?_eq_getElem
abbrev aV6:=@Nat.min_eq_left
abbrev aWj:=@Nat.le_of_ble_eq_true
abbrev aWk:=@Nat.eq_of_beq_eq_true
abbrev aWq:=@Go.run_sliceAt_slice
abbrev aWw:=@And.left
abbrev aWF:=@Nat.add_assoc
abbrev aWL:=@of_decide_eq_false
abbrev aWS:=@not_true_eq_false
abbrev aWX:=@List.contains_iff_mem
abbrev aXf:=@Nat.mul_one
abbrev aXh:=@Nat.lt_succ_iff_lt_or_eq
abbrev aXq:=@Nat.add_comm
abbrev aXE:=@List.getElem?_toArray
abbrev aXL:=@List.mem_of_mem_drop
abbrev aXU:=@Go.size_madeCells
abbrev aX1:=@Go.MapKept.run_findKey
abbrev aYo:=@Go.run_newObj_alloc
abbrev aYp:=@Array.getD_eq_getD_getElem?
abbrev aYw:=@Array.getElem?_append_left
abbrev aYB:=@Prod.mk.injEq
abbrev aYE:=@List.getElem?_take_of_lt
abbrev aYI:=@Nat.add_sub_cancel_left
abbrev aYN:=@Nat.succ_add
abbrev aYO:=@Nat.ne_of_beq_eq_false
abbrev aYQ:=@List.drop_of_length_le
abbrev aYU:=@List.mem_of_mem_erase
abbrev aYX:=@Go.run_store
abbrev aY1:=@Array.size_replicate
abbrev aY5:=@List.replicate_succ
abbrev aY8:=@List.drop_succ_cons
abbrev aZg:=@ne_eq
abbrev aZk:=@Go.MapKept.run_checkKey

def fK (n:Int):Prop:=(Lit.int .i64 n).wf=true
theorem bN {n:Int}:fK n↔ -9223372036854775808≤n∧n≤9223372036854775807:=by
 unfold fK;simp [Lit.wf,IntKind.min,IntKind.max,IntKind.signed,IntKind.bits]
def bS:κ Int:=κ.flat 1 (fun n=> [.int .i64 n]) fK (fun _ u=>∃ n:Int,u= .int .i64 n) (fun _=>rfl) (by intro a u hu;simp at hu;subst hu;rfl) (by
 intro a j u hu;cases j with
 | zero=>simp at hu;exact ⟨a,hu.symm⟩
 | succ j=>simp at hu)
def zJ:κ Bool:=κ.flat 1 (fun n=> [.bool n]) (fun _=>True) (fun _ u=>∃ n:Bool,u= .bool n) (fun _=>rfl) (by intro a u hu;simp at hu;subst hu;rfl) (by
 intro a j u hu;cases j with
 | zero=>simp at hu;exact ⟨a,hu.symm⟩
 | succ j=>simp at hu)
def Gv:κ ByteArray:=κ.au9 1 (fun n=> [.string n]) (fun s=>s.size≤140737488351232) (fun _ u=>∃ n:ByteArray,u= .string n∧n.size≤140737488351232) (fun _=>rfl) (by intro a u hu;simp at hu;subst hu;rfl) (by
 intro a ok j u hu;cases j with
 | zero=>simp at hu;exact ⟨a,hu.symm,ok⟩
 | succ j=>simp at hu)
theorem alm:bS.Plain:=κ.o0
section
variable {by_:Nat} {w:World} {A:Option Addr} {c:Nat}
theorem Gu {l:List Int} (h:bS.aK by_ w A c l) (aI:0<l.length):∃ b o,A=some ⟨b,o,none⟩∧∀ (i:Nat) (a:Int),l[i]? =some a→w.cell? ⟨b,o+i,none⟩=some (.int .i64 a):=by
 obtain ⟨b,o,e,hc⟩:=h.at_ aI;refine ⟨b,o,e,fun i a ha=> ?_⟩;obtain ⟨es,⟨rfl,_⟩,aA⟩:=hc i a ha;have:=aA 0 _ rfl;simpa [bS,κ.flat] using this
end
theorem Zx (w:World) (cs:List Value) (h:(.int .i64:fP).hV w cs):∃ a,bS.has w cs a:=by
 obtain ⟨n,rfl,hn⟩:=h;exact ⟨n,Z,hn⟩
theorem Jp {by_:Nat} {w:World} {A:Option Addr} {c:Nat} {l:List Int} (h:bS.aK by_ w A c l):∀ a∈l,fK a:=κ.aK.AM (R:=bS) (Q:=fK) (fun {w cs a} (h:bS.has w cs a)=>(show cs= [.int .i64 a]∧fK a from h).2) h
theorem DE:(prog.info? 3).map (fun i=>(i.zero,i.size,i.bytes))=some (some (.int .i64 0),1,8):=by kernel_rfl
theorem hC {α:Type} {l:List α} {i:Nat} (h:i<l.length):∃ a,l[i]? =some a:=⟨_,aUk h⟩
open Tryz
theorem aHe:∀ (j:Nat) u,(Value.int .i64 0).cells[j]? =some u→bS.raw j u:=by
 intro j u hu;have hu:(#[Value.int .i64 0]:Array Value)[j]? =some u:=hu
 match j,hu with
 | 0,hu=>exact ⟨0,(aUh hu).symm⟩
 | j+1,hu=>cases hu
open Tryz

abbrev Env:=List (Nat×Value)
def look:List (Nat×Value)→Nat→Option Value
 | [],_=>none
 | (k,v)::r,t=>match Nat.beq k t with | true=>some v | false=>look r t
structure ew (n:Nat) (E:List (Nat×Value)) (a:Act):Prop where
 d:a.defers= []
 s:a.tmps.size=n
 g:∀ t v,look E t=some v→a.tmps[t]? =some v
def ev (E:List (Nat×Value)):Operand→Option Value
 | .tmp t=>look E t
 | .const v=>some v
 | .global g=>some (.pointer (some ⟨g,0,none⟩))
 | .func f=>some (.func (.func f) #[] #[])
def hz (E:List (Nat×Value)):List Operand→Option (List Value)
 | []=>some []
 | x::r=>match ev E x with
  | some v=>match hz E r with
   | some l=>some (v::l)
   | none=>none
  | none=>none
section
variable {P:Program} {n:Nat} {E c0:List (Nat×Value)} {a:Act} {w w' aP:World} {Q:Exit→Act→World→Prop} {ops:Array Oper} {v:Value}
theorem ew.ev {x:Operand} (h:ew n E a) (hx:ev E x=some v):a.eval x=v:=by
 cases x with
 | tmp t=>have:=h.g t v hx;simp [Act.eval,this]
 | const u=>exact aUh hx
 | global g=>exact aUh hx
 | func f=>exact aUh hx
theorem ew.hz (h:ew n E a):∀ {l:List Operand} {vs:List Value},hz E l=some vs→l.map a.eval=vs
 | [],_,e=>by simp only [Proofs.YtlikikpgmmkjbaaGreat.hz] at e;exact aUh e
 | x::r,vs,e=>by
  simp only [Proofs.YtlikikpgmmkjbaaGreat.hz] at e;cases hx:Proofs.YtlikikpgmmkjbaaGreat.ev E x with
  | none=>rw [hx] at e;cases e
  | some v =>
   rw [hx] at e;simp only at e;cases hr:Proofs.YtlikikpgmmkjbaaGreat.hz E r with
   | none=>rw [hr] at e;cases e
   | some l =>
    rw [hr] at e;simp only at e;obtain rfl:=aUh e;rw [aU4,h.ev hx,ew.hz h hr]
theorem ew.put {d:Nat} (h:ew n E a) (hd:Nat.blt d n=true) (v:Value):ew n ((d,v)::E) (a.put (some d) v):=by
 rw [aW8] at hd;refine ⟨h.d,by simp [Act.put,h.s],fun t u hu=> ?_⟩;simp only [look] at hu;cases Φ:Nat.beq d t with
 | true =>
  rw [Φ] at hu;obtain rfl:d=t:=aWk Φ;obtain rfl:=aUh hu;simp [Act.put,h.s,hd]
 | false =>
  rw [Φ] at hu;have dY:d≠t:=aYO Φ;simp only [Act.put];rw [aVM dY];exact h.g t u hu
theorem ew.none (h:ew n E a) (v:Value):ew n E (a.put none v):=h
def Sub (c0 E:List (Nat×Value)):Prop:=∀ t v,look c0 t=some v→look E t=some v
theorem Sub.nil:Sub [] E:=fun t v h=>by simp [look] at h
theorem Sub.cons {k:Nat} (h:look E k=some v) (hs:Sub c0 E):Sub ((k,v)::c0) E:=fun t u hu=>by
 simp only [look] at hu;cases Φ:Nat.beq k t with
 | true=>rw [Φ] at hu;obtain rfl:k=t:=aWk Φ;obtain rfl:=aUh hu;exact h
 | false=>rw [Φ] at hu;exact hs t u hu
theorem ew.sub (h:ew n E a) (hs:Sub c0 E):ew n c0 a:=⟨h.d,h.s,fun t v hv=>h.g t v (hs t v hv)⟩
def W (P:Program) (n:Nat) (c:Code) (Q:Exit→Act→World→Prop) (E:List (Nat×Value)) (w:World):Prop:=∀ a,ew n E a→c.wp P Q a w
def N (n:Nat) (Q:Exit→Act→World→Prop) (E:List (Nat×Value)) (w:World):Prop:=∀ a,ew n E a→Q .normal a w
def X (n:Nat) (Q:Exit→Act→World→Prop) (id:Nat) (E:List (Nat×Value)) (w:World):Prop:=∀ a,ew n E a→Q (.exit id) a w
def T (n:Nat) (Q:Exit→Act→World→Prop) (E:List (Nat×Value)) (w:World):Prop:=∀ a,ew n E a→Q .ret a w
def cG (P:Program) (n:Nat) (ops:Array Oper) (Q:Exit→Act→World→Prop) (l:List Oper) (E:List (Nat×Value)) (w:World):Prop:=∀ a,ew n E a→wpList P ops Q l a w
abbrev rF (P:Program) (y:Code) (Q:Exit→Act→World→Prop):Exit→Act→World→Prop:=Exit.then (fun a w=>y.wp P Q a w) Q
theorem az {x y:Code} (h:W P n x (rF P y Q) E w):W P n (.seq x y) Q E w:=fun a ha=>wp_seq (h a ha)
theorem fv (h:N n Q E w):W P n .skip Q E w:=fun a ha=>wp_skip (h a ha)
theorem rt (h:T n Q E w):W P n .ret Q E w:=fun a ha=>wp_ret (h a ha)
theorem c_ {id:Nat} (h:X n Q id E w):W P n (.exit id) Q E w:=fun a ha=>wp_exit (h a ha)
theorem bA {id:Nat} {c:Code} (h:W P n c (Exit.inBlock id Q) E w):W P n (.block id c) Q E w:=fun a ha=>wp_block (h a ha)
theorem rg {id:Nat} {l:List Oper} (h:cG P n l.toArray Q l E w):W P n (.region id l.toArray false) Q E w:=fun a ha=>wp_region_lit (h a ha)
theorem fe {c:Operand} {x y:Code} (hc:ev E c=some (.bool true)) (h:W P n x Q E w):W P n (.cond c x y) Q E w:=fun a ha=>wp_cond_true (ha.ev hc) (h a ha)
theorem hL {c:Operand} {x y:Code} (hc:ev E c=some (.bool false)) (h:W P n y Q E w):W P n (.cond c x y) Q E w:=fun a ha=>wp_cond_false (ha.ev hc) (h a ha)
theorem Ve {c:Operand} {x y:Code} (b:Bool) (hc:ev E c=some (.bool b)) (γ:b=true→W P n x Q E w) (aa:b=false→W P n y Q E w):W P n (.cond c x y) Q E w :=
 fun a ha=>wp_cond_split (ha.ev hc) (fun h=>γ h a ha) (fun h=>aa h a ha)
theorem ee {c:Operand} {x y:Code} {b:Bool} (hc:ev E c=some (.bool b)) (γ:b=true→W P n x Q E w) (aa:b=false→W P n y Q E w):W P n (.cond c x y) Q E w:=Ve b hc γ aa
theorem nl (h:N n Q E w):cG P n ops Q [] E w:=h
theorem aT {y:Code} (h:W P n y Q E w):N n (rF P y Q) E w:=h
theorem bX {id:Nat} (h:N n Q E w):N n (Exit.inBlock id Q) E w:=h
theorem c9 {y:Code} {id:Nat} (h:X n Q id E w):X n (rF P y Q) id E w:=h
theorem dn {K:Act→World→Prop} {id:Nat} (h:X n Q id E w):X n (Exit.then K Q) id E w:=h
theorem c8 {id:Nat} (h:N n Q E w):X n (Exit.inBlock id Q) id E w:=fun a ha=>by simp only [Exit.inBlock,aVZ];exact h a ha
theorem Oo {id RN:Nat} (dY:Nat.beq RN id=false) (h:X n Q RN E w):X n (Exit.inBlock id Q) RN E w:=fun a ha=>by simp only [Exit.inBlock,aUr (aYO dY)];exact h a ha
theorem bT {y:Code} (h:T n Q E w):T n (rF P y Q) E w:=h
theorem my {K:Act→World→Prop} (h:T n Q E w):T n (Exit.then K Q) E w:=h
theorem eK {id:Nat} (h:T n Q E w):T n (Exit.inBlock id Q) E w:=h
def CO:Nat→List Value→List (Nat×Value)
 | _, []=> []
 | i,v::r=>(i,v)::CO (i+1) r
theorem UU:∀ (l:List Value) (i t:Nat) (v:Value),look (CO i l) t=some v→∃ j,t=i+j∧l[j]? =some v
 | [],_,_,_,h=>by simp [CO,look] at h
 | u::r,i,t,v,h=>by
  simp only [CO,look] at h;cases Φ:Nat.beq i t with
  | true=>rw [Φ] at h;exact ⟨0,by have:=aWk Φ;omega,by simpa using h⟩
  | false =>
   rw [Φ] at h;obtain ⟨j,e,aA⟩:=UU r (i+1) t v h;exact ⟨j+1,by omega,by simpa using aA⟩
theorem cl {f:FuncId} {fn:Func} {c:Code} {l:List Value} {R:Ending→World→Prop} (hf:P.funcs[f]? =some fn) (Φ:fn.body=some c) (hn:fn.ntmps=n) (aB:Nat.ble l.length n=true)
  (h:W P n c (bodyPost P fn R) (CO 0 l) w):Calls P f l.toArray w R:=by
 refine calls_of_wp hf Φ (h _ ⟨Z, ?_,fun t v hv=> ?_⟩)
 ·have:=aWj aB;simp only [aYc,aY1,hn,aVC];omega
 ·obtain ⟨j,e,aA⟩:=UU l 0 t v hv;have bE:=(aUj.1 aA).1;rw [aYw (by simp;omega)];simpa [show t=j by omega] using aA
inductive xj (P:Program) (E:List (Nat×Value)) (w:World):List ResultVar→List Value→Prop
 | nil:xj P E w [] []
 | tmp {t:Nat} {v:Value} {r:List ResultVar} {vs:List Value} (h:look E t=some v) (hr:xj P E w r vs):xj P E w (.tmp t::r) (v::vs)
 | cell {t:Nat} {ty:TypeId} {p:Addr} {v:Value} {r:List ResultVar} {vs:List Value} (h:look E t=some (.pointer (some p))) (aB:(loadVar ty p).run P w= .ok v w) (hr:xj P E w r vs):xj P E w (.cell t ty::r) (v::vs)
def u1:List Value→Value
 | [v]=>v
 | vs=> .tuple vs.toArray
theorem xj.run {l:List ResultVar} {vs:List Value} (h:xj P E w l vs) (ha:ew n E a) (f:ResultVar→Sem Value) (f1:∀ t,f (.tmp t)=pure (a.tmps.getD t undef)) (f2:∀ c t,f (.cell c t)=(asAddr (a.tmps.getD c undef)>>= fun p=>loadVar t p)):
  (l.mapM f).run P w= .ok vs w:=by
 induction h with
 | nil=>rfl
 | @tmp t v r vs h hr bI =>
  have aa:a.tmps.getD t undef=v:=by rw [aYp,ha.g _ _ h];rfl
  simp only [List.mapM_cons,aUv,f1,aa,aUA,aUo,bI]
 | @cell t ty p v r vs h aB hr bI =>
  have aa:a.tmps.getD t undef= .pointer (some p):=by rw [aYp,ha.g _ _ h];rfl
  simp only [List.mapM_cons,aUv,f2,aa,asAddr,aUA,aUo,aB,bI]
theorem ZD {fn:Func} {vs:List Value} (h:xj P E w fn.results.toList vs) (ha:ew n E a):(results fn a.tmps).run P w= .ok (u1 vs) w:=by
 unfold results;rw [Array.mapM_eq_mapM_toList];simp only [aUv,Sem.run_map];rw [h.run ha _ (fun _=>rfl) (fun _ _=>rfl)]
 match vs with
 | []=>rfl
 | [v]=>rfl
 | _::_::_=>simp [u1]
theorem bb {fn:Func} {R:Ending→World→Prop} {vs:List Value} (h:xj P E w fn.results.toList vs) (hR:R (.returned (u1 vs)) w):T n (bodyPost P fn R) E w :=
 fun a ha=>⟨ha.d,_,ZD h ha,hR⟩
def Pq (n:Nat) (kG:Nat→List (Nat×Value)→World→Prop) (m:Nat):Act→World→Prop:=fun a w=>∃ m',m'<m∧∃ c0,kG m' c0 w∧ew n c0 a
theorem dX {c:Code} (kG:Nat→List (Nat×Value)→World→Prop) (m:Nat) (c0:List (Nat×Value)) (aI:kG m c0 w) (hs:Sub c0 E)
  (round:∀ m E w,kG m E w→W P n c (Exit.then (Pq n kG m) Q) E w):W P n (.loop c) Q E w:=fun a ha=>by
 intro b k cs;have key:∀ m a w,(∃ E,kG m E w∧ew n E a)→∃ e a' w',Q e a' w'∧Arrives P (lone (b.at a (.code c:: .inLoop c::k)) cs w) b k cs e a' w':=by
  intro m;induction m using Nat.strongRecOn with
  | _ m bI =>
   intro a w ⟨E,qI,ha⟩;obtain ⟨e,cy,aP,I,pW⟩:=round m E w qI a ha b (.inLoop c::k) cs;cases e with
   | normal =>
    obtain ⟨m',bE,WO⟩:=I;obtain ⟨bl,a2,cE,xR,Xc⟩:=bI m' bE cy aP WO;exact ⟨bl,a2,cE,xR, .of_steps (Steps.trans pW (.one step_inLoop)) Xc⟩
   | exit id=>exact ⟨_,cy,aP,I, .pass (x:= .inLoop c) rfl (fun _ _=> .inl (by simp)) pW⟩
   | goto l=>exact ⟨_,cy,aP,I, .pass (x:= .inLoop c) rfl (fun _ _=> .inl (by simp)) pW⟩
   | ret=>exact ⟨_,cy,aP,I, .pass (x:= .inLoop c) rfl (fun _ _=> .inl (by simp)) pW⟩
   | panic ari=>exact ⟨_,cy,aP,I, .pass (x:= .inLoop c) rfl (fun _ _=> .inl (by simp)) pW⟩
   | outgrown=>exact ⟨_,cy,aP,I, .pass (x:= .inLoop c) rfl (fun _ _=> .inl (by simp)) pW⟩
 obtain ⟨e,a',w',I,pW⟩:=key m a w ⟨c0,aI,ha.sub hs⟩;exact ⟨e,a',w',I, .of_steps (.one step_loop) pW⟩
theorem cO {kG:Nat→List (Nat×Value)→World→Prop} {m:Nat} (m':Nat) (c0:List (Nat×Value)) (h:kG m' c0 w) (hm:m'<m) (hs:Sub c0 E):N n (Exit.then (Pq n kG m) Q) E w :=
 fun a ha=>⟨m',hm,c0,h,ha.sub hs⟩
variable {d:Option Nat} {ty:TypeId} {pos:String} {af:Array Edge} {g:Option (Nat×Bool)} {x y z:Operand} {t:TypeId} {rest:List Oper}
def cT (P:Program) (E:List (Nat×Value)) (o:Oper) (w:World) (v:Value) (w':World):Prop:=∀ n a,ew n E a→(execOp a.eval o).run P w= .ok (.value v) w'
def apq (P:Program) (E:List (Nat×Value)) (o:Oper) (w w':World):Prop:=∀ n a,ew n E a→(execOp a.eval o).run P w= .ok .skip w'
theorem Ht {o:Oper} (aS:o.guard=none) {a:Act} (h:o.wp P a w (wpList P ops Q rest) Q):wpList P ops Q (o::rest) a w:=by
 unfold wpList;rw [aUz (by simp [Region.wanted,aS])];exact .inl h
theorem iC {d:Nat} {op:Op} (hr:cT P E ⟨some d,op,ty,pos,af,none⟩ w v w') (hd:Nat.blt d n=true) (h:cG P n ops Q rest ((d,v)::E) w'):cG P n ops Q (⟨some d,op,ty,pos,af,none⟩::rest) E w:=fun a ha=>by
 refine Ht Z ?_;unfold Oper.wp;rw [hr n a ha];exact h _ (ha.put hd v)
theorem us {op:Op} (hr:apq P E ⟨none,op,ty,pos,af,none⟩ w w') (h:cG P n ops Q rest E w'):cG P n ops Q (⟨none,op,ty,pos,af,none⟩::rest) E w:=fun a ha=>by
 refine Ht Z ?_;unfold Oper.wp;rw [hr n a ha];exact h _ ha
def Enters (P:Program) (f:FuncId):Prop:=∃ fn,P.funcs[f]? =some fn∧(fn.name == "runtime.NumGoroutine")=false∧fn.body.isNone=false
theorem Jq {f:FuncId} (hf:Enters P f) {xs:Array Operand} {ts:Array TypeId} {args:List Value} {a:Act} (ha:ew n E a) (he:hz E xs.toList=some args):
  (execOp a.eval ⟨d, .call {callee:= .value (.func f),args:=xs,argTypes:=ts},ty,pos,af,g⟩).run P w= .ok (.enter f args.toArray) w:=by
 obtain ⟨fn,γ,aa,av⟩:=hf;have hm:xs.map a.eval=args.toArray:=by rw [← ha.hz he];apply aVK;simp
 exact alv f fn γ aa av xs ts Z _ hm
theorem ca {d:Nat} {f:FuncId} (hf:Enters P f) {xs:Array Operand} {ts:Array TypeId} {args:List Value} (he:hz E xs.toList=some args) (hd:Nat.blt d n=true)
  (h:Calls P f args.toArray w fun e w'=>∃ v,e= .returned v∧cG P n ops Q rest ((d,v)::E) w'):cG P n ops Q (⟨some d, .call {callee:= .value (.func f),args:=xs,argTypes:=ts},ty,pos,af,none⟩::rest) E w:=fun a ha=>by
 refine Ht Z ?_;unfold Oper.wp;rw [Jq hf ha he];refine aXH h fun e w' fp=> ?_;obtain ⟨v,rfl,h⟩:=fp;exact h _ (ha.put hd v)
theorem aM (hx:ev E x=some v):cT P E ⟨d, .move x,ty,pos,af,g⟩ w v w:=fun n a ha=>by simp only [execOp,ha.ev hx];rfl
theorem fA (hx:ev E x=some v):cT P E ⟨d, .assign x,ty,pos,af,g⟩ w v w:=fun n a ha=>by simp only [execOp,ha.ev hx];rfl
theorem ex {l:List Value} {k:Nat} (hx:ev E x=some (.tuple l.toArray)) (aw:l[k]? =some v):cT P E ⟨d, .extract x k,ty,pos,af,g⟩ w v w:=fun n a ha=>by
 simp only [execOp,ha.ev hx,Instr.extract,aXE,aw];rfl
theorem b6 {p:Addr} (hx:ev E x=some (.pointer (some p))):cT P E ⟨d, .nilCheck x,ty,pos,af,g⟩ w (.pointer (some p)) w:=fun n a ha=>by simp only [execOp,ha.ev hx];rfl
theorem eF {b:Bool} (hx:ev E x=some (.bool b)):cT P E ⟨d, .unOp .not t x,ty,pos,af,g⟩ w (.bool !b) w:=fun n a ha=>by
 simp only [execOp,ha.ev hx];cases b<;>rfl
theorem na {v:Value} (hx:ev E x=some (.bool true)) (aH:ev E y=some v):cT P E ⟨d, .pick x y z,ty,pos,af,g⟩ w v w:=fun n a ha=>by
 simp only [execOp,ha.ev hx,ha.ev aH];rfl
theorem uZ {v:Value} (hx:ev E x=some (.bool false)) (bB:ev E z=some v):cT P E ⟨d, .pick x y z,ty,pos,af,g⟩ w v w:=fun n a ha=>by
 simp only [execOp,ha.ev hx,ha.ev bB];rfl
def ik (c:Bool) (v:Value):Value:=if c=true then v else undef
theorem gt {c:Bool} (hc:c=true) (h:ev E x=some (ik c v)):ev E x=some v:=by rw [h,hc];rfl
theorem fM {b c q:Bool} (hx:ev E x=some (.bool b)) (aH:ev E y=some (.bool true)) (I:(b == false)=q) (bB:ev E z=some (ik q (.bool c))):cT P E ⟨d, .pick x y z,ty,pos,af,g⟩ w (.bool (b || c)) w:=fun n a ha=>by
 subst I;simp only [execOp,ha.ev hx,ha.ev aH,ha.ev bB];cases b<;>rfl
theorem e9 {b c q:Bool} (hx:ev E x=some (.bool b)) (bB:ev E z=some (.bool false)) (I:(b == true)=q) (aH:ev E y=some (ik q (.bool c))):cT P E ⟨d, .pick x y z,ty,pos,af,g⟩ w (.bool (b && c)) w:=fun n a ha=>by
 subst I;simp only [execOp,ha.ev hx,ha.ev aH,ha.ev bB];cases b<;>rfl
section
variable {k k':IntKind} {i j:Int} {u:TypeId}
theorem oB {op:BinOp} {s:Sem Value} (hx:ev E x=some (.int k i)) (aH:ev E y=some (.int k' j)) (h:binOp op t (.int k i) (.int k' j)=s) (hr:s.run P w= .ok v w):cT P E ⟨d, .binOp op t x y u,ty,pos,af,g⟩ w v w:=fun n a ha=>by
 simp only [execOp,ha.ev hx,ha.ev aH,eqGuard_at_int,h,aUv,aUA,aUo,hr]
theorem bad (hx:ev E x=some (.int k i)) (aH:ev E y=some (.int k j)) (h:k.wrap (i+j)=i+j):cT P E ⟨d, .binOp .add t x y u,ty,pos,af,g⟩ w (.int k (i+j)) w:=oB hx aH (binOp_add t k i j) (by simp [Op.intArith,h])
theorem mi (hx:ev E x=some (.int k i)) (aH:ev E y=some (.int k j)) (h:k.wrap (i - j)=i - j):cT P E ⟨d, .binOp .sub t x y u,ty,pos,af,g⟩ w (.int k (i - j)) w:=oB hx aH (binOp_sub t k i j) (by simp [Op.intArith,h])
theorem CS (hx:ev E x=some (.int k i)) (aH:ev E y=some (.int k j)) (h:k.wrap (i * j)=i * j):cT P E ⟨d, .binOp .mul t x y u,ty,pos,af,g⟩ w (.int k (i * j)) w:=oB hx aH (binOp_mul t k i j) (by simp [Op.intArith,h])
theorem CR (hx:ev E x=some (.int k i)) (aH:ev E y=some (.int k j)):cT P E ⟨d, .binOp .add t x y u,ty,pos,af,g⟩ w (.int k (k.wrap (i+j))) w:=oB hx aH (binOp_add t k i j) (by simp [Op.intArith])
theorem aqw (hx:ev E x=some (.int k i)) (aH:ev E y=some (.int k j)):cT P E ⟨d, .binOp .sub t x y u,ty,pos,af,g⟩ w (.int k (k.wrap (i - j))) w:=oB hx aH (binOp_sub t k i j) (by simp [Op.intArith])
theorem blt (hx:ev E x=some (.int k i)) (aH:ev E y=some (.int k j)):cT P E ⟨d, .binOp .lss t x y u,ty,pos,af,g⟩ w (.bool (decide (i<j))) w:=oB hx aH (binOp_lss t k i j) rfl
theorem ble (hx:ev E x=some (.int k i)) (aH:ev E y=some (.int k j)):cT P E ⟨d, .binOp .leq t x y u,ty,pos,af,g⟩ w (.bool (decide (i≤j))) w:=oB hx aH (binOp_leq t k i j) rfl
theorem iK (hx:ev E x=some (.int k i)) (aH:ev E y=some (.int k j)):cT P E ⟨d, .binOp .gtr t x y u,ty,pos,af,g⟩ w (.bool (decide (j<i))) w:=oB hx aH (binOp_gtr t k i j) rfl
theorem j4 (hx:ev E x=some (.int k i)) (aH:ev E y=some (.int k j)):cT P E ⟨d, .binOp .geq t x y u,ty,pos,af,g⟩ w (.bool (decide (j≤i))) w:=oB hx aH (binOp_geq t k i j) rfl
theorem beq (hx:ev E x=some (.int k i)) (aH:ev E y=some (.int k j)):cT P E ⟨d, .binOp .eql t x y u,ty,pos,af,g⟩ w (.bool (i == j)) w:=oB hx aH (binOp_eql t k i j) rfl
theorem bne (hx:ev E x=some (.int k i)) (aH:ev E y=some (.int k j)):cT P E ⟨d, .binOp .neq t x y u,ty,pos,af,g⟩ w (.bool (i != j)) w:=oB hx aH (binOp_neq t k i j) rfl
end
def ez (P:Program) (t:TypeId) (k:Nat):Prop:=∀ w,(sizeOf t).run P w= .ok k w
def eP (P:Program) (t:TypeId) (b:Bool):Prop:=∀ w,(isAgg t).run P w= .ok b w
def la (P:Program) (t:TypeId) (v:Value):Prop:=∀ w,(zeroValue t).run P w= .ok v w
def Fd (P:Program) (t:TypeId) (i off:Nat):Prop:=∀ w g o,(Instr.fieldAt t (.pointer (some ⟨g,o,none⟩)) i).run P w= .ok (.pointer (some ⟨g,o+off,none⟩)) w
section
variable {b o k:Nat} {cs:List Value}
theorem au {i off:Nat} (hf:Fd P t i off) (hx:ev E x=some (.pointer (some ⟨b,o,none⟩))):cT P E ⟨d, .fieldAddr t x i,ty,pos,af,g⟩ w (.pointer (some ⟨b,o+off,none⟩)) w:=fun n a ha=>by
 simp only [execOp,ha.ev hx,aUv,hf w b o,aUo,aUA]
theorem MA {e:TypeId} {size len cap:Nat} {Yc:IntKind} {i:Int} (j:Nat) (aF:P.underlying t=some (.slice e)) (hs:ez P e size) (hx:ev E x=some (.slice (some ⟨b,o,none⟩) len cap)) (aq:ev E y=some (.int Yc i)) (aA:i=(j:Int)) (bE:j<len):
  cT P E ⟨d, .indexAddr t x y,ty,pos,af,g⟩ w (.pointer (some ⟨b,o+j * size,none⟩)) w:=fun n a ha=>by
 subst aA;simp only [execOp,ha.ev hx,ha.ev aq,Instr.indexAt,asIntOf,aUv,aUA,aUo,aVw aF];rw [aUz ⟨by omega,by omega⟩];simp only [aUv,hs w,aUo,aUA,aVc,Hw]
def iI (P:Program) (w:World) (t:TypeId) (p:Addr) (v:Value):Prop:=(loadVar t p).run P w= .ok v w
theorem iI.one {p:Addr} (aF:eP P t false) (h:w.cell? p=some v):iI P w t p v:=by
 unfold iI loadVar;simp only [aUv,aF w,aUo,aUY,aVs,run_load,h]
theorem iI.agg (aF:eP P t true) (hs:ez P t cs.length) (h:∀ j v,cs[j]? =some v→w.cell? ⟨b,o+j,none⟩=some v):iI P w t ⟨b,o,none⟩ (.agg cs.toArray):=by
 unfold iI loadVar;simp only [aUv,aF w,aUo,aVZ,hs w,run_loadCells_list w ⟨b,o,none⟩ cs (fun j v aA=>by rw [Hw];exact h j v aA),aUA]
theorem ak {p:Addr} (hx:ev E x=some (.pointer (some p))) (h:iI P w t p v):cT P E ⟨d, .load t x,ty,pos,af,g⟩ w v w:=fun n a ha=>by
 unfold iI at h;simp only [execOp,ha.ev hx,Instr.loadAt,Instr.sureAddr,aUv,aUA,aUo,h]
theorem aN.one {p:Nat} {cur:List Value} {e:TypeId} {aC:Nat×Nat} (h:aN w b cur e aC) (aF:eP P t false) (hv:cur[p]? =some v):iI P w t ⟨b,p,none⟩ v:=iI.one aF (by rw [h.cell,hv])
theorem aN.agg {p:Nat} {cur:List Value} {e:TypeId} {aC:Nat×Nat} (h:aN w b cur e aC) (aF:eP P t true) (hs:ez P t cs.length) (hv:(cur.drop p).take cs.length=cs):iI P w t ⟨b,p,none⟩ (.agg cs.toArray):=
 iI.agg aF hs fun j v aA=>by
  rw [h.cell,← aA];have aB:=(aUj.1 aA).1
  conv=>rhs;rw [← hv]
  rw [aYE aB,aVo]
theorem cI {op:Op} {d:Nat} {cs:List Value} (wg:op= .box t x) (hx:ev E x=some v) (hc:v.cells=cs.toArray) (hd:Nat.blt d n=true)
  (h:∀ aP b,Ext w aP→w.heap.size≤b→aN aP b cs t (0,0)→cG P n ops Q rest ((d, .pointer (some ⟨b,0,none⟩))::E) aP):cG P n ops Q (⟨some d,op,ty,pos,af,none⟩::rest) E w:=by
 subst wg;refine iC (w':=w.alloc (.cells v.cells t)) (v:= .pointer (some ⟨w.heap.size,0,none⟩)) (fun n a ha=> ?_) hd (h _ _ ((aUN _ w).alloc (aUu _) _) (aUu _) (by rw [hc];exact aN.new w cs t (0,0)));simp only [execOp,ha.ev hx,Instr.box,newVar,newRow,aUv,aYo,aUo,aUA]
theorem al {op:Op} {d:Nat} {cs:List Value} (wg:op= .alloc t) (bB:la P t v) (hc:v.cells=cs.toArray) (hd:Nat.blt d n=true)
  (h:∀ aP b,Ext w aP→w.heap.size≤b→aN aP b cs t (0,0)→cG P n ops Q rest ((d, .pointer (some ⟨b,0,none⟩))::E) aP):cG P n ops Q (⟨some d,op,ty,pos,af,none⟩::rest) E w:=by
 subst wg;refine iC (w':=w.alloc (.cells v.cells t)) (v:= .pointer (some ⟨w.heap.size,0,none⟩)) (fun n a ha=> ?_) hd (h _ _ ((aUN _ w).alloc (aUu _) _) (aUu _) (by rw [hc];exact aN.new w cs t (0,0)));simp only [execOp,Instr.alloc,aUv,bB w,newVar,newRow,aYo,aUo,aUA]
end
end
section
variable {P:Program} {n:Nat} {E c0:List (Nat×Value)} {a:Act} {w w' w0 aP:World} {Q:Exit→Act→World→Prop} {ops:Array Oper} {v:Value} {a6:Nat→Nat}
variable {d:Option Nat} {ty:TypeId} {pos:String} {af:Array Edge} {g:Option (Nat×Bool)} {x y z:Operand} {t:TypeId} {rest:List Oper} {bZ:List Nat} {i:Nat}
def iF (P:Program) (n:Nat) (ops:Array Oper) (Q:Exit→Act→World→Prop) (a6:Nat→Nat) (bZ:List Nat) (E:List (Nat×Value)) (w0:World):Prop:=∀ a,ew n E a→u_ P ops (gO (Q .normal)) a6 bZ a w0
def mn (l:List (Nat×Nat)) (i:Nat):Nat:=match l with
 | []=>1
 | (j,k)::r=>match Nat.beq j i with | true=>k | false=>mn r i
theorem rd {id:Nat} (kS:List (Nat×Nat)) (bZ:List Nat) (hm:P.follows .mixedOrders=true) (ba:(Region.noSelect ops && (bZ.length == ops.size) && kl ops (mn kS) bZ (Array.replicate ops.size false))=true)
  (h:iF P n ops Q (mn kS) bZ E w):W P n (.region id ops true) Q E w:=fun a ha=>aDz bZ hm ba (h a ha)
theorem fn (h:∀ w,Ext w0 w→N n Q E w):iF P n ops Q a6 [] E w0:=fun a ha w hw=>h w hw a ha
theorem yp {o:Oper} (aS:o.guard=none):Region.wanted o (yielded ops a.tmps)=true:=by simp [Region.wanted,aS]
theorem afW {d:Nat} {op:Op} (aq:ops[i]? =some ⟨some d,op,ty,pos,af,none⟩) (aw:a6 i=0) (hr:∀ w,Ext w0 w→cT P E ⟨some d,op,ty,pos,af,none⟩ w v w) (hd:Nat.blt d n=true)
  (h:iF P n ops Q a6 bZ ((d,v)::E) w0):iF P n ops Q a6 (i::bZ) E w0:=fun a ha =>
 ⟨_,aq, .inl ⟨aw,v, .inl ⟨yp rfl,fun w hw=>by rw [hr w hw n a ha];exact ⟨rfl,rfl⟩⟩,h _ (ha.put hd v)⟩⟩
theorem rU {d:Nat} {op:Op} (aq:ops[i]? =some ⟨some d,op,ty,pos,af,none⟩) (aw:a6 i=1) (hr:∀ w,cT P E ⟨some d,op,ty,pos,af,none⟩ w v w) (hd:Nat.blt d n=true)
  (h:iF P n ops Q a6 bZ ((d,v)::E) w0):iF P n ops Q a6 (i::bZ) E w0:=fun a ha =>
 ⟨_,aq, .inr (.inl ⟨aw,v, .inl ⟨yp rfl,fun w=>hr w n a ha⟩,h _ (ha.put hd v)⟩)⟩
theorem pT {d:Nat} {f:FuncId} {xs:Array Operand} {ts:Array TypeId} {args:List Value} (aq:ops[i]? =some ⟨some d, .call {callee:= .value (.func f),args:=xs,argTypes:=ts},ty,pos,af,none⟩) (aw:a6 i=0) (hf:Enters P f) (he:hz E xs.toList=some args)
  (hr:∀ w,Ext w0 w→Calls P f args.toArray w fun e w'=>e= .returned v∧Ext w w') (hd:Nat.blt d n=true)
  (h:iF P n ops Q a6 bZ ((d,v)::E) w0):iF P n ops Q a6 (i::bZ) E w0:=fun a ha =>
 ⟨_,aq, .inl ⟨aw,v, .inl ⟨yp rfl,fun w hw=>by rw [Jq hf ha he];exact ⟨rfl,hr w hw⟩⟩,h _ (ha.put hd v)⟩⟩
theorem Ej {o:Oper} {j:Nat} {q b:Bool} {dm:Oper} {jc:Nat} (aS:o.guard=some (j,q)) (aA:ops[j]? =some dm) (nF:dm.dst=some jc) (Φ:look E jc=some (.bool b)) (ha:ew n E a):Region.wanted o (yielded ops a.tmps)=(b == q):=by
 have:=ha.g _ _ Φ;cases b<;>cases q<;>simp [Region.wanted,aS,yielded,aA,nF,this]
theorem cz {d:Nat} {op:Op} {j:Nat} {q b c:Bool} {dm:Oper} {jc:Nat} (aq:ops[i]? =some ⟨some d,op,ty,pos,af,some (j,q)⟩) (aw:a6 i=0) (aA:ops[j]? =some dm) (nF:dm.dst=some jc) (Φ:look E jc=some (.bool b)) (hc:(b == q)=c)
  (hr:c=true→∀ w,Ext w0 w→cT P E ⟨some d,op,ty,pos,af,some (j,q)⟩ w v w) (hd:Nat.blt d n=true)
  (h:iF P n ops Q a6 bZ ((d,ik c v)::E) w0):iF P n ops Q a6 (i::bZ) E w0:=fun a ha=>by
 have hw:=Ej (o:=⟨some d,op,ty,pos,af,some (j,q)⟩) rfl aA nF Φ ha;rw [hc] at hw;refine ⟨_,aq, .inl ⟨aw,ik c v, ?_,h _ (ha.put hd _)⟩⟩;cases c with
 | true=>exact .inl ⟨hw,fun w hx=>by rw [hr rfl w hx n a ha];exact ⟨rfl,rfl⟩⟩
 | false=>exact .inr ⟨hw,rfl⟩
theorem a1 {d:Nat} {op:Op} {j:Nat} {q b c:Bool} {dm:Oper} {jc:Nat} (aq:ops[i]? =some ⟨some d,op,ty,pos,af,some (j,q)⟩) (aw:a6 i=1) (aA:ops[j]? =some dm) (nF:dm.dst=some jc) (Φ:look E jc=some (.bool b)) (hc:(b == q)=c)
  (hr:c=true→∀ w,cT P E ⟨some d,op,ty,pos,af,some (j,q)⟩ w v w) (hd:Nat.blt d n=true)
  (h:iF P n ops Q a6 bZ ((d,ik c v)::E) w0):iF P n ops Q a6 (i::bZ) E w0:=fun a ha=>by
 have hw:=Ej (o:=⟨some d,op,ty,pos,af,some (j,q)⟩) rfl aA nF Φ ha;rw [hc] at hw;refine ⟨_,aq, .inr (.inl ⟨aw,ik c v, ?_,h _ (ha.put hd _)⟩)⟩;cases c with
 | true=>exact .inl ⟨hw,fun w=>hr rfl w n a ha⟩
 | false=>exact .inr ⟨hw,rfl⟩
theorem ff {d:Nat} {f:FuncId} {xs:Array Operand} {ts:Array TypeId} {args:List Value} {j:Nat} {q b c:Bool} {dm:Oper} {jc:Nat} (aq:ops[i]? =some ⟨some d, .call {callee:= .value (.func f),args:=xs,argTypes:=ts},ty,pos,af,some (j,q)⟩) (aw:a6 i=0) (aA:ops[j]? =some dm) (nF:dm.dst=some jc) (Φ:look E jc=some (.bool b)) (hc:(b == q)=c)
  (hf:Enters P f) (he:c=true→hz E xs.toList=some args)
  (hr:c=true→∀ w,Ext w0 w→Calls P f args.toArray w fun e w'=>e= .returned v∧Ext w w') (hd:Nat.blt d n=true)
  (h:iF P n ops Q a6 bZ ((d,ik c v)::E) w0):iF P n ops Q a6 (i::bZ) E w0:=fun a ha=>by
 have hw:=Ej (o:=⟨some d, .call {callee:= .value (.func f),args:=xs,argTypes:=ts},ty,pos,af,some (j,q)⟩) rfl aA nF Φ ha;rw [hc] at hw;refine ⟨_,aq, .inl ⟨aw,ik c v, ?_,h _ (ha.put hd _)⟩⟩;cases c with
 | true=>exact .inl ⟨hw,fun w hx=>by rw [Jq hf ha (he rfl)];exact ⟨rfl,hr rfl w hx⟩⟩
 | false=>exact .inr ⟨hw,rfl⟩
def E_ (P:Program) (n:Nat) (ops:Array Oper) (o:Oper) (E:List (Nat×Value)) (w:World) (K:List (Nat×Value)→World→Prop):Prop :=
 ∀ (Q:Exit→Act→World→Prop),(∀ c0 w',K c0 w'→cG P n ops Q [] c0 w')→cG P n ops Q [o] E w
theorem aGI {UJ apn:Exit→Act→World→Prop} {o:Oper} {K:Act→World→Prop} (hp:∀ c a w,¬ UJ (.panic c) a w) (b5:¬ LetsOut UJ) (h:o.wp P a w K UJ):o.wp P a w K apn:=by
 unfold Oper.wp at *
 generalize (execOp a.eval o).run P w=r at *
 cases r with
 | ok m w' =>
  cases m<;>simp only [Oper.upon] at h ⊢ <;>
   first
    | exact h
    | exact aXH h (fun e lN he=>by cases e<;>first | exact he | exact (hp _ _ _ he).elim | exact (b5 he).elim)
 | halt x w'=>cases x<;>simp only [Oper.upon] at h ⊢<;>first | exact h | exact (hp _ _ _ h).elim
theorem Jt {o:Oper} (aS:o.guard=none) (aq:ops[i]? =some o) {K:Act→World→Prop} {E:List (Nat×Value)} {w:World} {acg:List (Nat×Value)→World→Prop} (h:E_ P n ops o E w acg) (hK:∀ c0 w' a',acg c0 w'→ew n c0 a'→K a' w') (ha:ew n E a):
  wpOp P ops (gO (Q .normal)) i K a w:=by
 have:=h (gO K) (fun c0 w' aw a' rX=>hK c0 w' a' aw rX) a ha;unfold wpList at this;unfold wpOp;simp only [aq];rw [aUz (yp aS)] at this ⊢;rcases this with h | ⟨h,a,w,aa⟩
 ·exact .inl (aGI (fun _ _ _ h=>h) (fun ⟨_,_,h⟩=>h) h)
 ·exact aa.elim
theorem fS {o:Oper} (aS:o.guard=none) (aq:ops[i]? =some o) (aw:a6 i=2) (h:∀ w,Ext w0 w→E_ P n ops o E w fun c0 w'=>Ext w0 w'∧iF P n ops Q a6 bZ c0 w'):iF P n ops Q a6 (i::bZ) E w0:=fun a ha =>
 ⟨_,aq, .inr (.inr ⟨by omega,fun w hw=>Jt aS aq (h w hw) (fun c0 w' a' aw rX=>⟨fun _=>aw.1,aw.2 a' rX⟩) ha⟩)⟩
theorem en {o:Oper} (aS:o.guard=none) (aq:ops[i]? =some o) (aw:a6 i=3) (h:∀ w,Ext w0 w→E_ P n ops o E w fun c0 w'=>iF P n ops Q a6 bZ c0 w'):iF P n ops Q a6 (i::bZ) E w0:=fun a ha =>
 ⟨_,aq, .inr (.inr ⟨by omega,fun w hw=>Jt aS aq (h w hw) (fun c0 w' a' aw rX=>⟨fun aa=>by omega,aw a' rX⟩) ha⟩)⟩
end
structure Mod (S:List Nat) (w w':World):Prop where
 os:w'.os=w.os
 tape:w'.tape=w.tape
 output:w'.output=w.output
 size:w.heap.size≤w'.heap.size
 block:∀ k,k<w.heap.size→k∉S→w'.heap[k]? =w.heap[k]?
section
variable {S S':List Nat} {w w' w0 aP cE:World} {B:Nat}
theorem Mod.bF (h:Ext w w'):Mod S w w':=⟨h.os,h.tape,h.output,h.size,fun k aw _=>h.block k aw⟩
theorem Mod.below {ax:Nat} (h:Mod S w w') (hS:∀ x∈S,ax≤x) (uD:ax≤w.heap.size):Below ax w w' :=
 ⟨h.os,h.tape,h.output,h.size,fun k aw=>h.block k (by omega) fun hm=>by have:=hS k hm;omega⟩
theorem Ext.mod (h:Ext w0 w) (hm:Mod S w w') (hS:∀ x∈S,w0.heap.size≤x):Ext w0 w':=Below.trans h (hm.below hS h.size)
theorem Mod.bK (S:List Nat) (w:World):Mod S w w:=⟨rfl,rfl,rfl,aUu _,fun _ _ _=>rfl⟩
theorem Mod.md (h:Mod S w aP) (dk:Mod S' aP cE) (hs:∀ q∈S',q∈S∨w.heap.size≤q):Mod S w cE :=
 ⟨dk.os.trans h.os,dk.tape.trans h.tape,dk.output.trans h.output,aUP h.size dk.size,fun k aw hn=>(dk.block k (aVN aw h.size) fun hm=>(hs k hm).elim hn (fun h=>by omega)).trans (h.block k aw hn)⟩
theorem Mod.sub (h:Mod S w w') (hs:∀ x∈S,x∈S'):Mod S' w w':=⟨h.os,h.tape,h.output,h.size,fun k aw hn=>h.block k aw fun hm=>hn (hs k hm)⟩
theorem Mod.trans (h:Mod S w aP) (dk:Mod S aP cE):Mod S w cE :=
 ⟨dk.os.trans h.os,dk.tape.trans h.tape,dk.output.trans h.output,aUP h.size dk.size,fun k aw hn=>(dk.block k (aVN aw h.size) hn).trans (h.block k aw hn)⟩
theorem Mod.grown {row:Option Nat} (h:w.grownBy w' row):Mod row.toList w w' :=
 ⟨h.os,h.tape,h.output,h.size,fun k aw hn=>h.block k aw fun e=>hn (by rw [← e];simp)⟩
theorem Mod.setRow (w:World) (b:Nat) (cs:Array Value):Mod [b] w (w.setRow b cs):=by
 refine ⟨Z,Z,Z,by simp [World.setRow],fun k aw hn=> ?_⟩;simp only [World.setRow,aXG];rw [aUr (by simp at hn;omega)]
theorem Mod.setCell (w:World) (p:Addr) (u:Value):Mod [p.block] w (w.setCell p u):=by
 refine ⟨Z,Z,Z,by simp [World.setCell],fun k aw hn=> ?_⟩;exact Below.heap_setCell _ _ _ _ (by simpa using hn)
theorem aN.mod {g:Nat} {cur:List Value} {e:TypeId} {aC:Nat×Nat} (h:aN w g cur e aC) (hm:Mod S w w') (aS:g∉S):aN w' g cur e aC:=by
 unfold aN at *
 rw [hm.block g (aUT.1 h).1 aS];exact h
theorem κ.aD.mod {α:Type} {R:κ α} {E by_:Nat} {f:List Nat} {A:Option Addr} {c:Nat} {l:List α} (h:R.aD E by_ w B f A c l) (hm:Mod S w w') (hd:∀ x∈f,x∉S):R.aD E by_ w' B f A c l :=
 h.keep fun g aS=>hm.block g (h.lt g aS).2 (hd g aS)
end
section
variable {P:Program} {n:Nat} {E c0:List (Nat×Value)} {a:Act} {w w' w0 aP:World} {Q:Exit→Act→World→Prop} {ops:Array Oper} {v:Value}
variable {d:Option Nat} {ty:TypeId} {pos:String} {af:Array Edge} {g:Option (Nat×Bool)} {x y z:Operand} {t:TypeId} {rest:List Oper}
theorem ZF {b p:Nat} {cur cs:List Value} {e:TypeId} (ba:aN w b cur e (0,0)) (hc:v.cells=cs.toArray) (hs:ez P t cs.length) (γ:cs.all (·.oneCell')=true) (aB:p+cs.length≤cur.length):
  (storeVar t ⟨b,p,none⟩ v).run P w= .ok () (w.setRow b (cur.take p++cs++cur.drop (p+cs.length)).toArray):=by
 unfold storeVar;simp only [hc,aUv,hs w,aUo,aVC,aZg,aWS,aVs];have:=run_storeCells_at P b p e cs 0 cur.toArray w ba (by simpa using aB) (fun v hv=>aU7.1 γ v hv);simpa using this
theorem st {b p:Nat} {cur cs new:List Value} {e:TypeId} (hx:ev E x=some (.pointer (some ⟨b,p,none⟩))) (aH:ev E y=some v) (ba:aN w b cur e (0,0)) (hc:v.cells=cs.toArray) (hs:ez P t cs.length) (γ:cs.all (·.oneCell')=true) (aB:Nat.ble (p+cs.length) cur.length=true)
  (hn:cur.take p++cs++cur.drop (p+cs.length)=new)
  (h:∀ aP,Mod [b] w aP→aN aP b new e (0,0)→cG P n ops Q rest E aP):cG P n ops Q (⟨none, .store t x y,ty,pos,af,none⟩::rest) E w:=by
 refine us (w':=w.setRow b new.toArray) (fun n a ha=> ?_) (h _ (Mod.setRow w b _) (by rw [← hn];exact ba.setRow _));have:=ZF (P:=P) ba hc hs γ (aWj aB);rw [hn] at this;simp only [execOp,ha.ev hx,ha.ev aH,Instr.storeAt,Instr.sureAddr,aUv,aUA,aUo,this]
theorem bi {HD:Builtin} {xs:Array Operand} {ts:Array TypeId} {vs:List Value} (he:hz E xs.toList=some vs) (h:∀ cs,(builtin HD ts ty cs vs.toArray).run P w= .ok (.value v) w'):
  cT P E ⟨d, .call {callee:= .builtin HD,args:=xs,argTypes:=ts},ty,pos,af,g⟩ w v w':=fun n a ha=>by
 have hm:xs.map a.eval=vs.toArray:=by rw [← ha.hz he];apply aVK;simp
 simp only [execOp,resolve,invoke,hm,aUv,aUA,aUo,h]
theorem cj {A:Option Addr} {len cap e:Nat} (aF:P.underlying t=some (.slice e)) (hx:ev E x=some (.slice A len cap)):cT P E ⟨d, .call {callee:= .builtin .len,args:=#[x],argTypes:=#[t]},ty,pos,af,g⟩ w (.int .i64 (len:Int)) w :=
 bi (vs:= [.slice A len cap]) (by simp only [hz,hx]) fun cs=>by
  have γ:P.underlying t=some (.slice (P.elem t)):=by simp [Program.elem,aF]
  have:=run_len_slice (P:=P) w t ty A len cap γ;simp only [builtin,aUv,this,aUo,aUA];rfl
theorem cb {f:FuncId} {fn:Func} (h:P.funcs[f]? =some fn) (γ:(fn.name == "runtime.NumGoroutine")=false:=by kernel_rfl) (aa:fn.body.isNone=false:=by kernel_rfl):Enters P f:=⟨fn,h,γ,aa⟩
theorem Tz {o:Oper} {c:Bool} (hw:∀ a,ew n E a→Region.wanted o (yielded ops a.tmps)=c) (γ:c=true→∀ a,ew n E a→o.wp P a w (wpList P ops Q rest) Q) (aa:c=false→∀ a,ew n E a→wpList P ops Q rest (a.put o.dst undef) w):cG P n ops Q (o::rest) E w:=fun a ha=>by
 unfold wpList;rw [hw a ha];cases c with
 | true=>rw [aUz rfl];exact .inl (γ Z a ha)
 | false=>rw [aUr (by decide)];exact aa Z a ha
theorem br {d:Nat} {op:Op} {j:Nat} {q b c:Bool} {dm:Oper} {jc:Nat} (aA:ops[j]? =some dm) (nF:dm.dst=some jc) (Φ:look E jc=some (.bool b)) (hc:(b == q)=c)
  (hr:c=true→cT P E ⟨some d,op,ty,pos,af,some (j,q)⟩ w v w) (hd:Nat.blt d n=true) (h:cG P n ops Q rest ((d,ik c v)::E) w):cG P n ops Q (⟨some d,op,ty,pos,af,some (j,q)⟩::rest) E w :=
 Tz (c:=c) (fun a ha=>by rw [Ej (o:=⟨some d,op,ty,pos,af,some (j,q)⟩) rfl aA nF Φ ha,hc])
  (fun hc a ha=>by unfold Oper.wp;rw [hr hc n a ha];subst hc;exact h _ (ha.put hd v)) (fun hc a ha=>by subst hc;exact h _ (ha.put hd undef))
theorem zX {d:Nat} {f:FuncId} {xs:Array Operand} {ts:Array TypeId} {args:List Value} {j:Nat} {q b c:Bool} {dm:Oper} {jc:Nat} (aA:ops[j]? =some dm) (nF:dm.dst=some jc) (Φ:look E jc=some (.bool b)) (hc:(b == q)=c)
  (hf:Enters P f) (he:c=true→hz E xs.toList=some args) (hr:c=true→Calls P f args.toArray w fun e w'=>e= .returned v∧Ext w w') (hd:Nat.blt d n=true)
  (h:∀ w',Ext w w'→cG P n ops Q rest ((d,ik c v)::E) w'):cG P n ops Q (⟨some d, .call {callee:= .value (.func f),args:=xs,argTypes:=ts},ty,pos,af,some (j,q)⟩::rest) E w :=
 Tz (c:=c) (fun a ha=>by rw [Ej (o:=⟨some d,_,ty,pos,af,some (j,q)⟩) rfl aA nF Φ ha,hc])
  (fun hc a ha=>by unfold Oper.wp;rw [Jq hf ha (he hc)];exact (hr hc).mono fun e w' ⟨γ,hx⟩=>by subst γ;subst hc;exact h w' hx _ (ha.put hd v)) (fun hc a ha=>by subst hc;exact h w (Ext.bK w) _ (ha.put hd undef))
theorem iV {d:Option Nat} {op:Op} {j:Nat} {q:Bool} {dm:Oper} {jc:Nat} (aA:ops[j]? =some dm) (nF:dm.dst=some jc) (Φ:look E jc=some (.bool q)) (h:cG P n ops Q (⟨d,op,ty,pos,af,none⟩::rest) E w):cG P n ops Q (⟨d,op,ty,pos,af,some (j,q)⟩::rest) E w:=fun a ha=>by
 have h:=h a ha;have hw:=Ej (o:=⟨d,op,ty,pos,af,some (j,q)⟩) (q:=q) rfl aA nF Φ ha;unfold wpList at h ⊢;rw [aUz (yp rfl)] at h;rw [hw,aUz (by cases q<;>rfl)];exact h
theorem gU {x:Operand} {b c:Bool} (h:ev E x=some (.bool b)) (e:b=c):ev E x=some (.bool c):=by rw [h,e]
theorem I_ {afM:Fn} {fs cs:Array Operand} {l m:List Value} (γ:hz E fs.toList=some l) (aa:hz E cs.toList=some m):cT P E ⟨d, .makeFunc afM fs cs,ty,pos,af,g⟩ w (.func afM l.toArray m.toArray) w:=fun n a ha=>by
 have a8:fs.map a.eval=l.toArray:=by rw [← ha.hz γ];apply aVK;simp
 have bl:cs.map a.eval=m.toArray:=by rw [← ha.hz aa];apply aVK;simp
 simp only [execOp,a8,bl,Instr.makeFunc,aUv,aUA,aUo]
def xF (E:List (Nat×Value)):List (Nat×Operand)→Option (List (Nat×Value))
 | []=>some []
 | (i,x)::r=>match ev E x with
  | some v=>match xF E r with
   | some l=>some ((i,v)::l)
   | none=>none
  | none=>none
theorem ew.xF (h:ew n E a):∀ {l:List (Nat×Operand)} {vs:List (Nat×Value)},xF E l=some vs→l.map (fun (i,x)=>(i,a.eval x))=vs
 | [],vs,e=>by simp only [Proofs.YtlikikpgmmkjbaaGreat.xF] at e;exact aUh e
 | (i,x)::r,vs,e=>by
  simp only [Proofs.YtlikikpgmmkjbaaGreat.xF] at e;cases hx:Proofs.YtlikikpgmmkjbaaGreat.ev E x with
  | none=>rw [hx] at e;cases e
  | some v =>
   rw [hx] at e;simp only at e;cases hr:Proofs.YtlikikpgmmkjbaaGreat.xF E r with
   | none=>rw [hr] at e;cases e
   | some l =>
    rw [hr] at e;simp only at e;obtain rfl:=aUh e;rw [aU4,ew.xF h hr];simp only [h.ev hx]
theorem cM {ps:Array (Nat×Operand)} {l:List (Nat×Value)} (he:xF E ps.toList=some l) (hr:(Instr.build t l.toArray).run P w= .ok v w):cT P E ⟨d, .build t ps,ty,pos,af,g⟩ w v w:=fun n a ha=>by
 have a8:ps.map (fun (i,x)=>(i,a.eval x))=l.toArray:=by rw [← ha.xF he];apply aVK;simp
 simp only [execOp,a8,aUv,hr,aUo,aUA]
theorem c6 {ps:Array (Nat×Operand)} {l:List (Nat×Value)} {d k e:Nat} {cs:List Value} (he:xF E ps.toList=some l) (hr:∀ w,(Instr.buildSlice t k l.toArray).run P w= .ok (.slice (some ⟨w.heap.size,0,none⟩) k k) (w.alloc (.cells cs.toArray e))) (hd:Nat.blt d n=true)
  (h:∀ aP b,Ext w aP→w.heap.size≤b→aN aP b cs e (0,0)→cG P n ops Q rest ((d, .slice (some ⟨b,0,none⟩) k k)::E) aP):cG P n ops Q (⟨some d, .buildSlice t k ps,ty,pos,af,none⟩::rest) E w:=by
 refine iC (w':=w.alloc (.cells cs.toArray e)) (v:= .slice (some ⟨w.heap.size,0,none⟩) k k) (fun n a ha=> ?_) hd (h _ _ ((aUN _ w).alloc (aUu _) _) (aUu _) (aN.new w cs e (0,0)));have a8:ps.map (fun (i,x)=>(i,a.eval x))=l.toArray:=by rw [← ha.xF he];apply aVK;simp
 simp only [execOp,a8,aUv,hr,aUo,aUA]
def cu (A:Option Addr):Nat:=match A with | some a=>a.block | none=>0
def du (A:Option Addr):Nat:=match A with | some a=>a.off | none=>0
theorem κ.aK.bu {α:Type} {R:κ α} {by_ c:Nat} {A:Option Addr} {l:List α} (h:R.aK by_ w A c l) (aI:0<l.length):A=some ⟨cu A,du A,none⟩:=by
 obtain ⟨b,o,rfl,_⟩:=h.at_ aI;rfl
theorem κ.aK.cr {α:Type} {R:κ α} {by_ c:Nat} {A:Option Addr} {l:List α} (h:R.aK by_ w A c l) (aI:0<l.length):R.aK by_ w (some ⟨cu A,du A,none⟩) c l:=by
 rw [← h.bu aI];exact h
theorem bY {e:TypeId} {size len cap b o:Nat} {Yc:IntKind} {i:Int} {A:Option Addr} (j:Nat) (aF:P.underlying t=some (.slice e)) (hs:ez P e size) (hx:ev E x=some (.slice A len cap)) (aq:ev E y=some (.int Yc i)) (hA:A=some ⟨b,o,none⟩) (aA:i=(j:Int)) (bE:j<len):
  cT P E ⟨d, .indexAddr t x y,ty,pos,af,g⟩ w (.pointer (some ⟨b,o+j * size,none⟩)) w:=by subst hA;exact MA j aF hs hx aq aA bE
theorem dH {α:Type} {l:List α} {j:Nat} {u:α} (h:j<l.length):l[j]? =some (l.getD j u):=by rw [aUi,aUk h];rfl
section
variable {α:Type} {R:κ α} {by_ c b o j:Nat} {l:List α} {cells:α→List Value} {q u:α}
theorem κ.aK.j9 (hc:∀ {w cs a},R.has w cs a→cs=cells a) (h:R.aK by_ w (some ⟨b,o,none⟩) c l) (k:Nat) (aA:l[j]? =some q) (hu:(cells q)[k]? =some v) (aF:eP P t false):iI P w t ⟨b,o+j * R.size+k,none⟩ v:=by
 obtain ⟨rH,Ny,e,dB⟩:=h.at_ (by have:=(aUj.1 aA).1;omega);injection e with e;injection e with a8 bl;subst a8;subst bl
 obtain ⟨es,γ,aa⟩:=dB j q aA;rw [hc γ] at aa;exact iI.one aF (by rw [aWF];exact aa k v hu)
theorem κ.aK.fu (hc:∀ {w cs a},R.has w cs a→cs=cells a) (h:R.aK by_ w (some ⟨b,o,none⟩) c l) (aA:l[j]? =some q) (hu:(cells q)[0]? =some v) (aF:eP P t false):iI P w t ⟨b,o+j * R.size,none⟩ v:=h.j9 hc 0 aA hu aF
theorem κ.aK.hb (hc:∀ {w cs a},R.has w cs a→cs=cells a) (h:R.aK by_ w (some ⟨b,o,none⟩) c l) (aA:l[j]? =some q) (aF:eP P t true) (hs:ez P t (cells q).length):iI P w t ⟨b,o+j * R.size,none⟩ (.agg (cells q).toArray):=by
 obtain ⟨rH,Ny,e,dB⟩:=h.at_ (by have:=(aUj.1 aA).1;omega);injection e with e;injection e with a8 bl;subst a8;subst bl
 obtain ⟨es,γ,aa⟩:=dB j q aA;rw [hc γ] at aa;exact iI.agg aF hs fun k v aw=>by rw [aWF];exact aa k v aw
theorem κ.aK.part (hc:∀ {w cs a},R.has w cs a→cs=cells a) (h:R.aK by_ w (some ⟨b,o,none⟩) c l) (k:Nat) {ds:List Value} (aA:l[j]? =some q) (hd:((cells q).drop k).take ds.length=ds) (aF:eP P t true) (hs:ez P t ds.length):iI P w t ⟨b,o+j * R.size+k,none⟩ (.agg ds.toArray):=by
 obtain ⟨rH,Ny,e,dB⟩:=h.at_ (by have:=(aUj.1 aA).1;omega);injection e with e;injection e with a8 bl;subst a8;subst bl
 obtain ⟨es,γ,aa⟩:=dB j q aA;rw [hc γ] at aa;refine iI.agg aF hs fun i v aq=> ?_;rw [aWF,aWF];refine aa _ v ?_;rw [← hd] at aq;have aB:=(aUj.1 aq).1;rw [aUm] at aB
 rwa [aYE (by omega),aVo] at aq
end
theorem aN.all {b:Nat} {cur:List Value} {e:TypeId} {aC:Nat×Nat} (h:aN w b cur e aC) (aF:eP P t true) (hs:ez P t cur.length):iI P w t ⟨b,0,none⟩ (.agg cur.toArray):=
 iI.agg aF hs fun j v aA=>by rw [h.cell,aVm,aA]
theorem aN.par {b p:Nat} {cur:List Value} {e:TypeId} {aC:Nat×Nat} (h:aN w b cur e aC) (cs:List Value) (aF:eP P t true) (hs:ez P t cs.length) (hv:(cur.drop p).take cs.length=cs):iI P w t ⟨b,p,none⟩ (.agg cs.toArray):=h.agg aF hs hv
end
open Tryz

section
variable {P:Program} {n:Nat} {E c0:List (Nat×Value)} {a:Act} {w w' w0 aP:World} {Q:Exit→Act→World→Prop} {ops:Array Oper} {v:Value}
theorem bH {x:Int} (h: -9223372036854775808≤x∧x≤9223372036854775807):IntKind.i64.wrap x=x:=IntWalk.i64_in x h
section
variable {d:Option Nat} {ty:TypeId} {pos:String} {af:Array Edge} {g:Option (Nat×Bool)} {x y:Operand} {t u:TypeId} {k:IntKind} {i j r:Int}
theorem nz (hx:ev E x=some (.int k i)) (aH:ev E y=some (.int k j)) (h:k.wrap (i+j)=i+j) (he:i+j=r):cT P E ⟨d, .binOp .add t x y u,ty,pos,af,g⟩ w (.int k r) w:=by subst he;exact bad hx aH h
end
theorem th {p:Nat→Prop} {k:Nat} (h:∀ j,j<k→p j) (aw:p k):∀ j,j<k+1→p j:=fun j aA=>(aXh.1 aA).elim (h j) fun e=>e ▸ aw
theorem gV {w:World} {cs:List Value} {a:Int} (h:bS.has w cs a):cs= [.int .i64 a]:=aWw (show cs= [.int .i64 a]∧fK a from h)
theorem agY {w:World} {cs:List Value} {a:Bool} (h:zJ.has w cs a):cs= [.bool a]:=aWw (show cs= [.bool a]∧True from h)
theorem hM {x:Operand} {r:List Operand} {l:List Value} (h:ev E x=some v) (hr:hz E r=some l):hz E (x::r)=some (v::l):=by simp only [hz,h,hr]
theorem F5 {t:Nat} {k:IntKind} {i j:Int} (h:look E t=some (.int k i)) (e:i=j):look E t=some (.int k j):=by rw [h,e]
section
variable {c:Operand} {x y:Code} {i j:Int}
theorem dw (hc:ev E c=some (.bool (decide (i<j)))) (γ:i<j→W P n x Q E w) (aa:¬ i<j→W P n y Q E w):W P n (.cond c x y) Q E w:=ee hc (fun h=>γ (aVz h)) (fun h=>aa (aWL h))
theorem HG (hc:ev E c=some (.bool (decide (i≤j)))) (γ:i≤j→W P n x Q E w) (aa:¬ i≤j→W P n y Q E w):W P n (.cond c x y) Q E w:=ee hc (fun h=>γ (aVz h)) (fun h=>aa (aWL h))
theorem kj (hc:ev E c=some (.bool (i == j))) (γ:i=j→W P n x Q E w) (aa:¬ i=j→W P n y Q E w):W P n (.cond c x y) Q E w:=ee hc (fun h=>γ (by simpa using h)) (fun h=>aa (by simpa using h))
theorem eU (hc:ev E c=some (.bool (i != j))) (γ:¬ i=j→W P n x Q E w) (aa:i=j→W P n y Q E w):W P n (.cond c x y) Q E w:=ee hc (fun h=>γ (by simpa using h)) (fun h=>aa (by simpa using h))
end
end
def fa (P:Program) {α:Type} (R:κ α) (t e:TypeId) (by_:Nat):Prop :=
 ∃ (i:TypeInfo) (z:Value),P.underlying t=some (.slice e)∧P.info? e=some i∧i.zero=some z∧i.size=R.size∧i.bytes=by_∧z.cells.size=R.size∧0<R.size∧∀ (j:Nat) u,z.cells[j]? =some u→R.raw j u
section
variable {P:Program} {n:Nat} {E c0:List (Nat×Value)} {a:Act} {w w' w0 aP:World} {Q:Exit→Act→World→Prop} {ops:Array Oper} {v:Value}
variable {d:Option Nat} {ty:TypeId} {pos:String} {af:Array Edge} {g:Option (Nat×Bool)} {x y z:Operand} {t:TypeId} {rest:List Oper}
theorem fa.lK {α:Type} {R:κ α} {t e by_ k:Nat} {z:Value} (aF:P.underlying t=some (.slice e)) (aq:(P.info? e).map (fun i=>(i.zero,i.size,i.bytes))=some (some z,k,by_)) (aw:R.size=k) (γ:z.cells.size=k) (aa:0<k) (av:∀ (j:Nat) u,z.cells[j]? =some u→R.raw j u):fa P R t e by_:=by
 cases I:P.info? e with
 | none=>rw [I] at aq;cases aq
 | some i =>
  rw [I] at aq;simp only [aVL,aWm,aYB] at aq;exact ⟨i,z,aF,I,aq.1,by rw [aq.2.1,aw],aq.2.2,by rw [γ,aw],by rw [aw];exact aa,av⟩
theorem Jn:∀ (j:Nat) u,(Value.int .i64 0).cells[j]? =some u→bS.raw j u:=by
 intro j u hu;have hu:(#[(.int .i64 0:Value)]:Array Value)[j]? =some u:=hu
 match j,hu with
 | 0,hu=>exact ⟨0,(aUh hu).symm⟩
 | j+1,hu=>simp at hu
theorem alf:∀ (j:Nat) u,(Value.bool false).cells[j]? =some u→zJ.raw j u:=by
 intro j u hu;have hu:(#[(.bool false:Value)]:Array Value)[j]? =some u:=hu
 match j,hu with
 | 0,hu=>exact ⟨false,(aUh hu).symm⟩
 | j+1,hu=>simp at hu
def UK (P:Program) (n:Nat) (c:Code) (Q:Exit→Act→World→Prop) (k:Nat) (E:List (Nat×Value)) (w:World):Prop:=∀ a,ew n E a→Code.rounds P c Q k a w
theorem F' {c:Code} (k:Nat) (h:UK P n c Q k E w):W P n (.loop c) Q E w:=fun a ha=>wp_loop_rounds k (h a ha)
theorem kp {c:Code} {k:Nat} (h:W P n c (Exit.then (Code.rounds P c Q k) Q) E w):UK P n c Q (k+1) E w:=fun a ha=>h a ha
theorem nO {c:Code} {k:Nat} (h:UK P n c Q k E w):N n (Exit.then (Code.rounds P c Q k) Q) E w:=h
theorem aN.gM {α:Type} {R:κ α} {by_ b:Nat} {cs:List Value} {e:TypeId} {aC:Nat×Nat} {q:α} (Φ:aN w b cs e aC) (h:R.has w cs q) (pY:by_≤140737488355328):R.aK by_ w (some ⟨b,0,none⟩) 1 [q]:=by
 refine ⟨aUu _,by decide,by simpa using pY,(fun h=>by cases h), [cs],⟨h,trivial⟩, ?_⟩;have aB:=R.len h;refine ⟨by simp [aB],fun _=>⟨b,0,rfl,fun j u hu=> ?_⟩⟩;rw [aVm,Φ.cell];simpa using hu
theorem aN.LX {α:Type} {R:κ α} {by_ b:Nat} {cs:List Value} {e:TypeId} {aC:Nat×Nat} {k:List α} (Φ:aN w b cs e aC) (ess:List (List Value)) (qO:ess.flatten=cs) (h:de (fun es a=>R.has w es a) ess k) (rV:k.length≤9223372036854775807) (pY:k.length * by_≤140737488355328):R.aK by_ w (some ⟨b,0,none⟩) k.length k:=by
 refine ⟨aUu _,rV,pY,(fun h=>by cases h),ess,h, ?_⟩;have aB:∀ x∈ess,x.length=R.size:=fun x hx=>by obtain ⟨a,ha⟩:=h.left x hx;exact R.len ha
 refine ⟨by rw [A1 aB,h.length],fun _=>⟨b,0,rfl,fun j u hu=> ?_⟩⟩;rw [aVm,Φ.cell,← qO];exact hu
theorem aN.wC {α:Type} {R:κ α} {by_ b B:Nat} {cs:List Value} {e:TypeId} {k:List α} (Φ:aN w b cs e (0,0)) (ess:List (List Value)) (qO:ess.flatten=cs) (h:de (fun es a=>R.has w es a) ess k) (rV:k.length≤9223372036854775807) (pY:k.length * by_≤140737488355328) (aI:0<R.size) (ba:B≤b) (hR:R.Plain:=by exact κ.o0):
  R.aD e by_ w B (κ.ae (some ⟨b,0,none⟩)) (some ⟨b,0,none⟩) k.length k:=by
 have aB:∀ x∈ess,x.length=R.size:=fun x hx=>by obtain ⟨a,ha⟩:=h.left x hx;exact R.len ha
 have hlen:cs.length=k.length * R.size:=by rw [← qO,A1 aB,h.length]
 refine κ.aD.BE hR h pY ⟨by rw [qO,hlen], .inr ⟨b,k.length,cs.toArray,rfl,ba,Φ,aUu _,rV,by simpa using hlen, ?_,fun j u hu=> ?_⟩⟩
 ·rw [qO];exact aUI (by simp [hlen])
 ·exact H6 h aI (by rw [qO];simpa using hu)
theorem ap {α:Type} {R:κ α} {e by_ base:Nat} {A cX:Option Addr} {c c2 d:Nat} {l k:List α} (nC:fa P R t e by_) (hR:R.An) (h:R.aD e by_ w base (κ.ae A) A c l) (aa:R.aK by_ w cX c2 k)
  (hs:ev E x=some (.slice A l.length c)) (hx:ev E y=some (.slice cX k.length c2)) (hlen:l.length+k.length≤9223372036854775807) (r0:(l.length+k.length) * by_≤140737488355328) (pX:base≤w.heap.size) (hd:Nat.blt d n=true)
  (aw:∀ aP bL b_,Mod (κ.ae A) w aP→R.aD e by_ aP base (κ.ae bL) bL b_ (l++k)→(∀ q∈κ.ae bL,q∈κ.ae A∨w.heap.size≤q)→(bL=none↔A=none∧k= [])→cG P n ops Q rest ((d, .slice bL (l++k).length b_)::E) aP):
  cG P n ops Q (⟨some d, .call {callee:= .builtin .append,args:=#[x,y],argTypes:=#[t,t]},ty,pos,af,none⟩::rest) E w:=fun a ha=>by
 obtain ⟨i,z,a8,bl,cZ,jP,Le,Lf,ae9,afa⟩:=nC;obtain ⟨s1,s2,Gy,SG,ess,Gz,BI⟩:=aa;obtain ⟨eX,fL⟩:=κ.akQ ess;refine κ.aGH Z x y base t e i z a8 bl cZ jP Le Lf ae9 afa (κ.ae A) A c l h cX k.length c2 k (ess.map fun es=>(([]:List Nat),es)) (κ.de.plain hR.1 Gz) Z (by rw [fL];exact BI) (by rw [eX,aUV];exact h.nodup) hlen r0 pX Z (ha.ev hs) (ha.ev hx) ?_;rintro bL b_ f' aP ⟨lM,nQ,yc,Jl,Zj,ak4⟩;obtain rfl:=lM.avk hR.2;have hm:Mod (κ.ae A) w aP:=by
  have:=Mod.grown nQ
  rwa [κ.Sp] at this
 have:=aw aP bL b_ hm lM (fun q I=>by
  rcases Jl q I with h | h | h
  ·exact .inl h
  ·rw [eX] at h;cases h
  ·exact .inr (by omega)) (by rw [Zj];exact and_congr_right fun _=>List.length_eq_zero_iff)
 rw [aUq] at this;exact this _ (ha.put hd _)
theorem Own.adS {base e size:Nat} {G:Nat→Value→Prop} {b c n:Nat} {xs:List Value} (h:Own w base e size G (.slice (some ⟨b,0,none⟩) n c) n xs):∃ cur:Array Value,w.heap[b]? =some (.cells cur e (0,0))∧cur.size=c * size∧cur.toList.take (n * size)=xs:=by
 obtain ⟨γ,aa⟩:=h;rcases aa with ⟨aa,_⟩ | ⟨g',cap,cur,hv,rH,fp,d,hm,hs,aF,bD⟩
 ·cases aa
 ·injection hv with hv _ hc
  injection hv with hv
  injection hv with hv
  subst hv;subst hc;exact ⟨cur,fp,hs,aF⟩
theorem so {α:Type} {R:κ α} {e by_ B j i:Nat} {A:Option Addr} {c:Nat} {l:List α} {q q':α} {p:Addr} {u:Value} (h:R.aD e by_ w B (κ.ae A) A c l) (hR:R.An) (aq:l[i]? =some q) (aA:Nat.blt j R.size=true) (hx:ev E x=some (.pointer (some p))) (hp:p=⟨cu A,du A+i * R.size+j,none⟩) (aH:ev E y=some u)
  (hu:∀ (aP:World) cs,R.has w cs q→R.has aP (cs.set j u) q') (γ:u.oneCell'=true) (qO:u.cells=#[u]) (hs:ez P t 1)
  (aw:∀ aP,Mod (κ.ae A) w aP→R.aD e by_ aP B (κ.ae A) A c (l.set i q')→cG P n ops Q rest E aP):cG P n ops Q (⟨none, .store t x y,ty,pos,af,none⟩::rest) E w:=by
 obtain ⟨b,rfl⟩:=h.block (by have:=(aUj.1 aq).1;omega);rw [aW8] at aA;have Mk:p=⟨b,i * R.size+j,none⟩:=by rw [hp];simp [cu,du]
 subst Mk;have wh:=h.aD9 hR aq aA (fun cs hc=>hu _ cs hc);have bE:=(aUj.1 aq).1;have jI:∃ ami,w.cell? ⟨b,i * R.size+j,none⟩=some ami:=by
  obtain ⟨_,ps,_,_,b5,dB⟩:=h;have aB:=b5.1;rw [b5.cell _ (by rw [aVB i];exact aVN (by rw [aVB];exact (by omega:i * R.size+j<i * R.size+R.size)) (by rw [← aVP];exact aU3 _ bE))];exact ⟨_,aUk (by rw [aB];exact aVN (by omega:i * R.size+j<i * R.size+R.size) (by rw [← aVP];exact aU3 _ bE))⟩
 obtain ⟨ami,ayT⟩:=jI;have hf:=h.free (i * R.size+j);refine us (w':=w.setCell ⟨b,i * R.size+j,none⟩ u) (fun n a ha=> ?_) (aw _ (Mod.setCell w ⟨b,i * R.size+j,none⟩ u) wh);have hh:(storeVar t ⟨b,i * R.size+j,none⟩ u).run P w= .ok () (w.setCell ⟨b,i * R.size+j,none⟩ u):=by
  unfold storeVar;simp only [qO,aUv,hs w,aUo,aVC,aUn,aUt,aZg,aVm,aWS,aVs,storeCells];have:(⟨b,i * R.size+j,none⟩:Addr).add 0=⟨b,i * R.size+j,none⟩:=rfl;rw [this,aYX P w _ u _ γ,ayT];simp only [hf,aUY,aVs,aUo,aUA]
 simp only [execOp,ha.ev hx,ha.ev aH,Instr.storeAt,Instr.sureAddr,aUv,aUA,aUo,hh]
theorem P0 {e u:TypeId} {q:Option Addr} (aF:P.underlying t=some (.pointer e)) (hx:ev E x=some (.pointer q)) (aH:ev E y=some (.pointer none)):cT P E ⟨d, .binOp .eql t x y u,ty,pos,af,g⟩ w (.bool q.isNone) w:=fun n a ha=>by
 have γ:P.underlying t=some (.pointer (P.pointee t)):=by simp [Program.pointee,aF]
 have:(eqGuard .eql t x y (.pointer q) (.pointer none)).run P w= .ok () w:=by cases x<;>cases y<;>rfl
 simp only [execOp,ha.ev hx,ha.ev aH,aUv,this,run_eql_pointer_nil w t q γ,aUo,aUA]
def Kn (P:Program) {α:Type} [DecidableEq α] (cells:α→List Value) (t:TypeId):Prop:=∀ (a b:α) (w:World),(binOp .eql t (.agg (cells a).toArray) (.agg (cells b).toArray)).run P w= .ok (.bool (decide (a=b))) w∧(binOp .neq t (.agg (cells a).toArray) (.agg (cells b).toArray)).run P w= .ok (.bool (!decide (a=b))) w
theorem auS {o:BinOp} {xs ys:Array Value} (h:P.eqGuardType P.depth t=false):(eqGuard o t x y (.agg xs) (.agg ys)).run P w= .ok () w:=by
 cases o<;>simp [eqGuard,h]
theorem PZ {α:Type} [DecidableEq α] {cells:α→List Value} {u:TypeId} {p q:α} (nC:Kn P cells t) (bD:P.eqGuardType P.depth t=false) (hx:ev E x=some (.agg (cells p).toArray)) (aH:ev E y=some (.agg (cells q).toArray)):cT P E ⟨d, .binOp .neq t x y u,ty,pos,af,g⟩ w (.bool (!decide (p=q))) w:=fun n a ha=>by
 simp only [execOp,ha.ev hx,ha.ev aH,aUv,auS bD,(nC p q w).2,aUo,aUA]
theorem run_equalIn_bool (d:Nat) {p q:Bool} (aF:P.underlying t=some .bool):(Op.equalIn (d+1) t (.bool p) (.bool q)).run P w= .ok (p == q) w:=by simp [Op.equalIn,aVw aF]
theorem run_equal_bool {p q:Bool} (aF:P.underlying t=some .bool):(Op.equal t (.bool p) (.bool q)).run P w= .ok (p == q) w:=run_equalIn_bool 9999 aF
theorem aqq {u:TypeId} {p q:Bool} (aF:P.underlying t=some .bool) (hx:ev E x=some (.bool p)) (aH:ev E y=some (.bool q)):cT P E ⟨d, .binOp .neq t x y u,ty,pos,af,g⟩ w (.bool (p != q)) w:=fun n a ha=>by
 have:(eqGuard .neq t x y (.bool p) (.bool q)).run P w= .ok () w:=by cases x<;>cases y<;>rfl
 have aa:(binOp .neq t (.bool p) (.bool q)).run P w= .ok (.bool (p != q)) w:=by
  simp only [binOp,aUv,run_equal_bool aF,aUo,aUA];rfl
 simp only [execOp,ha.ev hx,ha.ev aH,aUv,this,aa,aUo,aUA]
theorem zn {u i:Value} (hx:ev E x=some u) (aH:ev E y=some i) (hr:(Instr.index t u i).run P w= .ok v w):cT P E ⟨d, .index t x y,ty,pos,af,g⟩ w v w:=fun n a ha=>by
 simp only [execOp,ha.ev hx,ha.ev aH,aUv,hr,aUo,aUA]
theorem ou {k:IntKind} {i j:Int} {ts:Array TypeId} (hx:ev E x=some (.int k i)) (aH:ev E y=some (.int k j)):cT P E ⟨d, .call {callee:= .builtin .min,args:=#[x,y],argTypes:=ts},ty,pos,af,g⟩ w (.int k (min i j)) w :=
 bi (vs:= [.int k i, .int k j]) (by simp only [hz,hx,aH]) fun cs=>by
  have:=run_min_int2 (P:=P) (w:=w) ts ty k k i j;simp only [builtin,aUv,this,aUo,aUA];congr 3;rw [Int.min_def];split<;>split<;>omega
theorem mx {k:IntKind} {i j:Int} {ts:Array TypeId} (hx:ev E x=some (.int k i)) (aH:ev E y=some (.int k j)):cT P E ⟨d, .call {callee:= .builtin .max,args:=#[x,y],argTypes:=ts},ty,pos,af,g⟩ w (.int k (max i j)) w :=
 bi (vs:= [.int k i, .int k j]) (by simp only [hz,hx,aH]) fun cs=>by
  have:=run_max_int2 (P:=P) (w:=w) ts ty k k i j;simp only [builtin,aUv,this,aUo,aUA];congr 3;rw [Int.max_def];split<;>split<;>omega
end
open Tryz

section
variable {P:Program} {n:Nat} {E:List (Nat×Value)} {a:Act} {w w0:World} {Q:Exit→Act→World→Prop} {ops:Array Oper} {a6:Nat→Nat}
def wF (r:List Nat) (l:Array Bool):Array Bool:=match r with | []=>l | i::r=>wF r (l.setIfInBounds i true)
def C8 (ops:Array Oper) (a6:Nat→Nat):List Nat→Array Bool→Bool
 | [],_=>true
 | i::r,l=>(match a6 i with
   | 0=>Region.free .any ops l i && (Region.ready .any ops l).contains i && PR ops a6 l i
   | 1=>Region.free .any ops l i && (Region.ready .any ops l).contains i
   | _=>false) && C8 ops a6 r (l.setIfInBounds i true)
def HC (ops:Array Oper) (a6:Nat→Nat) (r:List Nat):Nat→List Nat→Array Bool→Bool
 | 0,R,l=>R.isEmpty && kl ops a6 r l
 | f+1,R,l=> !(Region.ready .any ops l).isEmpty && (Region.ready .any ops l).all fun j=>R.contains j && Nat.beq (a6 j) 2 && HC ops a6 r f (R.erase j) (l.setIfInBounds j true)
theorem PF (hs:Region.noSelect ops=true) (il:∀ c a w,¬ Q (.panic c) a w) {qB:Exit→Act→World→Prop} {m:Nat}:∀ (r:List Nat) (l:Array Bool) (a:Act) (w0:World),l.size=ops.size→C8 ops a6 r l=true→u_ P ops qB a6 r a w0→
  (∀ a w0,(∀ w,Ext w0 w→qB .normal a w)→AN P ops Q a6 m (wF r l) a w0)→AN P ops Q a6 (r.length+m) l a w0
 | [],l,a,w0,_,_,h,eg=>by rw [aUt,aVm];exact eg a w0 h
 | i::r,l,a,w0,aB,ba,h,eg=>by
  rw [aUn,aYN];obtain ⟨o,b5,h⟩:=h;have nH:=aW2 hs;rcases h with ⟨aw,v,I,hK⟩ | ⟨aw,v,I,hK⟩ | ⟨aw,h⟩
  ·simp only [C8,aw,aUp] at ba;obtain ⟨⟨⟨hf,hr⟩,Φ⟩,ba⟩:=ba;obtain ⟨R,r1,r2,yf⟩:=PS aB Φ;exact QI b5 (by omega) nH il (fun w0 a=>ui P ops w0 o v a) (fun _ _ h=>h) (fun _ _ _ h he hw=>h.of_same he hw) (fun _ _ _ hx h=>h.on hx) R l r1 (.inr yf) _ _ _ _ r2 (fun _ h=>h) (aV0 b5 hf) (by simpa using hr) I
    (PF hs il r _ _ _ (by simpa using aB) ba hK eg)
  ·simp only [C8,aw,aUp] at ba;obtain ⟨⟨hf,hr⟩,ba⟩:=ba;exact QI b5 (by omega) nH il (fun _ a=>Yields P ops o v a) (fun _ _ h=>Yields.ald h) (fun _ _ _ h he hw=>h.of_same he hw) (fun _ _ _ _ h=>h) (fun _=>true) l (fun _ _ _ _ _=>Z) (.inl fun _ _ _ h=>h) _ _ _ _ (fun _ _=>Z) (fun _ h=>h) (aV0 b5 hf) (by simpa using hr) I
    (PF hs il r _ _ _ (by simpa using aB) ba hK eg)
  ·obtain ⟨k,gv⟩:∃ k,a6 i=k+2:=⟨a6 i - 2,by omega⟩;simp only [C8,gv,Bool.false_and,aUY] at ba
theorem ew.jW {d:Nat} (h:ew n E a) (hf:look E d=Option.none) (v:Value):ew n E (a.put (some d) v):=by
 refine ⟨h.d,by simp [Act.put,h.s],fun t u hu=> ?_⟩;have dY:d≠t:=fun e=>by rw [e,hu] at hf;cases hf
 simp only [Act.put];rw [aVM dY];exact h.g t u hu
structure Ps (P:Program) (n:Nat) (ops:Array Oper) (Q:Exit→Act→World→Prop) (E:List (Nat×Value)) (w0:World) (i d:Nat) (EA:Value→List Nat→World→Prop):Prop where
 mono:∀ v f w w',EA v f w→Ext w w'→EA v f w'
 free:look E d=none
 cM:Nat.blt d n=true
 run:∀ (a:Act) (w:World) (K:Act→World→Prop),ew n E a→Ext w0 w→(∀ v w' f,Ext w w'→(∀ q∈f,w.heap.size≤q∧q<w'.heap.size)→EA v f w'→K (a.put (some d) v) w')→wpOp P ops (gO (Q .normal)) i K a w
abbrev Made:=Nat×Nat×(Value→List Nat→World→Prop)
theorem ajU {vs:Nat→Value} {t:Nat} {v:Value}:∀ {M:List Made},look (M.map (fun x=>(x.2.1,vs x.1))++E) t=some v→(∃ x∈M,x.2.1=t∧vs x.1=v)∨look E t=some v
 | [],h=> .inr h
 | x::M,h=>by
  simp only [aU4,aVW,look] at h;cases Φ:Nat.beq x.2.1 t with
  | true=>rw [Φ] at h;exact .inl ⟨x,aUH,aWk Φ,aUh h⟩
  | false =>
   rw [Φ] at h;rcases ajU h with ⟨y,aH,aa⟩ | h
   ·exact .inl ⟨y,aUB _ aH,aa⟩
   ·exact .inr h
theorem Yd {α β:Type} {f:α→β}:∀ {l:List α},(l.map f).Nodup→∀ x∈l,∀ y∈l,f x=f y→x=y
 | z::l,h,x,hx,y,aH,e=>by
  rw [aU4,aWI] at h;rcases aUD.1 hx with γ | γ
  ·rcases aUD.1 aH with aa | aa
   ·rw [γ,aa]
   ·exact absurd (aUR.2 ⟨y,aa,by rw [← e,γ]⟩) h.1
  ·rcases aUD.1 aH with aa | aa
   ·exact absurd (aUR.2 ⟨x,γ,by rw [e,aa]⟩) h.1
   ·exact Yd h.2 x γ y aa e
theorem aqi (hs:Region.noSelect ops=true) {bZ:List Nat} (M:List Made) (ml:∀ x∈M,Ps P n ops Q E w0 x.1 x.2.1 x.2.2) (zj:(M.map (·.1)).Nodup) (zk:(M.map (·.2.1)).Nodup)
  (Xk:∀ (w:World) (vs:Nat→Value) (fs:Nat→List Nat),Ext w0 w→(∀ x∈M,x.2.2 (vs x.1) (fs x.1) w∧∀ q∈fs x.1,w0.heap.size≤q∧q<w.heap.size)→(∀ x∈M,∀ y∈M,x.1≠y.1→∀ q∈fs x.1,q∈fs y.1→False)→iF P n ops Q a6 bZ (M.map (fun x=>(x.2.1,vs x.1))++E) w):
  ∀ (f:Nat) (R:List Nat) (l:Array Bool) (a:Act) (w:World) (vs:Nat→Value) (fs:Nat→List Nat),l.size=ops.size→HC ops a6 bZ f R l=true→(∀ i∈R,∃ x∈M,x.1=i)→R.Nodup→Ext w0 w→ew n E a→
   (∀ x∈M,x.1∉R→x.2.2 (vs x.1) (fs x.1) w∧(∀ q∈fs x.1,w0.heap.size≤q∧q<w.heap.size)∧a.tmps[x.2.1]? =some (vs x.1))→
   (∀ x∈M,x.1∉R→∀ y∈M,y.1∉R→x.1≠y.1→∀ q∈fs x.1,q∈fs y.1→False)→AN P ops (gO (Q .normal)) a6 (f+bZ.length) l a w:=by
 intro f;induction f with
 | zero =>
  intro R l a w vs fs aB ba _ _ hx ha γ aa;simp only [HC,aUp,List.isEmpty_iff] at ba;obtain ⟨rfl,ba⟩:=ba;rw [aVm];refine CN hs (fun _ _ _ h=>h) bZ l a w aB ba (Xk w vs fs hx (fun x hx=>⟨(γ x hx (by simp)).1,(γ x hx (by simp)).2.1⟩) (fun x hx y aH=>aa x hx (by simp) y aH (by simp)) a ⟨ha.d,ha.s,fun t v hv=> ?_⟩);rcases ajU hv with ⟨x,hx,rfl,rfl⟩ | hv
  ·exact (γ x hx (by simp)).2.2
  ·exact ha.g t v hv
 | succ f bI =>
  intro R l a w vs fs aB ba hR iQ hx ha γ aa;rw [aYN];simp only [HC,aUp,aVn] at ba;obtain ⟨dY,dB⟩:=ba;refine ⟨fun aI=>(by rw [aI] at dY;cases dY),fun j aA=> ?_⟩;have o2:=aU7.1 dB j aA;simp only [aUp,aWX] at o2;obtain ⟨⟨axB,aw⟩,ba⟩:=o2;have aw:=aWk aw;obtain ⟨x,X9,rfl⟩:=hR j axB;obtain ⟨_,o,b5,_⟩:=aXu.1 aA;have mk:=ml x X9;refine ⟨o,b5, .inr ⟨by omega,fun aP kQ=>mk.run a aP _ ha (hx.qg kQ) fun v cE H7 zl Rl azn=>⟨fun _=>kQ.qg zl, ?_⟩⟩⟩;have FI:=mk.cM;rw [aW8] at FI;have Mu:∀ y∈M,y.1∉R.erase x.1→y.1≠x.1→y.1∉R:=fun y aH hn dY hm=>hn ((List.mem_erase_of_ne dY).2 hm);have II:=hx.size;have fg:=kQ.size;have gI:=zl.size;refine bI (R.erase x.1) _ _ cE (fun k=>if k=x.1 then v else vs k) (fun k=>if k=x.1 then H7 else fs k) (by simpa using aB) ba (fun i aq=>hR i (aYU aq)) (iQ.erase _) ((hx.qg kQ).qg zl) (ha.jW mk.free v) (fun y aH hn=> ?_) (fun y aH hn z bB Ru dY q I IH=> ?_)
  ·by_cases he:y.1=x.1
   ·obtain rfl:=Yd zj y aH x X9 he;simp only [aVZ];refine ⟨azn,fun q I=>⟨by have:=(Rl q I).1;omega,(Rl q I).2⟩, ?_⟩;simp only [Act.put];rw [aXI (by rw [ha.s];exact FI)]
   ·simp only [aUr he];obtain ⟨g1,g2,g3⟩:=γ y aH (Mu y aH hn he);refine ⟨(ml y aH).mono _ _ _ _ g1 (kQ.qg zl),fun q I=>⟨(g2 q I).1,by have:=(g2 q I).2;omega⟩, ?_⟩;have hd:x.2.1≠y.2.1:=fun e=>he (by rw [Yd zk x X9 y aH e]);simp only [Act.put];rw [aVM hd];exact g3
  ·by_cases he:y.1=x.1
   ·by_cases uI:z.1=x.1
    ·exact dY (he.trans uI.symm)
    ·simp only [aUz he] at I;simp only [aUr uI] at IH;have:=(Rl q I).1;have:=((γ z bB (Mu z bB Ru uI)).2.1 q IH).2;omega
   ·by_cases uI:z.1=x.1
    ·simp only [aUr he] at I;simp only [aUz uI] at IH;have:=(Rl q IH).1;have:=((γ y aH (Mu y aH hn he)).2.1 q I).2;omega
    ·simp only [aUr he] at I;simp only [aUr uI] at IH;exact aa y aH (Mu y aH hn he) z bB (Mu z bB Ru uI) dY q I IH
def aa4 (P:Program) (ops:Array Oper) (Q:Exit→Act→World→Prop) (a6:Nat→Nat) (B bZ:List Nat) (l:Array Bool):Exit→Act→World→Prop
 | .normal,a,w=>Region.noSelect ops=true→l.size=ops.size→HC ops a6 bZ B.length B l=true→AN P ops (gO (Q .normal)) a6 (B.length+bZ.length) l a w
 | _,_,_=>False
theorem SL:∀ (r:List Nat) (l:Array Bool),(wF r l).size=l.size
 | [],_=>rfl
 | i::r,l=>by unfold wF;rw [SL r];simp
theorem SA {id:Nat} (kS:List (Nat×Nat)) (EB B bZ:List Nat) (hm:P.follows .mixedOrders=true) (ba:(Region.noSelect ops && (EB.length+(B.length+bZ.length)== ops.size) && C8 ops (mn kS) EB (Array.replicate ops.size false) && HC ops (mn kS) bZ B.length B (wF EB (Array.replicate ops.size false)))=true)
  (h:iF P n ops (aa4 P ops Q (mn kS) B bZ (wF EB (Array.replicate ops.size false))) (mn kS) EB E w):W P n (.region id ops true) Q E w:=fun a ha=>by
 simp only [aUp,aVh] at ba;obtain ⟨⟨⟨hs,aB⟩,γ⟩,aa⟩:=ba;refine aY2 (aXm hm (Q:=gO (Q .normal)) ?_) (fun e a w I=>by cases e<;>first | exact I | exact I.elim);have:=PF (P:=P) hs (Q:=gO (Q .normal)) (fun _ _ _ h=>h) (m:=B.length+bZ.length) EB (Array.replicate ops.size false) a w (by simp) γ (h a ha) (fun a w0 fp=>fp w0 (Ext.bK w0) hs (by rw [SL];simp) aa);rw [aB] at this;exact AO _ _ _ _ this _ (aUN _ w).drew
def Nw:List Nat→Bool
 | []=>true
 | x::r=> !r.elem x && Nw r
theorem Y1:∀ {l:List Nat},Nw l=true→l.Nodup
 | [],_=>aXK
 | x::r,h=>by
  simp only [Nw,aUp,aVn] at h;refine aWI.2 ⟨fun hm=> ?_,Y1 h.2⟩;rw [List.elem_iff.2 hm] at h;cases h.1
theorem an {α:Type} {p:α→Prop}:∀ x∈([]:List α),p x:=fun x h=>nomatch h
theorem am {α:Type} {p:α→Prop} {x:α} {l:List α} (h:p x) (k:∀ y∈l,p y):∀ y∈x::l,p y:=List.forall_mem_cons.2 ⟨h,k⟩
theorem HD {bZ:List Nat} {l:Array Bool} (M:List Made) (ml:∀ x∈M,Ps P n ops Q E w x.1 x.2.1 x.2.2) (Dv:Nw (M.map (·.1))=true) (Dw:Nw (M.map (·.2.1))=true) {B:List Nat} (ba:M.map (·.1)=B)
  (Xk:∀ (aP:World) (vs:Nat→Value) (fs:Nat→List Nat),Ext w aP→(∀ x∈M,x.2.2 (vs x.1) (fs x.1) aP∧∀ q∈fs x.1,w.heap.size≤q∧q<aP.heap.size)→(∀ x∈M,∀ y∈M,x.1≠y.1→∀ q∈fs x.1,q∈fs y.1→False)→iF P n ops Q a6 bZ (M.map (fun x=>(x.2.1,vs x.1))++E) aP):
  N n (aa4 P ops Q a6 B bZ l) E w:=fun a ha hs aB Φ=>by
 subst ba;have zj:=Y1 Dv;have zk:=Y1 Dw;refine aqi hs M ml zj zk Xk _ _ l a w (fun _=>undef) (fun _=> []) aB Φ (fun i aq=> ?_) zj (Ext.bK w) ha (fun x hx hn=>absurd (aUR.2 ⟨x,hx,Z⟩) hn) (fun x hx hn=>absurd (aUR.2 ⟨x,hx,Z⟩) hn);obtain ⟨x,hx,e⟩:=aUR.1 aq;exact ⟨x,hx,e⟩
variable {d i:Nat} {ty:TypeId} {pos:String} {af:Array Edge} {x y z:Operand} {t:TypeId} {v:Value}
theorem akh {f:FuncId} (hf:Enters P f) {xs:Array Operand} {ts:Array TypeId} {args:List Value} (EA:Value→List Nat→World→Prop) (aq:ops[i]? =some ⟨some d, .call {callee:= .value (.func f),args:=xs,argTypes:=ts},ty,pos,af,none⟩) (he:hz E xs.toList=some args) (lF:look E d=none) (hd:Nat.blt d n=true)
  (hm:∀ v f w w',EA v f w→Ext w w'→EA v f w') (h:∀ aP,Ext w aP→Calls P f args.toArray aP fun e w'=>∃ v H7,e= .returned v∧Ext aP w'∧(∀ q∈H7,aP.heap.size≤q∧q<w'.heap.size)∧EA v H7 w'):Ps P n ops Q E w i d EA:=by
 refine ⟨hm,lF,hd,fun a aP K ha hx hK=> ?_⟩;unfold wpOp;simp only [aq];rw [aUz (yp rfl)];refine .inl ?_;unfold Oper.wp;rw [Jq hf ha he];refine aXH (h aP hx) fun e w' fp=> ?_;obtain ⟨v,H7,rfl,g1,g2,g3⟩:=fp;exact hK v w' H7 g1 g2 g3
def Ux (cs:List Value) (t:TypeId) (v:Value) (f:List Nat) (w:World):Prop:=∃ b,v= .pointer (some ⟨b,0,none⟩)∧f= [b]∧aN w b cs t (0,0)
theorem akg {cs:List Value} (aq:ops[i]? =some ⟨some d, .alloc t,ty,pos,af,none⟩) (bB:la P t v) (hc:v.cells=cs.toArray) (lF:look E d=none) (hd:Nat.blt d n=true):Ps P n ops Q E w i d (Ux cs t):=by
 refine ⟨fun v f w w' ⟨b,γ,aa,av⟩ hx=>⟨b,γ,aa,av.later hx⟩,lF,hd,fun a aP K ha hx hK=> ?_⟩;unfold wpOp;simp only [aq];rw [aUz (yp rfl)];refine .inl ?_;unfold Oper.wp;have hr:(execOp a.eval ⟨some d, .alloc t,ty,pos,af,none⟩).run P aP= .ok (.value (.pointer (some ⟨aP.heap.size,0,none⟩))) (aP.alloc (.cells v.cells t)):=by
  simp only [execOp,Instr.alloc,aUv,bB aP,newVar,newRow,aYo,aUo,aUA]
 rw [hr];refine hK _ _ [aP.heap.size] ((aUN _ aP).alloc (aUu _) _) (fun q I=> ?_) ⟨aP.heap.size,Z,Z,by rw [hc];exact aN.new aP cs t (0,0)⟩;rw [aUg.1 I];exact ⟨aUu _,by simp⟩
end
open Tryz

section
variable {P:Program} {n:Nat} {E c0:List (Nat×Value)} {a:Act} {w w' w0 aP:World} {Q:Exit→Act→World→Prop} {ops:Array Oper}
variable {d:Option Nat} {ty:TypeId} {pos:String} {af:Array Edge} {g:Option (Nat×Bool)} {x y z u:Operand} {t:TypeId} {rest:List Oper} {v:Value}
theorem Y0 {i:Int} (hx:ev E x=some (.int .i64 i)) (h:IntKind.i64.wrap (-i)= -i):cT P E ⟨d, .unOp .neg t x,ty,pos,af,g⟩ w (.int .i64 (-i)) w:=fun n a ha=>by
 have:(execOp a.eval ⟨d, .unOp .neg t x,ty,pos,af,g⟩).run P w= .ok (.value (.int .i64 (IntKind.i64.wrap (-i)))) w:=by
  have aI:(0:Int) - i= -i:=Int.zero_sub i;have hu:(Op.unary .neg (.int .i64 i)).run P w= .ok (.int .i64 (IntKind.i64.wrap (-i))) w:=by
   show (Op.intArith .sub .i64 0 i).run P w=_;simp [Op.intArith,aI]
  simp only [execOp,ha.ev hx,aUv,hu,aUo,aUA]
 rw [this,h]
theorem aAY {k:IntKind} {i j l m:Int} {ts:Array TypeId} (hx:ev E x=some (.int k i)) (aH:ev E y=some (.int k j)) (bB:ev E z=some (.int k l)) (hu:ev E u=some (.int k m)):cT P E ⟨d, .call {callee:= .builtin .max,args:=#[x,y,z,u],argTypes:=ts},ty,pos,af,g⟩ w (.int k (max (max (max i j) l) m)) w :=
 bi (vs:= [.int k i, .int k j, .int k l, .int k m]) (by simp only [hz,hx,aH,bB,hu]) fun cs=>by
  have e:∀ a b:Int,(if b > a then b else a)=max a b:=fun a b=>by rw [Int.max_def];split<;>split<;>omega
  have:(Builtin.max_ ts ty #[.int k i, .int k j, .int k l, .int k m]).run P w= .ok (.int k (max (max (max i j) l) m)) w:=by
   rw [← e,← e,← e];simp [Builtin.max_,Builtin.max2]
  simp only [builtin,aUv,this,aUo,aUA]
end
def acf (e:MapEntry) (p:Int×Int):Prop:=e.key= .int .i64 p.1∧e.val= .int .i64 p.2
def pB (w:World) (r:Nat) (l:List (Int×Int)):Prop:=∃ (es:Array MapEntry) (clock:Nat),w.heap[r]? =some (.map es clock)∧de acf es.toList l
def cQ (l:List (Int×Int)) (k:Int):Option Int:=(l.find? fun p=>p.1 == k).map (·.2)
section
variable {w w':World} {r:Nat} {l:List (Int×Int)} {S:List Nat}
theorem pB.lt (h:pB w r l):r<w.heap.size:=by
 obtain ⟨es,c,γ,_⟩:=h;exact (aUT.1 γ).1
theorem pB.later (h:pB w r l) (x:Ext w w'):pB w' r l:=by
 have aB:=h.lt;obtain ⟨es,c,γ,aa⟩:=h;exact ⟨es,c,by rw [x.block r aB];exact γ,aa⟩
theorem pB.mod (h:pB w r l) (m:Mod S w w') (hs:r∉S):pB w' r l:=by
 have aB:=h.lt;obtain ⟨es,c,γ,aa⟩:=h;exact ⟨es,c,by rw [m.block r aB hs];exact γ,aa⟩
theorem Wf (k:Int):∀ {es:List MapEntry} {l:List (Int×Int)} (i:Nat),de acf es l→(cQ l k=none→Instr.findNow (.int .i64) (.int .i64 k) es i=some none)∧(∀ v,cQ l k=some v→∃ j,Instr.findNow (.int .i64) (.int .i64 k) es i=some (some (j, .int .i64 v)))
 | [], [],i,_=>⟨fun _=>rfl,fun v h=>by simp [cQ] at h⟩
 | e::es,p::l,i,h=>by
  obtain ⟨⟨aw,hv⟩,aa⟩:=h;have bI:=Wf k (i+1) aa;have FW:Instr.sameNow (.int .i64) (.int .i64 k) e.key=some (decide (k=p.1)):=by
   rw [aw];obtain ⟨q,I,aq⟩:=MapKept.sameNow_of_keys (d:= .int .i64) (a:= .int .i64 k) (b:= .int .i64 p.1) rfl rfl;rw [I];cases q with
   | true=>have:=aq.1 rfl;injection this with _ this;rw [aUL this]
   | false=>rw [aUU fun e=>by have:=aq.2 (by rw [e]);cases this]
  by_cases he:k=p.1
  ·have Φ:(p.1 == k)=true:=by simp [he]
   rw [aUL he] at FW;refine ⟨fun aI=>by simp [cQ,List.find?,Φ] at aI,fun v aI=>⟨i, ?_⟩⟩;have:p.2=v:=by simpa [cQ,List.find?,Φ] using aI
   simp [Instr.findNow,FW,hv,this]
  ·have Φ:(p.1 == k)=false:=by simpa using fun e=>he e.symm
   rw [aUU he] at FW;have aS:cQ (p::l) k=cQ l k:=by simp [cQ,List.find?,Φ]
   rw [aS];simpa [Instr.findNow,FW] using bI
end
section
variable {P:Program} {n:Nat} {E c0:List (Nat×Value)} {a:Act} {w w' w0 aP:World} {Q:Exit→Act→World→Prop} {ops:Array Oper}
variable {d:Option Nat} {ty:TypeId} {pos:String} {af:Array Edge} {g:Option (Nat×Bool)} {x y z u:Operand} {t:TypeId} {rest:List Oper} {v:Value}
theorem YX {d:Nat} (hd:Nat.blt d n=true) (h:∀ aP r,Ext w aP→w.heap.size≤r→pB aP r []→cG P n ops Q rest ((d, .map (some r))::E) aP):cG P n ops Q (⟨some d, .makeMap t none,ty,pos,af,none⟩::rest) E w:=by
 refine iC (w':=w.alloc (.map #[] 0)) (v:= .map (some w.heap.size)) (fun n a ha=> ?_) hd (h _ _ ((aUN _ w).alloc (aUu _) _) (aUu _) ⟨#[],0,(MapKept.heap_alloc w _).1,trivial⟩);simp only [execOp,Option.map,aUv,run_makeMap_plain,aUo,aUA]
theorem lk {M_ QF:TypeId} {r:Nat} {l:List (Int×Int)} {k:Int} (hm:P.underlying t=some (.map M_ QF)) (aw:P.underlying M_=some (.int .i64)) (he:la P QF (.int .i64 0)) (h:pB w r l) (hx:ev E x=some (.map (some r))) (aH:ev E y=some (.int .i64 k)):
  cT P E ⟨d, .lookup t x y true,ty,pos,af,g⟩ w (.tuple #[.int .i64 ((cQ l k).getD 0), .bool (cQ l k).isSome]) w:=fun n a ha=>by
 obtain ⟨es,c,γ,aa⟩:=h;have hf:=Wf k 0 aa;have Rg:=aZk (P:=P) (w:=w) aw (show MapKept.IsKey (.int .i64) (.int .i64 k) from rfl) es.isEmpty 9999;have lH:(Instr.lookup t (.map (some r)) (.int .i64 k) true).run P w= .ok (.tuple #[.int .i64 ((cQ l k).getD 0), .bool (cQ l k).isSome]) w:=by
  cases aS:cQ l k with
  | none =>
   have:=aX1 (P:=P) (w:=w) aw (hf.1 aS);simp [Instr.lookup,aUv,aVw hm,aVe γ,Rg,this,he w,Result.andThen]
  | some v =>
   obtain ⟨j,aA⟩:=hf.2 v aS;have:=aX1 (P:=P) (w:=w) aw aA;simp [Instr.lookup,aUv,aVw hm,aVe γ,Rg,this,Result.andThen]
 simp only [execOp,ha.ev hx,ha.ev aH,aUv,lH,aUo,aUA]
theorem mu {M_ QF:TypeId} {r:Nat} {l:List (Int×Int)} {k v:Int} (hm:P.underlying t=some (.map M_ QF)) (aw:P.underlying M_=some (.int .i64)) (h:pB w r l) (aS:cQ l k=none) (hx:ev E x=some (.map (some r))) (aH:ev E y=some (.int .i64 k)) (bB:ev E z=some (.int .i64 v))
  (hK:∀ aP,Mod [r] w aP→pB aP r (l++ [(k,v)])→cG P n ops Q rest E aP):cG P n ops Q (⟨none, .mapUpdate t x y z,ty,pos,af,none⟩::rest) E w:=by
 have bE:=h.lt;obtain ⟨es,c,γ,aa⟩:=h;have hf:=(Wf k 0 aa).1 aS;have Rg:=aZk (P:=P) (w:=w) aw (show MapKept.IsKey (.int .i64) (.int .i64 k) from rfl) false 9999;have axg:=aX1 (P:=P) (w:=w) aw hf;have wh:=aVF (P:=P) (.map (es.push {key:= .int .i64 k,val:= .int .i64 v,born:=c}) (c+1)) γ;refine us (w':= {w with heap:=w.heap.setIfInBounds r (.map (es.push {key:= .int .i64 k,val:= .int .i64 v,born:=c}) (c+1))}) (fun n a ha=> ?_) (hK _ ⟨Z,Z,Z,by simp,fun q I hn=> ?_⟩ ⟨es.push {key:= .int .i64 k,val:= .int .i64 v,born:=c},c+1,(MapKept.heap_set γ).1, ?_⟩)
 ·have lH:(Instr.mapUpdate t (.map (some r)) (.int .i64 k) (.int .i64 v)).run P w= .ok () {w with heap:=w.heap.setIfInBounds r (.map (es.push {key:= .int .i64 k,val:= .int .i64 v,born:=c}) (c+1))}:=by
   simp [Instr.mapUpdate,aUv,aVw hm,aVe γ,Rg,axg,wh,Result.andThen]
  simp only [execOp,ha.ev hx,ha.ev aH,ha.ev bB,aUv,lH,aUo,aUA]
 ·exact (MapKept.heap_set γ).2 q (by simpa using hn)
 ·rw [Array.toList_push];exact aa.app ⟨⟨Z,Z⟩,trivial⟩
end
theorem aA1 {w:World} {B e size c m:Nat} {G:Nat→Value→Prop} {z:Array Value} (bB:z.size=size) (aI:0<size) (bD:∀ (j:Nat) u,z[j]? =some u→G j u) (ba:B≤w.heap.size) (hm:m≤c) (hc:c≤maxLen):
  Own (w.alloc (.cells (madeCells z (c * size)) e)) B e size G (.slice (some ⟨w.heap.size,0,none⟩) m c) m ((madeCells z (c * size)).toList.take (m * size)):=by
 have ax5:m * size≤c * size:=aU3 _ hm;refine ⟨by rw [aUm,aWD,aXU];omega, .inr ⟨w.heap.size,c,_,rfl,ba,(MapKept.heap_alloc w _).1,hm,hc,aXU _ _,rfl,fun j u hu=> ?_⟩⟩;have bE:=(aUT.1 hu).1;simp only [madeCells,aX0] at hu;rw [aXU] at bE;rw [aXQ,aUz bE] at hu;have aA:j % size<z.size:=by rw [bB];exact aWt _ aI
 have e:z[j % z.size]! =z[j % size]:=by rw [bB];exact getElem!_pos z (j % size) aA
 rw [aVL,e] at hu;exact bD _ _ (by rw [aV5 aA];exact hu)
section
variable {P:Program} {n:Nat} {E c0:List (Nat×Value)} {a:Act} {w w' w0 aP:World} {Q:Exit→Act→World→Prop} {ops:Array Oper}
variable {d:Nat} {ty:TypeId} {pos:String} {af:Array Edge} {g:Option (Nat×Bool)} {x y z:Operand} {t:TypeId} {rest:List Oper}
theorem YQ {α:Type} {R:κ α} {e by_ B m c:Nat} {zv:Value} {l:List α} (cn:R.Plain) (aF:P.underlying t=some (.slice e)) (aq:(P.info? e).map (fun i=>(i.zero,i.size,i.bytes))=some (some zv,R.size,by_)) (γ:zv.cells.size=R.size) (aa:0<R.size) (av:∀ (j:Nat) u,zv.cells[j]? =some u→R.raw j u)
  (hx:ev E x=some (.int .i64 (m:Int))) (aH:ev E y=some (.int .i64 (c:Int))) (hd:Nat.blt d n=true) (hm:m≤c) (Φ:c * by_≤140737488355328) (hc:c≤9223372036854775807) (ba:B≤w.heap.size) (aB:l.length=m) {ess:List (List Value)} (axf:∀ w,de (fun es a=>R.has w es a) ess l) (qP:ess.flatten=(madeCells zv.cells (c * R.size)).toList.take (m * R.size))
  (h:∀ aP b,Ext w aP→w.heap.size≤b→R.aD e by_ aP B (κ.ae (some ⟨b,0,none⟩)) (some ⟨b,0,none⟩) c l→cG P n ops Q rest ((d, .slice (some ⟨b,0,none⟩) m c)::E) aP):cG P n ops Q (⟨some d, .makeSlice t x y,ty,pos,af,none⟩::rest) E w:=by
 cases I:P.info? e with
 | none=>rw [I] at aq;cases aq
 | some i =>
  rw [I] at aq;simp only [aVL,aWm,aYB] at aq;obtain ⟨i1,i2,i3⟩:=aq;have bz:(i.bytes:Int) * (c:Int)≤281474976710656:=by
   have:i.bytes * c≤281474976710656:=by rw [i3,aVB];omega
   have h:((i.bytes * c:Nat):Int)≤281474976710656:=by omega
   rwa [Int.natCast_mul] at h
  have hr:=run_make (P:=P) w t e i zv aF I i1 .i64 .i64 (m:Int) (c:Int) (by omega) (by omega) bz (by omega);simp only [aVc] at hr;have b5:=aA1 (w:=w) (e:=e) (c:=c) (m:=m) γ aa av ba hm (by simp [maxLen];omega);rw [← qP] at b5;subst aB;rw [i2] at hr;refine iC (fun n a ha=> ?_) hd (h _ w.heap.size ((aUN _ w).alloc (aUu _) _) (aUu _) (κ.aD.BE (R:=R) cn (axf _) (aUP (aU3 _ hm) Φ) b5));simp only [execOp,ha.ev hx,ha.ev aH,aUv,hr,aUo,aUA]
theorem R4 {α:Type} {R:κ α} {e by_ B c:Nat} {zv:Value} (cn:R.Plain) (aF:P.underlying t=some (.slice e)) (aq:(P.info? e).map (fun i=>(i.zero,i.size,i.bytes))=some (some zv,R.size,by_)) (γ:zv.cells.size=R.size) (aa:0<R.size) (av:∀ (j:Nat) u,zv.cells[j]? =some u→R.raw j u)
  (hx:ev E x=some (.int .i64 0)) (aH:ev E y=some (.int .i64 (c:Int))) (hd:Nat.blt d n=true) (Φ:c * by_≤140737488355328) (hc:c≤9223372036854775807) (ba:B≤w.heap.size)
  (h:∀ aP b,Ext w aP→w.heap.size≤b→R.aD e by_ aP B (κ.ae (some ⟨b,0,none⟩)) (some ⟨b,0,none⟩) c ([]:List α)→cG P n ops Q rest ((d, .slice (some ⟨b,0,none⟩) 0 c)::E) aP):cG P n ops Q (⟨some d, .makeSlice t x y,ty,pos,af,none⟩::rest) E w :=
 YQ (m:=0) (l:=([]:List α)) (ess:= []) cn aF aq γ aa av hx aH hd (aU6 _) Φ hc ba rfl (fun _=>trivial) (by simp) h
theorem Nl {α:Type} {R:κ α} {e by_ B c:Nat} {zv:Value} {q:α} (cn:R.Plain) (aF:P.underlying t=some (.slice e)) (aq:(P.info? e).map (fun i=>(i.zero,i.size,i.bytes))=some (some zv,R.size,by_)) (hs:R.size=1) (γ:zv.cells=#[zv]) (av:∀ (j:Nat) u,zv.cells[j]? =some u→R.raw j u) (I:∀ w,R.has w [zv] q)
  (hx:ev E x=some (.int .i64 (c:Int))) (aH:ev E y=some (.int .i64 (c:Int))) (hd:Nat.blt d n=true) (Φ:c * by_≤140737488355328) (hc:c≤9223372036854775807) (ba:B≤w.heap.size)
  (h:∀ aP b,Ext w aP→w.heap.size≤b→R.aD e by_ aP B (κ.ae (some ⟨b,0,none⟩)) (some ⟨b,0,none⟩) c (List.replicate c q)→cG P n ops Q rest ((d, .slice (some ⟨b,0,none⟩) c c)::E) aP):cG P n ops Q (⟨some d, .makeSlice t x y,ty,pos,af,none⟩::rest) E w:=by
 refine YQ (m:=c) (ess:=List.replicate c [zv]) cn aF aq (by rw [γ,hs];rfl) (by omega) av hx aH hd (aUu _) Φ hc ba (by simp) (fun w=> ?_) ?_ h
 ·clear h Φ hc hx aH;induction c with
  | zero=>trivial
  | succ c bI=>exact ⟨I w,bI⟩
 ·rw [hs,aXf,γ];apply aVJ;intro i;simp only [aU2,aVg,madeCells,aX0,aXQ];have a8:∀ k:Nat,(List.replicate k [zv]).flatten=List.replicate k zv:=fun k=>by
   induction k with
   | zero=>rfl
   | succ k bI=>simp [aY5,bI]
  rw [a8,aVr];split
  ·simp [Nat.mod_one]
  ·rfl
end
def e_ (A:Option Addr) (c lo s:Nat):Option Addr:=if c=lo then A else A.map (·.add (lo * s))
theorem Wk {β:Type} {size:Nat}:∀ (lo:Nat) {ess:List (List β)},(∀ x∈ess,x.length=size)→(ess.drop lo).flatten=ess.flatten.drop (lo * size)
 | 0,ess,_=>by simp
 | lo+1, [],_=>by simp
 | lo+1,x::ess,h=>by
  have hx:=h x aUH;rw [aY8,Wk lo fun y aH=>h y (aUB _ aH),aVb,aVP,aXq,← aYs];congr 1;rw [List.drop_append_of_le_length (by omega),aYQ (by omega)];rfl
theorem QJ {β:Type} {size:Nat}:∀ (n:Nat) {ess:List (List β)},(∀ x∈ess,x.length=size)→(ess.take n).flatten=ess.flatten.take (n * size)
 | 0,ess,_=>by simp
 | n+1, [],_=>by simp
 | n+1,x::ess,h=>by
  have hx:=h x aUH;have e:(n+1) * size=size+n * size:=by rw [aVP,aXq]
  rw [aY4,aVb,QJ n fun y aH=>h y (aUB _ aH),aVb,e,aYf,hx,aYI,aUI (by rw [hx];omega:x.length≤size+n * size)]
theorem de.drop {α β:Type} {P:β→α→Prop}:∀ (n:Nat) {l:List β} {m:List α},de P l m→de P (l.drop n) (m.drop n)
 | 0,_,_,h=>h
 | n+1, [], [],_=>trivial
 | n+1,_::_,_::_,h=>de.drop n h.2
theorem de.take {α β:Type} {P:β→α→Prop}:∀ (n:Nat) {l:List β} {m:List α},de P l m→de P (l.take n) (m.take n)
 | 0,_,_,_=>trivial
 | n+1, [], [],_=>trivial
 | n+1,_::_,_::_,h=>⟨h.1,de.take n h.2⟩
theorem κ.aK.sub {α:Type} {R:κ α} {by_ c:Nat} {A:Option Addr} {l:List α} {w:World} (h:R.aK by_ w A c l) (lo aq:Nat) (γ:lo≤aq) (aa:aq≤l.length):R.aK by_ w (e_ A c lo R.size) (c - lo) ((l.drop lo).take (aq - lo)):=by
 obtain ⟨g1,g2,g3,g4,ess,g5,g6⟩:=h;have hlen:((l.drop lo).take (aq - lo)).length=aq - lo:=by rw [aUm,aUE];omega
 have hu:∀ x∈ess,x.length=R.size:=fun x hx=>by obtain ⟨a,ha⟩:=g5.left x hx;exact R.len ha
 refine ⟨by rw [hlen];omega,by omega,by rw [hlen];exact aUP (aU3 _ (by omega)) g3,fun hn=> ?_,(ess.drop lo).take (aq - lo),(g5.drop lo).take _, ?_⟩
 ·unfold e_ at hn;split at hn
  ·omega
  ·cases A with
   | none=>have:=g4 rfl;omega
   | some a=>cases hn
 ·have ayU:∀ x∈ess.drop lo,x.length=R.size:=fun x hx=>hu x (aXL hx);have Iy:ess.length=l.length:=g5.length;rw [QJ _ ayU,Wk _ hu,hlen];have qP:=A1 hu;refine ⟨?_,fun aI=> ?_⟩
  ·rw [aUm,aUE,qP,Iy,← Nat.sub_mul,aV6 (aU3 _ (by omega))]
  ·obtain ⟨b,o,rfl,hc⟩:=g6.2 (by omega);have dY:¬ c=lo:=by omega
   refine ⟨b,o+lo * R.size,by unfold e_;rw [aUr dY];simp [Addr.add],fun j u aA=> ?_⟩;rw [aU2] at aA;split at aA
   ·rw [aVo] at aA;rw [aWF];exact hc _ u aA
   ·cases aA
section
variable {P:Program} {n:Nat} {E c0:List (Nat×Value)} {w:World} {d:Option Nat} {ty:TypeId} {pos:String} {af:Array Edge} {g:Option (Nat×Bool)} {x y z:Operand} {t:TypeId}
theorem aDQ {A:Option Addr} {len cap e s:Nat} {k k':IntKind} (lo aq:Nat) {i j:Int} (aF:P.underlying t=some (.slice e)) (hs:ez P e s) (hx:ev E x=some (.slice A len cap)) (aH:ev E y=some (.int k i)) (bB:ev E z=some (.int k' j)) (Bf:i=(lo:Int)) (zh:j=(aq:Int)) (γ:lo≤aq) (aa:aq≤cap):
  cT P E ⟨d, .slice t x (some y) (some z) none,ty,pos,af,g⟩ w (.slice (e_ A cap lo s) (aq - lo) (cap - lo)) w:=fun n a ha=>by
 subst Bf;subst zh;have lM:P.underlying t=some (.slice (P.elem t)):=by simp [Program.elem,aF]
 have nQ:P.elem t=e:=by simp [Program.elem,aF]
 have av:=run_slice_lh (P:=P) (w:=w) t A len cap lM k k' (lo:Int) (aq:Int) (by omega) (by omega) (by omega);have aV:=aWq (P:=P) (w:=w) t (.slice A len cap) (some (.int k (lo:Int))) (some (.int k' (aq:Int))) none lM;rw [nQ,hs w] at av;simp only [execOp,ha.ev hx,ha.ev aH,ha.ev bB,Option.map,aV,av,aUv,aUo,aUA,sliced,aVc,e_]
end
open Tryz

section
variable {P:Program} {n:Nat} {E c0:List (Nat×Value)} {a:Act} {w w' w0 aP:World} {Q:Exit→Act→World→Prop} {ops:Array Oper}
variable {d:Option Nat} {ty:TypeId} {pos:String} {af:Array Edge} {g:Option (Nat×Bool)} {x y z:Operand} {t:TypeId} {rest:List Oper} {v:Value}
theorem aDK {f:FuncId} (hf:Enters P f) {xs:Array Operand} {ts:Array TypeId} {args xv:List Value} {a:Act} (ha:ew n E a) (hx:ev E x=some (.func (.func f) #[] xv.toArray)) (he:hz E xs.toList=some args):
  (execOp a.eval ⟨d, .call {callee:= .value x,args:=xs,argTypes:=ts},ty,pos,af,g⟩).run P w= .ok (.enter f (args++xv).toArray) w:=by
 obtain ⟨fn,γ,aa,av⟩:=hf;have hm:xs.map a.eval=args.toArray:=by rw [← ha.hz he];apply aVK;simp
 have hp:Sem.run P program w= .ok P w:=rfl;unfold execOp;simp only [resolve,invoke,Deferred.ofValue,ha.ev hx,callFunc,aUv,aUA,aUo,hm,hp,γ,aa,av,aW9,aUY,aVs];simp
theorem HK {d:Nat} {f:FuncId} (hf:Enters P f) {xs:Array Operand} {ts:Array TypeId} {args xv:List Value} (hx:ev E x=some (.func (.func f) #[] xv.toArray)) (he:hz E xs.toList=some args) (hd:Nat.blt d n=true)
  (h:Calls P f (args++xv).toArray w fun e w'=>∃ v,e= .returned v∧cG P n ops Q rest ((d,v)::E) w'):cG P n ops Q (⟨some d, .call {callee:= .value x,args:=xs,argTypes:=ts},ty,pos,af,none⟩::rest) E w:=fun a ha=>by
 refine Ht Z ?_;unfold Oper.wp;rw [aDK hf ha hx he];refine aXH h fun e w' fp=> ?_;obtain ⟨v,rfl,h⟩:=fp;exact h _ (ha.put hd v)
theorem Ff {A:Option Addr} {len cap e:Nat} (aF:P.underlying t=some (.slice e)) (hx:ev E x=some (.slice A len cap)):cT P E ⟨d, .call {callee:= .builtin .cap,args:=#[x],argTypes:=#[t]},ty,pos,af,g⟩ w (.int .i64 (cap:Int)) w :=
 bi (vs:= [.slice A len cap]) (by simp only [hz,hx]) fun cs=>by
  have γ:P.underlying t=some (.slice (P.elem t)):=by simp [Program.elem,aF]
  have:=run_cap_slice (P:=P) (w:=w) t ty A len cap γ;simp only [builtin,aUv,this,aUo,aUA];rfl
theorem ne {fn:Func} {R:Ending→World→Prop} (h:T n (bodyPost P fn R) E w):N n (bodyPost P fn R) E w:=fun a ha=>h a ha
theorem bc {A:Option Addr} {len cap e s:Nat} {k:IntKind} (aF:P.underlying t=some (.slice e)) (hs:ez P e s) (hx:ev E x=some (.slice A len cap)) (aH:ev E y=some (.int k (cap:Int))):cT P E ⟨d, .slice t x none (some y) none,ty,pos,af,g⟩ w (.slice A cap cap) w:=fun n a ha=>by
 have γ:P.underlying t=some (.slice (P.elem t)):=by simp [Program.elem,aF]
 have aa:P.elem t=e:=by simp [Program.elem,aF]
 have av:=run_slice_h (P:=P) (w:=w) t A len cap γ k (cap:Int) (by omega) (by omega);have aV:=aWq (P:=P) (w:=w) t (.slice A len cap) none (some (.int k (cap:Int))) none γ;rw [aa,hs w] at av;simp only [execOp,ha.ev hx,ha.ev aH,Option.map,aV,av,aUv,aUo,aUA,sliced,aVc,Nat.sub_zero];cases A with
 | none=>simp
 | some a=>simp [Addr.add]
end
def Raw (ax size j:Nat) (w:World) (A:Option Addr) (c:Nat):Prop :=
 (A=none∧c=0)∨∃ (b:Nat) (cur:List Value) (e:TypeId),A=some ⟨b,0,none⟩∧ax≤b∧aN w b cur e (0,0)∧∀ i,i<c→∃ m:Int,cur[i * size+j]? =some (.int .i64 m)
section
variable {w w':World} {ax size j c i:Nat} {A:Option Addr} {S:List Nat}
theorem Raw.of {α:Type} {R:κ α} {e by_:Nat} {l:List α} (h:R.aD e by_ w ax (κ.ae A) A c l) (aA:Nat.blt j R.size=true) (hr:∀ u,R.raw j u→∃ m:Int,u= .int .i64 m):Raw ax R.size j w A c:=by
 rw [aW8] at aA;obtain ⟨_,ps,_,_,⟨_,b5⟩,_⟩:=h;rcases b5 with ⟨γ,_⟩ | ⟨b,cap,cur,γ,aa,av,aV,bJ,cg,ef,gz⟩
 ·injection γ with γ _ aa;exact .inl ⟨γ,aa⟩
 ·injection γ with γ _ s3
  subst s3;refine .inr ⟨b,cur.toList,e,γ,aa,by unfold aN;simpa using av,fun i aq=> ?_⟩;have bE:i * R.size+j<cur.size:=by
   rw [cg];exact aVN (by omega:i * R.size+j<i * R.size+R.size) (by rw [← aVP];exact aU3 _ aq)
  have I:=gz (i * R.size+j) _ (aV5 bE);have hm:(i * R.size+j) % R.size=j:=by rw [aXq,Nat.add_mul_mod_self_right,aVt aA]
  rw [hm] at I;obtain ⟨m,hm⟩:=hr _ I;exact ⟨m,by rw [aVg,aV5 bE,hm]⟩
theorem Raw.lt (h:Raw ax size j w A c):∀ q∈κ.ae A,ax≤q∧q<w.heap.size:=by
 intro q I;rcases h with ⟨rfl,_⟩ | ⟨b,cur,e,rfl,γ,aa,_⟩
 ·simp [κ.ae] at I
 ·obtain rfl:q=b:=aUg.1 I;exact ⟨γ,aa.lt⟩
theorem Raw.later (h:Raw ax size j w A c) (x:Ext w w'):Raw ax size j w' A c:=by
 rcases h with h | ⟨b,cur,e,γ,aa,av,aV⟩
 ·exact .inl h
 ·exact .inr ⟨b,cur,e,γ,aa,av.later x,aV⟩
theorem Raw.mod (h:Raw ax size j w A c) (m:Mod S w w') (hd:∀ q∈κ.ae A,q∉S):Raw ax size j w' A c:=by
 rcases h with h | ⟨b,cur,e,γ,aa,av,aV⟩
 ·exact .inl h
 ·exact .inr ⟨b,cur,e,γ,aa,av.mod m (hd b (by rw [γ];exact aUg.2 rfl)),aV⟩
theorem Raw.bu (h:Raw ax size j w A c) (aI:0<c):A=some ⟨cu A,du A,none⟩:=by
 rcases h with ⟨_,h⟩ | ⟨b,cur,e,rfl,_⟩
 ·omega
 ·rfl
theorem Raw.get (h:Raw ax size j w A c) (aq:i<c):∃ m:Int,w.cell? ⟨cu A,du A+i * size+j,none⟩=some (.int .i64 m):=by
 rcases h with ⟨_,h⟩ | ⟨b,cur,e,rfl,_,av,aV⟩
 ·omega
 ·obtain ⟨m,hm⟩:=aV i aq;exact ⟨m,by rw [show (⟨cu (some ⟨b,0,none⟩),du (some ⟨b,0,none⟩)+i * size+j,none⟩:Addr)=⟨b,i * size+j,none⟩ from by simp [cu,du],av.cell,hm]⟩
theorem Raw.set (h:Raw ax size j w A c) (aq:i<c) (v:Int):Raw ax size j (w.setCell ⟨cu A,du A+i * size+j,none⟩ (.int .i64 v)) A c:=by
 rcases h with ⟨_,h⟩ | ⟨b,cur,e,rfl,γ,av,aV⟩
 ·omega
 ·rw [show (⟨cu (some ⟨b,0,none⟩),du (some ⟨b,0,none⟩)+i * size+j,none⟩:Addr)=⟨b,i * size+j,none⟩ from by simp [cu,du]];refine .inr ⟨b,_,e,Z,γ,av.set _ _,fun k aw=> ?_⟩;obtain ⟨m,hm⟩:=aV k aw;by_cases he:i * size+j=k * size+j
  ·rw [← he] at hm ⊢;exact ⟨v,aUG (aUj.1 hm).1⟩
  ·exact ⟨m,by rw [aUJ he];exact hm⟩
theorem Raw.free (h:Raw ax size j w A c) (aq:i<c) (k:Nat):w.frozen? ⟨cu A,k,none⟩=false:=by
 rcases h with ⟨_,h⟩ | ⟨b,cur,e,rfl,γ,av,aV⟩
 ·omega
 ·exact av.free k (.inr (aU6 _))
end
theorem NW {P:Program} {n:Nat} {E:List (Nat×Value)} {w:World} {Q:Exit→Act→World→Prop} {ops:Array Oper} {ty:TypeId} {pos:String} {af:Array Edge} {x y:Operand} {t:TypeId} {rest:List Oper} {ax size j c i:Nat} {A:Option Addr} {v:Int}
  (h:Raw ax size j w A c) (aq:i<c) (hx:ev E x=some (.pointer (some ⟨cu A,du A+i * size+j,none⟩))) (aH:ev E y=some (.int .i64 v)) (hs:ez P t 1)
  (aw:∀ aP,Mod (κ.ae A) w aP→Raw ax size j aP A c→cG P n ops Q rest E aP):cG P n ops Q (⟨none, .store t x y,ty,pos,af,none⟩::rest) E w:=by
 obtain ⟨m,hm⟩:=h.get aq;have hA:=h.bu (by omega);have hf:=h.free aq (du A+i * size+j);have uL:Mod (κ.ae A) w (w.setCell ⟨cu A,du A+i * size+j,none⟩ (.int .i64 v)):=by
  have:=Mod.setCell w ⟨cu A,du A+i * size+j,none⟩ (.int .i64 v);refine this.sub fun q I=> ?_;rw [hA];exact aUg.2 (aUg.1 I)
 refine us (w':=w.setCell ⟨cu A,du A+i * size+j,none⟩ (.int .i64 v)) (fun n a ha=> ?_) (aw _ uL (h.set aq v));have hh:(storeVar t ⟨cu A,du A+i * size+j,none⟩ (.int .i64 v)).run P w= .ok () (w.setCell ⟨cu A,du A+i * size+j,none⟩ (.int .i64 v)):=by
  have qO:(Value.int .i64 v).cells=#[.int .i64 v]:=rfl;unfold storeVar;simp only [qO,aUv,hs w,aUo,aVC,aUn,aUt,aZg,aVm,aWS,aVs,storeCells];have:(⟨cu A,du A+i * size+j,none⟩:Addr).add 0=⟨cu A,du A+i * size+j,none⟩:=rfl;rw [this,aYX P w _ (.int .i64 v) _ rfl,hm];simp only [hf,aUY,aVs,aUo,aUA]
 simp only [execOp,ha.ev hx,ha.ev aH,Instr.storeAt,Instr.sureAddr,aUv,aUA,aUo,hh]
open Tryz
end Go.Proofs.YtlikikpgmmkjbaaGreat
