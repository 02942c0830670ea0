import Derived.Test.YtlikikpgmmkjbaaGreatBas
import Derived.Test.YtlikikpgmmkjbaaGreatProg
import Derived.WideMake
set_option linter.unusedVariables false
set_option linter.unusedSimpArgs false
set_option maxRecDepth 100000
set_option maxHeartbeats 4000000
open Go.RowKit
namespace Go.Proofs.YtlikikpgmmkjbaaGreat
open Tryz
open Tryz
abbrev aRQ:=@List.getD_eq_getElem?_getD
abbrev aR2:=@List.length_nil
abbrev aSe:=@List.mem_cons_self
abbrev aSo:=@decide_eq_true
abbrev aSt:=@decide_eq_false
abbrev aSJ:=@Int.toNat_natCast
abbrev aSY:=@List.getElem?_replicate
abbrev aTt:=@Nat.succ_mul
abbrev aTw:=@Nat.lt_of_lt_of_le
abbrev aTC:=@Nat.min_eq_left
abbrev aTQ:=@And.left
abbrev aTS:=@Nat.le_of_ble_eq_true
abbrev aUe:=@of_decide_eq_false
abbrev aUn:=@Go.run_sliceAt_slice
abbrev aUs:=@Nat.add_assoc
abbrev aUI:=@Nat.mul_one
abbrev aUK:=@Nat.lt_succ_iff_lt_or_eq
abbrev aU1:=@Nat.eq_of_beq_eq_true
abbrev aU5:=@List.getElem?_toArray
abbrev aVb:=@List.mem_of_mem_drop
abbrev aVk:=@Go.size_madeCells
abbrev aVu:=@Go.MapKept.run_findKey
abbrev aVz:=@Nat.add_comm
abbrev aVU:=@Array.getD_eq_getD_getElem?
abbrev aV3:=@Array.getElem?_append_left
abbrev aV8:=@Prod.mk.injEq
abbrev aWa:=@List.getElem?_take_of_lt
abbrev aWi:=@Nat.ne_of_beq_eq_false
abbrev aWk:=@List.drop_of_length_le
abbrev aWt:=@Array.size_replicate
abbrev aWw:=@List.replicate_succ
abbrev aWz:=@List.drop_succ_cons
abbrev aWG:=@not_true_eq_false
abbrev aWK:=@Go.MapKept.run_checkKey

def fN (n:Int):Prop:=(Lit.int .i64 n).wf=true
theorem bG {n:Int}:fN n↔ -9223372036854775808≤n∧n≤9223372036854775807:=by
 unfold fN;simp [Lit.wf,IntKind.min,IntKind.max,IntKind.signed,IntKind.bits]
def bQ:τ Int:=τ.flat 1 (fun n=> [.int .i64 n]) fN (fun _ u=>∃ n:Int,u= .int .i64 n) (fun _=>rfl) (by intro a u hu;simp at hu;subst hu;rfl) (by
 intro a j u hu;cases j with
 | zero=>simp at hu;exact ⟨a,hu.symm⟩
 | succ j=>simp at hu)
def zj:τ Bool:=τ.flat 1 (fun n=> [.bool n]) (fun _=>True) (fun _ u=>∃ n:Bool,u= .bool n) (fun _=>rfl) (by intro a u hu;simp at hu;subst hu;rfl) (by
 intro a j u hu;cases j with
 | zero=>simp at hu;exact ⟨a,hu.symm⟩
 | succ j=>simp at hu)
def uC:τ ByteArray:=τ.Vs 1 (fun n=> [.string n]) (fun s=>s.size≤140737488351232) (fun _ u=>∃ n:ByteArray,u= .string n∧n.size≤140737488351232) (fun _=>rfl) (by intro a u hu;simp at hu;subst hu;rfl) (by
 intro a ok j u hu;cases j with
 | zero=>simp at hu;exact ⟨a,hu.symm,ok⟩
 | succ j=>simp at hu)
theorem akK:bQ.Plain:=τ.oP
theorem aCj:uC.wH:=τ.at3
section
variable {by_:Nat} {w:World} {A:Option Addr} {c:Nat}
theorem FF {l:List Int} (h:bQ.aJ by_ w A c l) (aG:0<l.length):∃ b o,A=some ⟨b,o,none⟩∧∀ (i:Nat) (a:Int),l[i]? =some a→w.cell? ⟨b,o+i,none⟩=some (.int .i64 a):=by
 obtain ⟨b,o,e,hc⟩:=h.at_ aG;refine ⟨b,o,e,fun i a ha=> ?_⟩;obtain ⟨es,⟨rfl,_⟩,ay⟩:=hc i a ha;have:=ay 0 _ rfl;simpa [bQ,τ.flat] using this
end
theorem YQ (w:World) (cs:List Value) (h:(.int .i64:gM).iY w cs):∃ a,bQ.has w cs a:=by
 obtain ⟨n,rfl,hn⟩:=h;exact ⟨n,Z,hn⟩
theorem Iz {by_:Nat} {w:World} {A:Option Addr} {c:Nat} {l:List Int} (h:bQ.aJ by_ w A c l):∀ a∈l,fN a:=τ.aJ.yx (R:=bQ) (Q:=fN) (fun {w cs a} (h:bQ.has w cs a)=>(show cs= [.int .i64 a]∧fN a from h).2) h
theorem CY:(prog.info? 3).map (fun i=>(i.zero,i.size,i.bytes))=some (some (.int .i64 0),1,8):=by kernel_rfl
theorem hP {α:Type} {l:List α} {i:Nat} (h:i<l.length):∃ a,l[i]? =some a:=⟨_,aRT h⟩
open Tryz
theorem aFG:∀ (j:Nat) u,(Value.int .i64 0).cells[j]? =some u→bQ.raw j u:=by
 intro j u hu;have hu:(#[Value.int .i64 0]:Array Value)[j]? =some u:=hu
 match j,hu with
 | 0,hu=>exact ⟨0,(aRR hu).symm⟩
 | j+1,hu=>cases hu
open Tryz

abbrev Env:=List (Nat×Value)
def look:List (Nat×Value)→Nat→Option Value
 | [],_=>none
 | (k,v)::r,t=>match Nat.beq k t with | true=>some v | false=>look r t
structure et (n:Nat) (E:List (Nat×Value)) (a:Act):Prop where
 d:a.defers= []
 s:a.tmps.size=n
 g:∀ t v,look E t=some v→a.tmps[t]? =some v
def ev (E:List (Nat×Value)):Operand→Option Value
 | .tmp t=>look E t
 | .const v=>some v
 | .global g=>some (.pointer (some ⟨g,0,none⟩))
 | .func f=>some (.func (.func f) #[] #[])
def hO (E:List (Nat×Value)):List Operand→Option (List Value)
 | []=>some []
 | x::r=>match ev E x with
  | some v=>match hO E r with
   | some l=>some (v::l)
   | none=>none
  | none=>none
section
variable {P:Program} {n:Nat} {E cU:List (Nat×Value)} {a:Act} {w w' aW:World} {Q:Exit→Act→World→Prop} {ops:Array Oper} {v:Value}
theorem et.ev {x:Operand} (h:et n E a) (hx:ev E x=some v):a.eval x=v:=by
 cases x with
 | tmp t=>have:=h.g t v hx;simp [Act.eval,this]
 | const u=>exact aRR hx
 | global g=>exact aRR hx
 | func f=>exact aRR hx
theorem et.hO (h:et n E a):∀ {l:List Operand} {vs:List Value},hO E l=some vs→l.map a.eval=vs
 | [],_,e=>by simp only [Proofs.YtlikikpgmmkjbaaGreat.hO] at e;exact aRR e
 | x::r,vs,e=>by
  simp only [Proofs.YtlikikpgmmkjbaaGreat.hO] at e;cases hx:Proofs.YtlikikpgmmkjbaaGreat.ev E x with
  | none=>rw [hx] at e;cases e
  | some v =>
   rw [hx] at e;simp only at e;cases hr:Proofs.YtlikikpgmmkjbaaGreat.hO E r with
   | none=>rw [hr] at e;cases e
   | some l =>
    rw [hr] at e;simp only at e;obtain rfl:=aRR e;rw [aSH,h.ev hx,et.hO h hr]
theorem et.put {d:Nat} (h:et n E a) (hd:Nat.blt d n=true) (v:Value):et n ((d,v)::E) (a.put (some d) v):=by
 rw [aVp] at hd;refine ⟨h.d,by simp [Act.put,h.s],fun t u hu=> ?_⟩;simp only [look] at hu;cases Φ:Nat.beq d t with
 | true =>
  rw [Φ] at hu;obtain rfl:d=t:=aU1 Φ;obtain rfl:=aRR hu;simp [Act.put,h.s,hd]
 | false =>
  rw [Φ] at hu;have ff:d≠t:=aWi Φ;simp only [Act.put];rw [aTH ff];exact h.g t u hu
theorem et.none (h:et n E a) (v:Value):et n E (a.put none v):=h
def Sub (cU E:List (Nat×Value)):Prop:=∀ t v,look cU t=some v→look E t=some v
theorem Sub.nil:Sub [] E:=fun t v h=>by simp [look] at h
theorem Sub.cons {k:Nat} (h:look E k=some v) (hs:Sub cU E):Sub ((k,v)::cU) E:=fun t u hu=>by
 simp only [look] at hu;cases Φ:Nat.beq k t with
 | true=>rw [Φ] at hu;obtain rfl:k=t:=aU1 Φ;obtain rfl:=aRR hu;exact h
 | false=>rw [Φ] at hu;exact hs t u hu
theorem et.sub (h:et n E a) (hs:Sub cU E):et n cU a:=⟨h.d,h.s,fun t v hv=>h.g t v (hs t v hv)⟩
def W (P:Program) (n:Nat) (c:Code) (Q:Exit→Act→World→Prop) (E:List (Nat×Value)) (w:World):Prop:=∀ a,et n E a→c.wp P Q a w
def N (n:Nat) (Q:Exit→Act→World→Prop) (E:List (Nat×Value)) (w:World):Prop:=∀ a,et n E a→Q .normal a w
def X (n:Nat) (Q:Exit→Act→World→Prop) (id:Nat) (E:List (Nat×Value)) (w:World):Prop:=∀ a,et n E a→Q (.exit id) a w
def T (n:Nat) (Q:Exit→Act→World→Prop) (E:List (Nat×Value)) (w:World):Prop:=∀ a,et n E a→Q .ret a w
def cK (P:Program) (n:Nat) (ops:Array Oper) (Q:Exit→Act→World→Prop) (l:List Oper) (E:List (Nat×Value)) (w:World):Prop:=∀ a,et n E a→wpList P ops Q l a w
abbrev rm (P:Program) (y:Code) (Q:Exit→Act→World→Prop):Exit→Act→World→Prop:=Exit.then (fun a w=>y.wp P Q a w) Q
theorem az {x y:Code} (h:W P n x (rm P y Q) E w):W P n (.seq x y) Q E w:=fun a ha=>wp_seq (h a ha)
theorem fo (h:N n Q E w):W P n .skip Q E w:=fun a ha=>wp_skip (h a ha)
theorem rt (h:T n Q E w):W P n .ret Q E w:=fun a ha=>wp_ret (h a ha)
theorem dK {id:Nat} (h:X n Q id E w):W P n (.exit id) Q E w:=fun a ha=>wp_exit (h a ha)
theorem bS {id:Nat} {c:Code} (h:W P n c (Exit.inBlock id Q) E w):W P n (.block id c) Q E w:=fun a ha=>wp_block (h a ha)
theorem rg {id:Nat} {l:List Oper} (h:cK P n l.toArray Q l E w):W P n (.region id l.toArray false) Q E w:=fun a ha=>wp_region_lit (h a ha)
theorem fB {c:Operand} {x y:Code} (hc:ev E c=some (.bool true)) (h:W P n x Q E w):W P n (.cond c x y) Q E w:=fun a ha=>wp_cond_true (ha.ev hc) (h a ha)
theorem hM {c:Operand} {x y:Code} (hc:ev E c=some (.bool false)) (h:W P n y Q E w):W P n (.cond c x y) Q E w:=fun a ha=>wp_cond_false (ha.ev hc) (h a ha)
theorem Uj {c:Operand} {x y:Code} (b:Bool) (hc:ev E c=some (.bool b)) (κ:b=true→W P n x Q E w) (aa:b=false→W P n y Q E w):W P n (.cond c x y) Q E w :=
 fun a ha=>wp_cond_split (ha.ev hc) (fun h=>κ h a ha) (fun h=>aa h a ha)
theorem dE {c:Operand} {x y:Code} {b:Bool} (hc:ev E c=some (.bool b)) (κ:b=true→W P n x Q E w) (aa:b=false→W P n y Q E w):W P n (.cond c x y) Q E w:=Uj b hc κ aa
theorem nl (h:N n Q E w):cK P n ops Q [] E w:=h
theorem aV {y:Code} (h:W P n y Q E w):N n (rm P y Q) E w:=h
theorem bY {id:Nat} (h:N n Q E w):N n (Exit.inBlock id Q) E w:=h
theorem dJ {y:Code} {id:Nat} (h:X n Q id E w):X n (rm P y Q) id E w:=h
theorem ei {K:Act→World→Prop} {id:Nat} (h:X n Q id E w):X n (Exit.then K Q) id E w:=h
theorem dI {id:Nat} (h:N n Q E w):X n (Exit.inBlock id Q) id E w:=fun a ha=>by simp only [Exit.inBlock,aTD];exact h a ha
theorem Nn {id QQ:Nat} (ff:Nat.beq QQ id=false) (h:X n Q QQ E w):X n (Exit.inBlock id Q) QQ E w:=fun a ha=>by simp only [Exit.inBlock,aR0 (aWi ff)];exact h a ha
theorem bO {y:Code} (h:T n Q E w):T n (rm P y Q) E w:=h
theorem mq {K:Act→World→Prop} (h:T n Q E w):T n (Exit.then K Q) E w:=h
theorem eF {id:Nat} (h:T n Q E w):T n (Exit.inBlock id Q) E w:=h
def Ca:Nat→List Value→List (Nat×Value)
 | _, []=> []
 | i,v::r=>(i,v)::Ca (i+1) r
theorem TW:∀ (l:List Value) (i t:Nat) (v:Value),look (Ca i l) t=some v→∃ j,t=i+j∧l[j]? =some v
 | [],_,_,_,h=>by simp [Ca,look] at h
 | u::r,i,t,v,h=>by
  simp only [Ca,look] at h;cases Φ:Nat.beq i t with
  | true=>rw [Φ] at h;exact ⟨0,by have:=aU1 Φ;omega,by simpa using h⟩
  | false =>
   rw [Φ] at h;obtain ⟨j,e,ay⟩:=TW r (i+1) t v h;exact ⟨j+1,by omega,by simpa using ay⟩
theorem cd {f:FuncId} {fn:Func} {c:Code} {l:List Value} {R:Ending→World→Prop} (hf:P.funcs[f]? =some fn) (Φ:fn.body=some c) (hn:fn.ntmps=n) (aB:Nat.ble l.length n=true)
  (h:W P n c (bodyPost P fn R) (Ca 0 l) w):Calls P f l.toArray w R:=by
 refine calls_of_wp hf Φ (h _ ⟨Z, ?_,fun t v hv=> ?_⟩)
 ·have:=aTS aB;simp only [aVH,aWt,hn,aTn];omega
 ·obtain ⟨j,e,ay⟩:=TW l 0 t v hv;have bC:=(aRS.1 ay).1;rw [aV3 (by simp;omega)];simpa [show t=j by omega] using ay
inductive wW (P:Program) (E:List (Nat×Value)) (w:World):List ResultVar→List Value→Prop
 | nil:wW P E w [] []
 | tmp {t:Nat} {v:Value} {r:List ResultVar} {vs:List Value} (h:look E t=some v) (hr:wW P E w r vs):wW P E w (.tmp t::r) (v::vs)
 | cell {t:Nat} {ty:TypeId} {p:Addr} {v:Value} {r:List ResultVar} {vs:List Value} (h:look E t=some (.pointer (some p))) (aB:(loadVar ty p).run P w= .ok v w) (hr:wW P E w r vs):wW P E w (.cell t ty::r) (v::vs)
def uE:List Value→Value
 | [v]=>v
 | vs=> .tuple vs.toArray
theorem wW.run {l:List ResultVar} {vs:List Value} (h:wW P E w l vs) (ha:et n E a) (f:ResultVar→Sem Value) (f1:∀ t,f (.tmp t)=pure (a.tmps.getD t undef)) (f2:∀ c t,f (.cell c t)=(asAddr (a.tmps.getD c undef)>>= fun p=>loadVar t p)):
  (l.mapM f).run P w= .ok vs w:=by
 induction h with
 | nil=>rfl
 | @tmp t v r vs h hr bF =>
  have aa:a.tmps.getD t undef=v:=by rw [aVU,ha.g _ _ h];rfl
  simp only [List.mapM_cons,aR8,f1,aa,aR9,aRZ,bF]
 | @cell t ty p v r vs h aB hr bF =>
  have aa:a.tmps.getD t undef= .pointer (some p):=by rw [aVU,ha.g _ _ h];rfl
  simp only [List.mapM_cons,aR8,f2,aa,asAddr,aR9,aRZ,aB,bF]
theorem YU {fn:Func} {vs:List Value} (h:wW P E w fn.results.toList vs) (ha:et n E a):(results fn a.tmps).run P w= .ok (uE vs) w:=by
 unfold results;rw [Array.mapM_eq_mapM_toList];simp only [aR8,Sem.run_map];rw [h.run ha _ (fun _=>rfl) (fun _ _=>rfl)]
 match vs with
 | []=>rfl
 | [v]=>rfl
 | _::_::_=>simp [uE]
theorem a8 {fn:Func} {R:Ending→World→Prop} {vs:List Value} (h:wW P E w fn.results.toList vs) (hR:R (.returned (uE vs)) w):T n (bodyPost P fn R) E w :=
 fun a ha=>⟨ha.d,_,YU h ha,hR⟩
def Oj (n:Nat) (kE:Nat→List (Nat×Value)→World→Prop) (m:Nat):Act→World→Prop:=fun a w=>∃ m',m'<m∧∃ cU,kE m' cU w∧et n cU a
theorem fk {c:Code} (kE:Nat→List (Nat×Value)→World→Prop) (m:Nat) (cU:List (Nat×Value)) (aG:kE m cU w) (hs:Sub cU E)
  (round:∀ m E w,kE m E w→W P n c (Exit.then (Oj n kE m) Q) E w):W P n (.loop c) Q E w:=fun a ha=>by
 intro b k cs;have key:∀ m a w,(∃ E,kE m E w∧et n E a)→∃ e a' w',Q e a' w'∧Arrives P (lone (b.at a (.code c:: .inLoop c::k)) cs w) b k cs e a' w':=by
  intro m;induction m using Nat.strongRecOn with
  | _ m bF =>
   intro a w ⟨E,qA,ha⟩;obtain ⟨e,cf,aW,I,pR⟩:=round m E w qA a ha b (.inLoop c::k) cs;cases e with
   | normal =>
    obtain ⟨m',bC,VY⟩:=I;obtain ⟨bl,a2,cF,xv,Wm⟩:=bF m' bC cf aW VY;exact ⟨bl,a2,cF,xv, .of_steps (Steps.trans pR (.one step_inLoop)) Wm⟩
   | exit id=>exact ⟨_,cf,aW,I, .pass (x:= .inLoop c) rfl (fun _ _=> .inl (by simp)) pR⟩
   | goto l=>exact ⟨_,cf,aW,I, .pass (x:= .inLoop c) rfl (fun _ _=> .inl (by simp)) pR⟩
   | ret=>exact ⟨_,cf,aW,I, .pass (x:= .inLoop c) rfl (fun _ _=> .inl (by simp)) pR⟩
   | panic aqH=>exact ⟨_,cf,aW,I, .pass (x:= .inLoop c) rfl (fun _ _=> .inl (by simp)) pR⟩
   | outgrown=>exact ⟨_,cf,aW,I, .pass (x:= .inLoop c) rfl (fun _ _=> .inl (by simp)) pR⟩
 obtain ⟨e,a',w',I,pR⟩:=key m a w ⟨cU,aG,ha.sub hs⟩;exact ⟨e,a',w',I, .of_steps (.one step_loop) pR⟩
theorem c' {kE:Nat→List (Nat×Value)→World→Prop} {m:Nat} (m':Nat) (cU:List (Nat×Value)) (h:kE m' cU w) (hm:m'<m) (hs:Sub cU E):N n (Exit.then (Oj n kE m) Q) E w :=
 fun a ha=>⟨m',hm,cU,h,ha.sub hs⟩
variable {d:Option Nat} {ty:TypeId} {pos:String} {af:Array Edge} {g:Option (Nat×Bool)} {x y z:Operand} {t:TypeId} {rest:List Oper}
def cY (P:Program) (E:List (Nat×Value)) (o:Oper) (w:World) (v:Value) (w':World):Prop:=∀ n a,et n E a→(execOp a.eval o).run P w= .ok (.value v) w'
def aoL (P:Program) (E:List (Nat×Value)) (o:Oper) (w w':World):Prop:=∀ n a,et n E a→(execOp a.eval o).run P w= .ok .skip w'
theorem GH {o:Oper} (aO:o.guard=none) {a:Act} (h:o.wp P a w (wpList P ops Q rest) Q):wpList P ops Q (o::rest) a w:=by
 unfold wpList;rw [aR5 (by simp [Region.wanted,aO])];exact .inl h
theorem iy {d:Nat} {op:Op} (hr:cY P E ⟨some d,op,ty,pos,af,none⟩ w v w') (hd:Nat.blt d n=true) (h:cK P n ops Q rest ((d,v)::E) w'):cK P n ops Q (⟨some d,op,ty,pos,af,none⟩::rest) E w:=fun a ha=>by
 refine GH Z ?_;unfold Oper.wp;rw [hr n a ha];exact h _ (ha.put hd v)
theorem us {op:Op} (hr:aoL P E ⟨none,op,ty,pos,af,none⟩ w w') (h:cK P n ops Q rest E w'):cK P n ops Q (⟨none,op,ty,pos,af,none⟩::rest) E w:=fun a ha=>by
 refine GH Z ?_;unfold Oper.wp;rw [hr n a ha];exact h _ ha
def Enters (P:Program) (f:FuncId):Prop:=∃ fn,P.funcs[f]? =some fn∧(fn.name == "runtime.NumGoroutine")=false∧fn.body.isNone=false
theorem MK {f:FuncId} (hf:Enters P f) {xs:Array Operand} {ts:Array TypeId} {args:List Value} {a:Act} (ha:et n E a) (he:hO E xs.toList=some args):
  (execOp a.eval ⟨d, .call {callee:= .value (.func f),args:=xs,argTypes:=ts},ty,pos,af,g⟩).run P w= .ok (.enter f args.toArray) w:=by
 obtain ⟨fn,κ,aa,aw⟩:=hf;have hm:xs.map a.eval=args.toArray:=by rw [← ha.hO he];apply aTl;simp
 exact akR f fn κ aa aw xs ts Z _ hm
theorem ca {d:Nat} {f:FuncId} (hf:Enters P f) {xs:Array Operand} {ts:Array TypeId} {args:List Value} (he:hO E xs.toList=some args) (hd:Nat.blt d n=true)
  (h:Calls P f args.toArray w fun e w'=>∃ v,e= .returned v∧cK P n ops Q rest ((d,v)::E) w'):cK P n ops Q (⟨some d, .call {callee:= .value (.func f),args:=xs,argTypes:=ts},ty,pos,af,none⟩::rest) E w:=fun a ha=>by
 refine GH Z ?_;unfold Oper.wp;rw [MK hf ha he];refine aVJ h fun e w' fS=> ?_;obtain ⟨v,rfl,h⟩:=fS;exact h _ (ha.put hd v)
theorem aH (hx:ev E x=some v):cY P E ⟨d, .move x,ty,pos,af,g⟩ w v w:=fun n a ha=>by simp only [execOp,ha.ev hx];rfl
theorem ew (hx:ev E x=some v):cY P E ⟨d, .assign x,ty,pos,af,g⟩ w v w:=fun n a ha=>by simp only [execOp,ha.ev hx];rfl
theorem ex {l:List Value} {k:Nat} (hx:ev E x=some (.tuple l.toArray)) (av:l[k]? =some v):cY P E ⟨d, .extract x k,ty,pos,af,g⟩ w v w:=fun n a ha=>by
 simp only [execOp,ha.ev hx,Instr.extract,aU5,av];rfl
theorem b3 {p:Addr} (hx:ev E x=some (.pointer (some p))):cY P E ⟨d, .nilCheck x,ty,pos,af,g⟩ w (.pointer (some p)) w:=fun n a ha=>by simp only [execOp,ha.ev hx];rfl
theorem eg {b:Bool} (hx:ev E x=some (.bool b)):cY P E ⟨d, .unOp .not t x,ty,pos,af,g⟩ w (.bool !b) w:=fun n a ha=>by
 simp only [execOp,ha.ev hx];cases b<;>rfl
theorem qT {v:Value} (hx:ev E x=some (.bool true)) (aK:ev E y=some v):cY P E ⟨d, .pick x y z,ty,pos,af,g⟩ w v w:=fun n a ha=>by
 simp only [execOp,ha.ev hx,ha.ev aK];rfl
theorem s4 {v:Value} (hx:ev E x=some (.bool false)) (bE:ev E z=some v):cY P E ⟨d, .pick x y z,ty,pos,af,g⟩ w v w:=fun n a ha=>by
 simp only [execOp,ha.ev hx,ha.ev bE];rfl
def h' (c:Bool) (v:Value):Value:=if c=true then v else undef
theorem gt {c:Bool} (hc:c=true) (h:ev E x=some (h' c v)):ev E x=some v:=by rw [h,hc];rfl
theorem eE {b c q:Bool} (hx:ev E x=some (.bool b)) (aK:ev E y=some (.bool true)) (I:(b == false)=q) (bE:ev E z=some (h' q (.bool c))):cY P E ⟨d, .pick x y z,ty,pos,af,g⟩ w (.bool (b || c)) w:=fun n a ha=>by
 subst I;simp only [execOp,ha.ev hx,ha.ev aK,ha.ev bE];cases b<;>rfl
theorem dH {b c q:Bool} (hx:ev E x=some (.bool b)) (bE:ev E z=some (.bool false)) (I:(b == true)=q) (aK:ev E y=some (h' q (.bool c))):cY P E ⟨d, .pick x y z,ty,pos,af,g⟩ w (.bool (b && c)) w:=fun n a ha=>by
 subst I;simp only [execOp,ha.ev hx,ha.ev aK,ha.ev bE];cases b<;>rfl
section
variable {k k':IntKind} {i j:Int} {u:TypeId}
theorem o6 {op:BinOp} {s:Sem Value} (hx:ev E x=some (.int k i)) (aK:ev E y=some (.int k' j)) (h:binOp op t (.int k i) (.int k' j)=s) (hr:s.run P w= .ok v w):cY P E ⟨d, .binOp op t x y u,ty,pos,af,g⟩ w v w:=fun n a ha=>by
 simp only [execOp,ha.ev hx,ha.ev aK,eqGuard_at_int,h,aR8,aR9,aRZ,hr]
theorem bad (hx:ev E x=some (.int k i)) (aK:ev E y=some (.int k j)) (h:k.wrap (i+j)=i+j):cY P E ⟨d, .binOp .add t x y u,ty,pos,af,g⟩ w (.int k (i+j)) w:=o6 hx aK (binOp_add t k i j) (by simp [Op.intArith,h])
theorem mi (hx:ev E x=some (.int k i)) (aK:ev E y=some (.int k j)) (h:k.wrap (i - j)=i - j):cY P E ⟨d, .binOp .sub t x y u,ty,pos,af,g⟩ w (.int k (i - j)) w:=o6 hx aK (binOp_sub t k i j) (by simp [Op.intArith,h])
theorem Ce (hx:ev E x=some (.int k i)) (aK:ev E y=some (.int k j)) (h:k.wrap (i * j)=i * j):cY P E ⟨d, .binOp .mul t x y u,ty,pos,af,g⟩ w (.int k (i * j)) w:=o6 hx aK (binOp_mul t k i j) (by simp [Op.intArith,h])
theorem apV (hx:ev E x=some (.int k i)) (aK:ev E y=some (.int k j)):cY P E ⟨d, .binOp .sub t x y u,ty,pos,af,g⟩ w (.int k (k.wrap (i - j))) w:=o6 hx aK (binOp_sub t k i j) (by simp [Op.intArith])
theorem blt (hx:ev E x=some (.int k i)) (aK:ev E y=some (.int k j)):cY P E ⟨d, .binOp .lss t x y u,ty,pos,af,g⟩ w (.bool (decide (i<j))) w:=o6 hx aK (binOp_lss t k i j) rfl
theorem ble (hx:ev E x=some (.int k i)) (aK:ev E y=some (.int k j)):cY P E ⟨d, .binOp .leq t x y u,ty,pos,af,g⟩ w (.bool (decide (i≤j))) w:=o6 hx aK (binOp_leq t k i j) rfl
theorem h0 (hx:ev E x=some (.int k i)) (aK:ev E y=some (.int k j)):cY P E ⟨d, .binOp .gtr t x y u,ty,pos,af,g⟩ w (.bool (decide (j<i))) w:=o6 hx aK (binOp_gtr t k i j) rfl
theorem j3 (hx:ev E x=some (.int k i)) (aK:ev E y=some (.int k j)):cY P E ⟨d, .binOp .geq t x y u,ty,pos,af,g⟩ w (.bool (decide (j≤i))) w:=o6 hx aK (binOp_geq t k i j) rfl
theorem beq (hx:ev E x=some (.int k i)) (aK:ev E y=some (.int k j)):cY P E ⟨d, .binOp .eql t x y u,ty,pos,af,g⟩ w (.bool (i == j)) w:=o6 hx aK (binOp_eql t k i j) rfl
theorem bne (hx:ev E x=some (.int k i)) (aK:ev E y=some (.int k j)):cY P E ⟨d, .binOp .neq t x y u,ty,pos,af,g⟩ w (.bool (i != j)) w:=o6 hx aK (binOp_neq t k i j) rfl
end
def eP (P:Program) (t:TypeId) (k:Nat):Prop:=∀ w,(sizeOf t).run P w= .ok k w
def eH (P:Program) (t:TypeId) (b:Bool):Prop:=∀ w,(isAgg t).run P w= .ok b w
def mg (P:Program) (t:TypeId) (v:Value):Prop:=∀ w,(zeroValue t).run P w= .ok v w
def Fd (P:Program) (t:TypeId) (i off:Nat):Prop:=∀ w g o,(Instr.fieldAt t (.pointer (some ⟨g,o,none⟩)) i).run P w= .ok (.pointer (some ⟨g,o+off,none⟩)) w
section
variable {b o k:Nat} {cs:List Value}
theorem au {i off:Nat} (hf:Fd P t i off) (hx:ev E x=some (.pointer (some ⟨b,o,none⟩))):cY P E ⟨d, .fieldAddr t x i,ty,pos,af,g⟩ w (.pointer (some ⟨b,o+off,none⟩)) w:=fun n a ha=>by
 simp only [execOp,ha.ev hx,aR8,hf w b o,aRZ,aR9]
theorem LL {e:TypeId} {size len cap:Nat} {Xt:IntKind} {i:Int} (j:Nat) (aE:P.underlying t=some (.slice e)) (hs:eP P e size) (hx:ev E x=some (.slice (some ⟨b,o,none⟩) len cap)) (ar:ev E y=some (.int Xt i)) (ay:i=(j:Int)) (bC:j<len):
  cY P E ⟨d, .indexAddr t x y,ty,pos,af,g⟩ w (.pointer (some ⟨b,o+j * size,none⟩)) w:=fun n a ha=>by
 subst ay;simp only [execOp,ha.ev hx,ha.ev ar,Instr.indexAt,asIntOf,aR8,aR9,aRZ,aS1 aE];rw [aR5 ⟨by omega,by omega⟩];simp only [aR8,hs w,aRZ,aR9,aSJ,GK]
def ln (P:Program) (w:World) (t:TypeId) (p:Addr) (v:Value):Prop:=(loadVar t p).run P w= .ok v w
theorem ln.one {p:Addr} (aE:eH P t false) (h:w.cell? p=some v):ln P w t p v:=by
 unfold ln loadVar;simp only [aR8,aE w,aRZ,aSK,aTf,run_load,h]
theorem ln.agg (aE:eH P t true) (hs:eP P t cs.length) (h:∀ j v,cs[j]? =some v→w.cell? ⟨b,o+j,none⟩=some v):ln P w t ⟨b,o,none⟩ (.agg cs.toArray):=by
 unfold ln loadVar;simp only [aR8,aE w,aRZ,aTD,hs w,run_loadCells_list w ⟨b,o,none⟩ cs (fun j v ay=>by rw [GK];exact h j v ay),aR9]
theorem ak {p:Addr} (hx:ev E x=some (.pointer (some p))) (h:ln P w t p v):cY P E ⟨d, .load t x,ty,pos,af,g⟩ w v w:=fun n a ha=>by
 unfold ln at h;simp only [execOp,ha.ev hx,Instr.loadAt,Instr.sureAddr,aR8,aR9,aRZ,h]
theorem aP.one {p:Nat} {cur:List Value} {e:TypeId} {aA:Nat×Nat} (h:aP w b cur e aA) (aE:eH P t false) (hv:cur[p]? =some v):ln P w t ⟨b,p,none⟩ v:=ln.one aE (by rw [h.cell,hv])
theorem aP.agg {p:Nat} {cur:List Value} {e:TypeId} {aA:Nat×Nat} (h:aP w b cur e aA) (aE:eH P t true) (hs:eP P t cs.length) (hv:(cur.drop p).take cs.length=cs):ln P w t ⟨b,p,none⟩ (.agg cs.toArray):=
 ln.agg aE hs fun j v ay=>by
  rw [h.cell,← ay];have aB:=(aRS.1 ay).1
  conv=>rhs;rw [← hv]
  rw [aWa aB,aSV]
theorem cw {op:Op} {d:Nat} {cs:List Value} (vK:op= .box t x) (hx:ev E x=some v) (hc:v.cells=cs.toArray) (hd:Nat.blt d n=true)
  (h:∀ aW b,Ext w aW→w.heap.size≤b→aP aW b cs t (0,0)→cK P n ops Q rest ((d, .pointer (some ⟨b,0,none⟩))::E) aW):cK P n ops Q (⟨some d,op,ty,pos,af,none⟩::rest) E w:=by
 subst vK;refine iy (w':=w.alloc (.cells v.cells t)) (v:= .pointer (some ⟨w.heap.size,0,none⟩)) (fun n a ha=> ?_) hd (h _ _ ((aSm _ w).alloc (aR3 _) _) (aR3 _) (by rw [hc];exact aP.new w cs t (0,0)));simp only [execOp,ha.ev hx,Instr.box,newVar,newRow,aR8,run_newObj_alloc,aRZ,aR9]
theorem al {op:Op} {d:Nat} {cs:List Value} (vK:op= .alloc t) (bE:mg P t v) (hc:v.cells=cs.toArray) (hd:Nat.blt d n=true)
  (h:∀ aW b,Ext w aW→w.heap.size≤b→aP aW b cs t (0,0)→cK P n ops Q rest ((d, .pointer (some ⟨b,0,none⟩))::E) aW):cK P n ops Q (⟨some d,op,ty,pos,af,none⟩::rest) E w:=by
 subst vK;refine iy (w':=w.alloc (.cells v.cells t)) (v:= .pointer (some ⟨w.heap.size,0,none⟩)) (fun n a ha=> ?_) hd (h _ _ ((aSm _ w).alloc (aR3 _) _) (aR3 _) (by rw [hc];exact aP.new w cs t (0,0)));simp only [execOp,Instr.alloc,aR8,bE w,newVar,newRow,run_newObj_alloc,aRZ,aR9]
end
end
section
variable {P:Program} {n:Nat} {E cU:List (Nat×Value)} {a:Act} {w w' w0 aW:World} {Q:Exit→Act→World→Prop} {ops:Array Oper} {v:Value} {aZ:Nat→Nat}
variable {d:Option Nat} {ty:TypeId} {pos:String} {af:Array Edge} {g:Option (Nat×Bool)} {x y z:Operand} {t:TypeId} {rest:List Oper} {b5:List Nat} {i:Nat}
def j0 (P:Program) (n:Nat) (ops:Array Oper) (Q:Exit→Act→World→Prop) (aZ:Nat→Nat) (b5:List Nat) (E:List (Nat×Value)) (w0:World):Prop:=∀ a,et n E a→uO P ops (hj (Q .normal)) aZ b5 a w0
def oY (l:List (Nat×Nat)) (i:Nat):Nat:=match l with
 | []=>1
 | (j,k)::r=>match Nat.beq j i with | true=>k | false=>oY r i
theorem rd {id:Nat} (mO:List (Nat×Nat)) (b5:List Nat) (hm:P.follows .mixedOrders=true) (bg:(Region.noSelect ops && (b5.length == ops.size) && kl ops (oY mO) b5 (Array.replicate ops.size false))=true)
  (h:j0 P n ops Q (oY mO) b5 E w):W P n (.region id ops true) Q E w:=fun a ha=>aCf b5 hm bg (h a ha)
theorem fn (h:∀ w,Ext w0 w→N n Q E w):j0 P n ops Q aZ [] E w0:=fun a ha w hw=>h w hw a ha
theorem Bq {o:Oper} (aO:o.guard=none):Region.wanted o (yielded ops a.tmps)=true:=by simp [Region.wanted,aO]
theorem ae9 {d:Nat} {op:Op} (ar:ops[i]? =some ⟨some d,op,ty,pos,af,none⟩) (av:aZ i=0) (hr:∀ w,Ext w0 w→cY P E ⟨some d,op,ty,pos,af,none⟩ w v w) (hd:Nat.blt d n=true)
  (h:j0 P n ops Q aZ b5 ((d,v)::E) w0):j0 P n ops Q aZ (i::b5) E w0:=fun a ha =>
 ⟨_,ar, .inl ⟨av,v, .inl ⟨Bq rfl,fun w hw=>by rw [hr w hw n a ha];exact ⟨rfl,rfl⟩⟩,h _ (ha.put hd v)⟩⟩
theorem rF {d:Nat} {op:Op} (ar:ops[i]? =some ⟨some d,op,ty,pos,af,none⟩) (av:aZ i=1) (hr:∀ w,cY P E ⟨some d,op,ty,pos,af,none⟩ w v w) (hd:Nat.blt d n=true)
  (h:j0 P n ops Q aZ b5 ((d,v)::E) w0):j0 P n ops Q aZ (i::b5) E w0:=fun a ha =>
 ⟨_,ar, .inr (.inl ⟨av,v, .inl ⟨Bq rfl,fun w=>hr w n a ha⟩,h _ (ha.put hd v)⟩)⟩
theorem pN {d:Nat} {f:FuncId} {xs:Array Operand} {ts:Array TypeId} {args:List Value} (ar:ops[i]? =some ⟨some d, .call {callee:= .value (.func f),args:=xs,argTypes:=ts},ty,pos,af,none⟩) (av:aZ i=0) (hf:Enters P f) (he:hO E xs.toList=some args)
  (hr:∀ w,Ext w0 w→Calls P f args.toArray w fun e w'=>e= .returned v∧Ext w w') (hd:Nat.blt d n=true)
  (h:j0 P n ops Q aZ b5 ((d,v)::E) w0):j0 P n ops Q aZ (i::b5) E w0:=fun a ha =>
 ⟨_,ar, .inl ⟨av,v, .inl ⟨Bq rfl,fun w hw=>by rw [MK hf ha he];exact ⟨rfl,hr w hw⟩⟩,h _ (ha.put hd v)⟩⟩
theorem DA {o:Oper} {j:Nat} {q b:Bool} {de:Oper} {jM:Nat} (aO:o.guard=some (j,q)) (ay:ops[j]? =some de) (nx:de.dst=some jM) (Φ:look E jM=some (.bool b)) (ha:et n E a):Region.wanted o (yielded ops a.tmps)=(b == q):=by
 have:=ha.g _ _ Φ;cases b<;>cases q<;>simp [Region.wanted,aO,yielded,ay,nx,this]
theorem cz {d:Nat} {op:Op} {j:Nat} {q b c:Bool} {de:Oper} {jM:Nat} (ar:ops[i]? =some ⟨some d,op,ty,pos,af,some (j,q)⟩) (av:aZ i=0) (ay:ops[j]? =some de) (nx:de.dst=some jM) (Φ:look E jM=some (.bool b)) (hc:(b == q)=c)
  (hr:c=true→∀ w,Ext w0 w→cY P E ⟨some d,op,ty,pos,af,some (j,q)⟩ w v w) (hd:Nat.blt d n=true)
  (h:j0 P n ops Q aZ b5 ((d,h' c v)::E) w0):j0 P n ops Q aZ (i::b5) E w0:=fun a ha=>by
 have hw:=DA (o:=⟨some d,op,ty,pos,af,some (j,q)⟩) rfl ay nx Φ ha;rw [hc] at hw;refine ⟨_,ar, .inl ⟨av,h' c v, ?_,h _ (ha.put hd _)⟩⟩;cases c with
 | true=>exact .inl ⟨hw,fun w hx=>by rw [hr rfl w hx n a ha];exact ⟨rfl,rfl⟩⟩
 | false=>exact .inr ⟨hw,rfl⟩
theorem aY {d:Nat} {op:Op} {j:Nat} {q b c:Bool} {de:Oper} {jM:Nat} (ar:ops[i]? =some ⟨some d,op,ty,pos,af,some (j,q)⟩) (av:aZ i=1) (ay:ops[j]? =some de) (nx:de.dst=some jM) (Φ:look E jM=some (.bool b)) (hc:(b == q)=c)
  (hr:c=true→∀ w,cY P E ⟨some d,op,ty,pos,af,some (j,q)⟩ w v w) (hd:Nat.blt d n=true)
  (h:j0 P n ops Q aZ b5 ((d,h' c v)::E) w0):j0 P n ops Q aZ (i::b5) E w0:=fun a ha=>by
 have hw:=DA (o:=⟨some d,op,ty,pos,af,some (j,q)⟩) rfl ay nx Φ ha;rw [hc] at hw;refine ⟨_,ar, .inr (.inl ⟨av,h' c v, ?_,h _ (ha.put hd _)⟩)⟩;cases c with
 | true=>exact .inl ⟨hw,fun w=>hr rfl w n a ha⟩
 | false=>exact .inr ⟨hw,rfl⟩
theorem fe {d:Nat} {f:FuncId} {xs:Array Operand} {ts:Array TypeId} {args:List Value} {j:Nat} {q b c:Bool} {de:Oper} {jM:Nat} (ar:ops[i]? =some ⟨some d, .call {callee:= .value (.func f),args:=xs,argTypes:=ts},ty,pos,af,some (j,q)⟩) (av:aZ i=0) (ay:ops[j]? =some de) (nx:de.dst=some jM) (Φ:look E jM=some (.bool b)) (hc:(b == q)=c)
  (hf:Enters P f) (he:c=true→hO E xs.toList=some args)
  (hr:c=true→∀ w,Ext w0 w→Calls P f args.toArray w fun e w'=>e= .returned v∧Ext w w') (hd:Nat.blt d n=true)
  (h:j0 P n ops Q aZ b5 ((d,h' c v)::E) w0):j0 P n ops Q aZ (i::b5) E w0:=fun a ha=>by
 have hw:=DA (o:=⟨some d, .call {callee:= .value (.func f),args:=xs,argTypes:=ts},ty,pos,af,some (j,q)⟩) rfl ay nx Φ ha;rw [hc] at hw;refine ⟨_,ar, .inl ⟨av,h' c v, ?_,h _ (ha.put hd _)⟩⟩;cases c with
 | true=>exact .inl ⟨hw,fun w hx=>by rw [MK hf ha (he rfl)];exact ⟨rfl,hr rfl w hx⟩⟩
 | false=>exact .inr ⟨hw,rfl⟩
def Ep (P:Program) (n:Nat) (ops:Array Oper) (o:Oper) (E:List (Nat×Value)) (w:World) (K:List (Nat×Value)→World→Prop):Prop :=
 ∀ (Q:Exit→Act→World→Prop),(∀ cU w',K cU w'→cK P n ops Q [] cU w')→cK P n ops Q [o] E w
theorem aFe {TF aoJ:Exit→Act→World→Prop} {o:Oper} {K:Act→World→Prop} (hp:∀ c a w,¬ TF (.panic c) a w) (b7:¬ LetsOut TF) (h:o.wp P a w K TF):o.wp P a w K aoJ:=by
 unfold Oper.wp at *
 generalize (execOp a.eval o).run P w=r at *
 cases r with
 | ok m w' =>
  cases m<;>simp only [Oper.upon] at h ⊢ <;>
   first
    | exact h
    | exact aVJ h (fun e lH he=>by cases e<;>first | exact he | exact (hp _ _ _ he).elim | exact (b7 he).elim)
 | halt x w'=>cases x<;>simp only [Oper.upon] at h ⊢<;>first | exact h | exact (hp _ _ _ h).elim
theorem IC {o:Oper} (aO:o.guard=none) (ar:ops[i]? =some o) {K:Act→World→Prop} {E:List (Nat×Value)} {w:World} {abm:List (Nat×Value)→World→Prop} (h:Ep P n ops o E w abm) (hK:∀ cU w' a',abm cU w'→et n cU a'→K a' w') (ha:et n E a):
  wpOp P ops (hj (Q .normal)) i K a w:=by
 have:=h (hj K) (fun cU w' av a' rK=>hK cU w' a' av rK) a ha;unfold wpList at this;unfold wpOp;simp only [ar];rw [aR5 (Bq aO)] at this ⊢;rcases this with h | ⟨h,a,w,aa⟩
 ·exact .inl (aFe (fun _ _ _ h=>h) (fun ⟨_,_,h⟩=>h) h)
 ·exact aa.elim
theorem e8 {o:Oper} (aO:o.guard=none) (ar:ops[i]? =some o) (av:aZ i=2) (h:∀ w,Ext w0 w→Ep P n ops o E w fun cU w'=>Ext w0 w'∧j0 P n ops Q aZ b5 cU w'):j0 P n ops Q aZ (i::b5) E w0:=fun a ha =>
 ⟨_,ar, .inr (.inr ⟨by omega,fun w hw=>IC aO ar (h w hw) (fun cU w' a' av rK=>⟨fun _=>av.1,av.2 a' rK⟩) ha⟩)⟩
theorem eo {o:Oper} (aO:o.guard=none) (ar:ops[i]? =some o) (av:aZ i=3) (h:∀ w,Ext w0 w→Ep P n ops o E w fun cU w'=>j0 P n ops Q aZ b5 cU w'):j0 P n ops Q aZ (i::b5) E w0:=fun a ha =>
 ⟨_,ar, .inr (.inr ⟨by omega,fun w hw=>IC aO ar (h w hw) (fun cU w' a' av rK=>⟨fun aa=>by omega,av a' rK⟩) ha⟩)⟩
end
structure Mod (S:List Nat) (w w':World):Prop where
 os:w'.os=w.os
 tape:w'.tape=w.tape
 output:w'.output=w.output
 size:w.heap.size≤w'.heap.size
 block:∀ k,k<w.heap.size→k∉S→w'.heap[k]? =w.heap[k]?
section
variable {S oI:List Nat} {w w' w0 aW cF:World} {B:Nat}
theorem Mod.bz (h:Ext w w'):Mod S w w':=⟨h.os,h.tape,h.output,h.size,fun k av _=>h.block k av⟩
theorem Mod.below {aC:Nat} (h:Mod S w w') (hS:∀ x∈S,aC≤x) (sL:aC≤w.heap.size):Below aC w w' :=
 ⟨h.os,h.tape,h.output,h.size,fun k av=>h.block k (by omega) fun hm=>by have:=hS k hm;omega⟩
theorem Ext.mod (h:Ext w0 w) (hm:Mod S w w') (hS:∀ x∈S,w0.heap.size≤x):Ext w0 w':=Below.trans h (hm.below hS h.size)
theorem Mod.bI (S:List Nat) (w:World):Mod S w w:=⟨rfl,rfl,rfl,aR3 _,fun _ _ _=>rfl⟩
theorem Mod.md (h:Mod S w aW) (c6:Mod oI aW cF) (hs:∀ q∈oI,q∈S∨w.heap.size≤q):Mod S w cF :=
 ⟨c6.os.trans h.os,c6.tape.trans h.tape,c6.output.trans h.output,aSn h.size c6.size,fun k av hn=>(c6.block k (aTw av h.size) fun hm=>(hs k hm).elim hn (fun h=>by omega)).trans (h.block k av hn)⟩
theorem Mod.trans (h:Mod S w aW) (c6:Mod S aW cF):Mod S w cF :=
 ⟨c6.os.trans h.os,c6.tape.trans h.tape,c6.output.trans h.output,aSn h.size c6.size,fun k av hn=>(c6.block k (aTw av h.size) hn).trans (h.block k av hn)⟩
theorem Mod.grown {row:Option Nat} (h:w.grownBy w' row):Mod row.toList w w' :=
 ⟨h.os,h.tape,h.output,h.size,fun k av hn=>h.block k av fun e=>hn (by rw [← e];simp)⟩
theorem Mod.setRow (w:World) (b:Nat) (cs:Array Value):Mod [b] w (w.setRow b cs):=by
 refine ⟨Z,Z,Z,by simp [World.setRow],fun k av hn=> ?_⟩;simp only [World.setRow,aU8];rw [aR0 (by simp at hn;omega)]
theorem Mod.setCell (w:World) (p:Addr) (u:Value):Mod [p.block] w (w.setCell p u):=by
 refine ⟨Z,Z,Z,by simp [World.setCell],fun k av hn=> ?_⟩;exact Below.heap_setCell _ _ _ _ (by simpa using hn)
theorem aP.mod {g:Nat} {cur:List Value} {e:TypeId} {aA:Nat×Nat} (h:aP w g cur e aA) (hm:Mod S w w') (aO:g∉S):aP w' g cur e aA:=by
 unfold aP at *
 rw [hm.block g (aSs.1 h).1 aO];exact h
theorem τ.aF.mod {α:Type} {R:τ α} {E by_:Nat} {f:List Nat} {A:Option Addr} {c:Nat} {l:List α} (h:R.aF E by_ w B f A c l) (hm:Mod S w w') (hd:∀ x∈f,x∉S):R.aF E by_ w' B f A c l :=
 h.keep fun g aO=>hm.block g (h.lt g aO).2 (hd g aO)
end
section
variable {P:Program} {n:Nat} {E cU:List (Nat×Value)} {a:Act} {w w' w0 aW:World} {Q:Exit→Act→World→Prop} {ops:Array Oper} {v:Value}
variable {d:Option Nat} {ty:TypeId} {pos:String} {af:Array Edge} {g:Option (Nat×Bool)} {x y z:Operand} {t:TypeId} {rest:List Oper}
theorem YV {b p:Nat} {cur cs:List Value} {e:TypeId} (bg:aP w b cur e (0,0)) (hc:v.cells=cs.toArray) (hs:eP P t cs.length) (κ:cs.all (·.oneCell')=true) (aB:p+cs.length≤cur.length):
  (storeVar t ⟨b,p,none⟩ v).run P w= .ok () (w.setRow b (cur.take p++cs++cur.drop (p+cs.length)).toArray):=by
 unfold storeVar;simp only [hc,aR8,hs w,aRZ,aTn,ne_eq,aWG,aTf];have:=run_storeCells_at P b p e cs 0 cur.toArray w bg (by simpa using aB) (fun v hv=>aSL.1 κ v hv);simpa using this
theorem st {b p:Nat} {cur cs new:List Value} {e:TypeId} (hx:ev E x=some (.pointer (some ⟨b,p,none⟩))) (aK:ev E y=some v) (bg:aP w b cur e (0,0)) (hc:v.cells=cs.toArray) (hs:eP P t cs.length) (κ:cs.all (·.oneCell')=true) (aB:Nat.ble (p+cs.length) cur.length=true)
  (hn:cur.take p++cs++cur.drop (p+cs.length)=new)
  (h:∀ aW,Mod [b] w aW→aP aW b new e (0,0)→cK P n ops Q rest E aW):cK P n ops Q (⟨none, .store t x y,ty,pos,af,none⟩::rest) E w:=by
 refine us (w':=w.setRow b new.toArray) (fun n a ha=> ?_) (h _ (Mod.setRow w b _) (by rw [← hn];exact bg.setRow _));have:=YV (P:=P) bg hc hs κ (aTS aB);rw [hn] at this;simp only [execOp,ha.ev hx,ha.ev aK,Instr.storeAt,Instr.sureAddr,aR8,aR9,aRZ,this]
theorem bi {acN:Builtin} {xs:Array Operand} {ts:Array TypeId} {vs:List Value} (he:hO E xs.toList=some vs) (h:∀ cs,(builtin acN ts ty cs vs.toArray).run P w= .ok (.value v) w'):
  cY P E ⟨d, .call {callee:= .builtin acN,args:=xs,argTypes:=ts},ty,pos,af,g⟩ w v w':=fun n a ha=>by
 have hm:xs.map a.eval=vs.toArray:=by rw [← ha.hO he];apply aTl;simp
 simp only [execOp,resolve,invoke,hm,aR8,aR9,aRZ,h]
theorem cm {A:Option Addr} {len cap e:Nat} (aE:P.underlying t=some (.slice e)) (hx:ev E x=some (.slice A len cap)):cY P E ⟨d, .call {callee:= .builtin .len,args:=#[x],argTypes:=#[t]},ty,pos,af,g⟩ w (.int .i64 (len:Int)) w :=
 bi (vs:= [.slice A len cap]) (by simp only [hO,hx]) fun cs=>by
  have κ:P.underlying t=some (.slice (P.elem t)):=by simp [Program.elem,aE]
  have:=run_len_slice (P:=P) w t ty A len cap κ;simp only [builtin,aR8,this,aRZ,aR9];rfl
theorem b9 {f:FuncId} {fn:Func} (h:P.funcs[f]? =some fn) (κ:(fn.name == "runtime.NumGoroutine")=false:=by kernel_rfl) (aa:fn.body.isNone=false:=by kernel_rfl):Enters P f:=⟨fn,h,κ,aa⟩
theorem Sy {o:Oper} {c:Bool} (hw:∀ a,et n E a→Region.wanted o (yielded ops a.tmps)=c) (κ:c=true→∀ a,et n E a→o.wp P a w (wpList P ops Q rest) Q) (aa:c=false→∀ a,et n E a→wpList P ops Q rest (a.put o.dst undef) w):cK P n ops Q (o::rest) E w:=fun a ha=>by
 unfold wpList;rw [hw a ha];cases c with
 | true=>rw [aR5 rfl];exact .inl (κ Z a ha)
 | false=>rw [aR0 (by decide)];exact aa Z a ha
theorem aT {d:Nat} {op:Op} {j:Nat} {q b c:Bool} {de:Oper} {jM:Nat} (ay:ops[j]? =some de) (nx:de.dst=some jM) (Φ:look E jM=some (.bool b)) (hc:(b == q)=c)
  (hr:c=true→cY P E ⟨some d,op,ty,pos,af,some (j,q)⟩ w v w) (hd:Nat.blt d n=true) (h:cK P n ops Q rest ((d,h' c v)::E) w):cK P n ops Q (⟨some d,op,ty,pos,af,some (j,q)⟩::rest) E w :=
 Sy (c:=c) (fun a ha=>by rw [DA (o:=⟨some d,op,ty,pos,af,some (j,q)⟩) rfl ay nx Φ ha,hc])
  (fun hc a ha=>by unfold Oper.wp;rw [hr hc n a ha];subst hc;exact h _ (ha.put hd v)) (fun hc a ha=>by subst hc;exact h _ (ha.put hd undef))
theorem o9 {d:Nat} {f:FuncId} {xs:Array Operand} {ts:Array TypeId} {args:List Value} {j:Nat} {q b c:Bool} {de:Oper} {jM:Nat} (ay:ops[j]? =some de) (nx:de.dst=some jM) (Φ:look E jM=some (.bool b)) (hc:(b == q)=c)
  (hf:Enters P f) (he:c=true→hO E xs.toList=some args) (hr:c=true→Calls P f args.toArray w fun e w'=>e= .returned v∧Ext w w') (hd:Nat.blt d n=true)
  (h:∀ w',Ext w w'→cK P n ops Q rest ((d,h' c v)::E) w'):cK P n ops Q (⟨some d, .call {callee:= .value (.func f),args:=xs,argTypes:=ts},ty,pos,af,some (j,q)⟩::rest) E w :=
 Sy (c:=c) (fun a ha=>by rw [DA (o:=⟨some d,_,ty,pos,af,some (j,q)⟩) rfl ay nx Φ ha,hc])
  (fun hc a ha=>by unfold Oper.wp;rw [MK hf ha (he hc)];exact (hr hc).mono fun e w' ⟨κ,hx⟩=>by subst κ;subst hc;exact h w' hx _ (ha.put hd v)) (fun hc a ha=>by subst hc;exact h w (Ext.bI w) _ (ha.put hd undef))
theorem nO {d:Option Nat} {op:Op} {j:Nat} {q:Bool} {de:Oper} {jM:Nat} (ay:ops[j]? =some de) (nx:de.dst=some jM) (Φ:look E jM=some (.bool q)) (h:cK P n ops Q (⟨d,op,ty,pos,af,none⟩::rest) E w):cK P n ops Q (⟨d,op,ty,pos,af,some (j,q)⟩::rest) E w:=fun a ha=>by
 have h:=h a ha;have hw:=DA (o:=⟨d,op,ty,pos,af,some (j,q)⟩) (q:=q) rfl ay nx Φ ha;unfold wpList at h ⊢;rw [aR5 (Bq rfl)] at h;rw [hw,aR5 (by cases q<;>rfl)];exact h
theorem gN {x:Operand} {b c:Bool} (h:ev E x=some (.bool b)) (e:b=c):ev E x=some (.bool c):=by rw [h,e]
theorem Mv {aeX:Fn} {fs cs:Array Operand} {l m:List Value} (κ:hO E fs.toList=some l) (aa:hO E cs.toList=some m):cY P E ⟨d, .makeFunc aeX fs cs,ty,pos,af,g⟩ w (.func aeX l.toArray m.toArray) w:=fun n a ha=>by
 have bc:fs.map a.eval=l.toArray:=by rw [← ha.hO κ];apply aTl;simp
 have bl:cs.map a.eval=m.toArray:=by rw [← ha.hO aa];apply aTl;simp
 simp only [execOp,bc,bl,Instr.makeFunc,aR8,aR9,aRZ]
def xi (E:List (Nat×Value)):List (Nat×Operand)→Option (List (Nat×Value))
 | []=>some []
 | (i,x)::r=>match ev E x with
  | some v=>match xi E r with
   | some l=>some ((i,v)::l)
   | none=>none
  | none=>none
theorem et.xi (h:et n E a):∀ {l:List (Nat×Operand)} {vs:List (Nat×Value)},xi E l=some vs→l.map (fun (i,x)=>(i,a.eval x))=vs
 | [],vs,e=>by simp only [Proofs.YtlikikpgmmkjbaaGreat.xi] at e;exact aRR e
 | (i,x)::r,vs,e=>by
  simp only [Proofs.YtlikikpgmmkjbaaGreat.xi] at e;cases hx:Proofs.YtlikikpgmmkjbaaGreat.ev E x with
  | none=>rw [hx] at e;cases e
  | some v =>
   rw [hx] at e;simp only at e;cases hr:Proofs.YtlikikpgmmkjbaaGreat.xi E r with
   | none=>rw [hr] at e;cases e
   | some l =>
    rw [hr] at e;simp only at e;obtain rfl:=aRR e;rw [aSH,et.xi h hr];simp only [h.ev hx]
theorem cE {ps:Array (Nat×Operand)} {l:List (Nat×Value)} (he:xi E ps.toList=some l) (hr:(Instr.build t l.toArray).run P w= .ok v w):cY P E ⟨d, .build t ps,ty,pos,af,g⟩ w v w:=fun n a ha=>by
 have bc:ps.map (fun (i,x)=>(i,a.eval x))=l.toArray:=by rw [← ha.xi he];apply aTl;simp
 simp only [execOp,bc,aR8,hr,aRZ,aR9]
theorem cV {ps:Array (Nat×Operand)} {l:List (Nat×Value)} {d k e:Nat} {cs:List Value} (he:xi E ps.toList=some l) (hr:∀ w,(Instr.buildSlice t k l.toArray).run P w= .ok (.slice (some ⟨w.heap.size,0,none⟩) k k) (w.alloc (.cells cs.toArray e))) (hd:Nat.blt d n=true)
  (h:∀ aW b,Ext w aW→w.heap.size≤b→aP aW b cs e (0,0)→cK P n ops Q rest ((d, .slice (some ⟨b,0,none⟩) k k)::E) aW):cK P n ops Q (⟨some d, .buildSlice t k ps,ty,pos,af,none⟩::rest) E w:=by
 refine iy (w':=w.alloc (.cells cs.toArray e)) (v:= .slice (some ⟨w.heap.size,0,none⟩) k k) (fun n a ha=> ?_) hd (h _ _ ((aSm _ w).alloc (aR3 _) _) (aR3 _) (aP.new w cs e (0,0)));have bc:ps.map (fun (i,x)=>(i,a.eval x))=l.toArray:=by rw [← ha.xi he];apply aTl;simp
 simp only [execOp,bc,aR8,hr,aRZ,aR9]
def e6 (A:Option Addr):Nat:=match A with | some a=>a.block | none=>0
def la (A:Option Addr):Nat:=match A with | some a=>a.off | none=>0
theorem τ.aJ.bP {α:Type} {R:τ α} {by_ c:Nat} {A:Option Addr} {l:List α} (h:R.aJ by_ w A c l) (aG:0<l.length):A=some ⟨e6 A,la A,none⟩:=by
 obtain ⟨b,o,rfl,_⟩:=h.at_ aG;rfl
theorem τ.aJ.cB {α:Type} {R:τ α} {by_ c:Nat} {A:Option Addr} {l:List α} (h:R.aJ by_ w A c l) (aG:0<l.length):R.aJ by_ w (some ⟨e6 A,la A,none⟩) c l:=by
 rw [← h.bP aG];exact h
theorem b_ {e:TypeId} {size len cap b o:Nat} {Xt:IntKind} {i:Int} {A:Option Addr} (j:Nat) (aE:P.underlying t=some (.slice e)) (hs:eP P e size) (hx:ev E x=some (.slice A len cap)) (ar:ev E y=some (.int Xt i)) (hA:A=some ⟨b,o,none⟩) (ay:i=(j:Int)) (bC:j<len):
  cY P E ⟨d, .indexAddr t x y,ty,pos,af,g⟩ w (.pointer (some ⟨b,o+j * size,none⟩)) w:=by subst hA;exact LL j aE hs hx ar ay bC
theorem dn {α:Type} {l:List α} {j:Nat} {u:α} (h:j<l.length):l[j]? =some (l.getD j u):=by rw [aRQ,aRT h];rfl
section
variable {α:Type} {R:τ α} {by_ c b o j:Nat} {l:List α} {cells:α→List Value} {q u:α}
theorem τ.aJ.j7 (hc:∀ {w cs a},R.has w cs a→cs=cells a) (h:R.aJ by_ w (some ⟨b,o,none⟩) c l) (k:Nat) (ay:l[j]? =some q) (hu:(cells q)[k]? =some v) (aE:eH P t false):ln P w t ⟨b,o+j * R.size+k,none⟩ v:=by
 obtain ⟨pH,Ih,e,dF⟩:=h.at_ (by have:=(aRS.1 ay).1;omega);injection e with e;injection e with bc bl;subst bc;subst bl
 obtain ⟨es,κ,aa⟩:=dF j q ay;rw [hc κ] at aa;exact ln.one aE (by rw [aUs];exact aa k v hu)
theorem τ.aJ.fX (hc:∀ {w cs a},R.has w cs a→cs=cells a) (h:R.aJ by_ w (some ⟨b,o,none⟩) c l) (ay:l[j]? =some q) (hu:(cells q)[0]? =some v) (aE:eH P t false):ln P w t ⟨b,o+j * R.size,none⟩ v:=h.j7 hc 0 ay hu aE
theorem τ.aJ.hq (hc:∀ {w cs a},R.has w cs a→cs=cells a) (h:R.aJ by_ w (some ⟨b,o,none⟩) c l) (ay:l[j]? =some q) (aE:eH P t true) (hs:eP P t (cells q).length):ln P w t ⟨b,o+j * R.size,none⟩ (.agg (cells q).toArray):=by
 obtain ⟨pH,Ih,e,dF⟩:=h.at_ (by have:=(aRS.1 ay).1;omega);injection e with e;injection e with bc bl;subst bc;subst bl
 obtain ⟨es,κ,aa⟩:=dF j q ay;rw [hc κ] at aa;exact ln.agg aE hs fun k v av=>by rw [aUs];exact aa k v av
theorem τ.aJ.part (hc:∀ {w cs a},R.has w cs a→cs=cells a) (h:R.aJ by_ w (some ⟨b,o,none⟩) c l) (k:Nat) {ds:List Value} (ay:l[j]? =some q) (hd:((cells q).drop k).take ds.length=ds) (aE:eH P t true) (hs:eP P t ds.length):ln P w t ⟨b,o+j * R.size+k,none⟩ (.agg ds.toArray):=by
 obtain ⟨pH,Ih,e,dF⟩:=h.at_ (by have:=(aRS.1 ay).1;omega);injection e with e;injection e with bc bl;subst bc;subst bl
 obtain ⟨es,κ,aa⟩:=dF j q ay;rw [hc κ] at aa;refine ln.agg aE hs fun i v ar=> ?_;rw [aUs,aUs];refine aa _ v ?_;rw [← hd] at ar;have aB:=(aRS.1 ar).1;rw [aRU] at aB
 rwa [aWa (by omega),aSV] at ar
end
theorem aP.all {b:Nat} {cur:List Value} {e:TypeId} {aA:Nat×Nat} (h:aP w b cur e aA) (aE:eH P t true) (hs:eP P t cur.length):ln P w t ⟨b,0,none⟩ (.agg cur.toArray):=
 ln.agg aE hs fun j v ay=>by rw [h.cell,aS5,ay]
theorem aP.par {b p:Nat} {cur:List Value} {e:TypeId} {aA:Nat×Nat} (h:aP w b cur e aA) (cs:List Value) (aE:eH P t true) (hs:eP P t cs.length) (hv:(cur.drop p).take cs.length=cs):ln P w t ⟨b,p,none⟩ (.agg cs.toArray):=h.agg aE hs hv
end
open Tryz

section
variable {P:Program} {n:Nat} {E cU:List (Nat×Value)} {a:Act} {w w' w0 aW:World} {Q:Exit→Act→World→Prop} {ops:Array Oper} {v:Value}
theorem bH {x:Int} (h: -9223372036854775808≤x∧x≤9223372036854775807):IntKind.i64.wrap x=x:=IntWalk.i64_in x h
section
variable {d:Option Nat} {ty:TypeId} {pos:String} {af:Array Edge} {g:Option (Nat×Bool)} {x y:Operand} {t u:TypeId} {k:IntKind} {i j r:Int}
theorem pI (hx:ev E x=some (.int k i)) (aK:ev E y=some (.int k j)) (h:k.wrap (i+j)=i+j) (he:i+j=r):cY P E ⟨d, .binOp .add t x y u,ty,pos,af,g⟩ w (.int k r) w:=by subst he;exact bad hx aK h
end
theorem sU {p:Nat→Prop} {k:Nat} (h:∀ j,j<k→p j) (av:p k):∀ j,j<k+1→p j:=fun j ay=>(aUK.1 ay).elim (h j) fun e=>e ▸ av
theorem gx {w:World} {cs:List Value} {a:Int} (h:bQ.has w cs a):cs= [.int .i64 a]:=aTQ (show cs= [.int .i64 a]∧fN a from h)
theorem af6 {w:World} {cs:List Value} {a:Bool} (h:zj.has w cs a):cs= [.bool a]:=aTQ (show cs= [.bool a]∧True from h)
theorem e7 {x:Operand} {r:List Operand} {l:List Value} (h:ev E x=some v) (hr:hO E r=some l):hO E (x::r)=some (v::l):=by simp only [hO,h,hr]
theorem b2 {t:Nat} {k:IntKind} {i j:Int} (h:look E t=some (.int k i)) (e:i=j):look E t=some (.int k j):=by rw [h,e]
section
variable {c:Operand} {x y:Code} {i j:Int}
theorem en (hc:ev E c=some (.bool (decide (i<j)))) (κ:i<j→W P n x Q E w) (aa:¬ i<j→W P n y Q E w):W P n (.cond c x y) Q E w:=dE hc (fun h=>κ (aS3 h)) (fun h=>aa (aUe h))
theorem GU (hc:ev E c=some (.bool (decide (i≤j)))) (κ:i≤j→W P n x Q E w) (aa:¬ i≤j→W P n y Q E w):W P n (.cond c x y) Q E w:=dE hc (fun h=>κ (aS3 h)) (fun h=>aa (aUe h))
theorem jA (hc:ev E c=some (.bool (i == j))) (κ:i=j→W P n x Q E w) (aa:¬ i=j→W P n y Q E w):W P n (.cond c x y) Q E w:=dE hc (fun h=>κ (by simpa using h)) (fun h=>aa (by simpa using h))
theorem ey (hc:ev E c=some (.bool (i != j))) (κ:¬ i=j→W P n x Q E w) (aa:i=j→W P n y Q E w):W P n (.cond c x y) Q E w:=dE hc (fun h=>κ (by simpa using h)) (fun h=>aa (by simpa using h))
end
end
def eN (P:Program) {α:Type} (R:τ α) (t e:TypeId) (by_:Nat):Prop :=
 ∃ (i:TypeInfo) (z:Value),P.underlying t=some (.slice e)∧P.info? e=some i∧i.zero=some z∧i.size=R.size∧i.bytes=by_∧z.cells.size=R.size∧0<R.size∧∀ (j:Nat) u,z.cells[j]? =some u→R.raw j u
section
variable {P:Program} {n:Nat} {E cU:List (Nat×Value)} {a:Act} {w w' w0 aW:World} {Q:Exit→Act→World→Prop} {ops:Array Oper} {v:Value}
variable {d:Option Nat} {ty:TypeId} {pos:String} {af:Array Edge} {g:Option (Nat×Bool)} {x y z:Operand} {t:TypeId} {rest:List Oper}
theorem eN.k_ {α:Type} {R:τ α} {t e by_ k:Nat} {z:Value} (aE:P.underlying t=some (.slice e)) (ar:(P.info? e).map (fun i=>(i.zero,i.size,i.bytes))=some (some z,k,by_)) (av:R.size=k) (κ:z.cells.size=k) (aa:0<k) (aw:∀ (j:Nat) u,z.cells[j]? =some u→R.raw j u):eN P R t e by_:=by
 cases I:P.info? e with
 | none=>rw [I] at ar;cases ar
 | some i =>
  rw [I] at ar;simp only [aTr,aUH,aV8] at ar;exact ⟨i,z,aE,I,ar.1,by rw [ar.2.1,av],ar.2.2,by rw [κ,av],by rw [av];exact aa,aw⟩
theorem Ix:∀ (j:Nat) u,(Value.int .i64 0).cells[j]? =some u→bQ.raw j u:=by
 intro j u hu;have hu:(#[(.int .i64 0:Value)]:Array Value)[j]? =some u:=hu
 match j,hu with
 | 0,hu=>exact ⟨0,(aRR hu).symm⟩
 | j+1,hu=>simp at hu
theorem akE:∀ (j:Nat) u,(Value.bool false).cells[j]? =some u→zj.raw j u:=by
 intro j u hu;have hu:(#[(.bool false:Value)]:Array Value)[j]? =some u:=hu
 match j,hu with
 | 0,hu=>exact ⟨false,(aRR hu).symm⟩
 | j+1,hu=>simp at hu
def TG (P:Program) (n:Nat) (c:Code) (Q:Exit→Act→World→Prop) (k:Nat) (E:List (Nat×Value)) (w:World):Prop:=∀ a,et n E a→Code.rounds P c Q k a w
theorem HZ {c:Code} (k:Nat) (h:TG P n c Q k E w):W P n (.loop c) Q E w:=fun a ha=>wp_loop_rounds k (h a ha)
theorem lZ {c:Code} {k:Nat} (h:W P n c (Exit.then (Code.rounds P c Q k) Q) E w):TG P n c Q (k+1) E w:=fun a ha=>h a ha
theorem p9 {c:Code} {k:Nat} (h:TG P n c Q k E w):N n (Exit.then (Code.rounds P c Q k) Q) E w:=h
theorem aP.gC {α:Type} {R:τ α} {by_ b:Nat} {cs:List Value} {e:TypeId} {aA:Nat×Nat} {q:α} (Φ:aP w b cs e aA) (h:R.has w cs q) (pU:by_≤140737488355328):R.aJ by_ w (some ⟨b,0,none⟩) 1 [q]:=by
 refine ⟨aR3 _,by decide,by simpa using pU,(fun h=>by cases h), [cs],⟨h,trivial⟩, ?_⟩;have aB:=R.len h;refine ⟨by simp [aB],fun _=>⟨b,0,rfl,fun j u hu=> ?_⟩⟩;rw [aS5,Φ.cell];simpa using hu
theorem aP.K0 {α:Type} {R:τ α} {by_ b:Nat} {cs:List Value} {e:TypeId} {aA:Nat×Nat} {k:List α} (Φ:aP w b cs e aA) (ess:List (List Value)) (yX:ess.flatten=cs) (h:c_ (fun es a=>R.has w es a) ess k) (rG:k.length≤9223372036854775807) (pU:k.length * by_≤140737488355328):R.aJ by_ w (some ⟨b,0,none⟩) k.length k:=by
 refine ⟨aR3 _,rG,pU,(fun h=>by cases h),ess,h, ?_⟩;have aB:∀ x∈ess,x.length=R.size:=fun x hx=>by obtain ⟨a,ha⟩:=h.left x hx;exact R.len ha
 refine ⟨by rw [Av aB,h.length],fun _=>⟨b,0,rfl,fun j u hu=> ?_⟩⟩;rw [aS5,Φ.cell,← yX];exact hu
theorem aP.vY {α:Type} {R:τ α} {by_ b B:Nat} {cs:List Value} {e:TypeId} {k:List α} (Φ:aP w b cs e (0,0)) (ess:List (List Value)) (yX:ess.flatten=cs) (h:c_ (fun es a=>R.has w es a) ess k) (rG:k.length≤9223372036854775807) (pU:k.length * by_≤140737488355328) (aG:0<R.size) (bg:B≤b) (hR:R.Plain:=by exact τ.oP):
  R.aF e by_ w B (τ.ag (some ⟨b,0,none⟩)) (some ⟨b,0,none⟩) k.length k:=by
 have aB:∀ x∈ess,x.length=R.size:=fun x hx=>by obtain ⟨a,ha⟩:=h.left x hx;exact R.len ha
 have hlen:cs.length=k.length * R.size:=by rw [← yX,Av aB,h.length]
 refine τ.aF.A9 hR h pU ⟨by rw [yX,hlen], .inr ⟨b,k.length,cs.toArray,rfl,bg,Φ,aR3 _,rG,by simpa using hlen, ?_,fun j u hu=> ?_⟩⟩
 ·rw [yX];exact aSh (by simp [hlen])
 ·exact Hg h aG (by rw [yX];simpa using hu)
theorem ap {α:Type} {R:τ α} {e by_ base:Nat} {A c0:Option Addr} {c c2 d:Nat} {l k:List α} (nv:eN P R t e by_) (hR:R.wH) (h:R.aF e by_ w base (τ.ag A) A c l) (aa:R.aJ by_ w c0 c2 k)
  (hs:ev E x=some (.slice A l.length c)) (hx:ev E y=some (.slice c0 k.length c2)) (hlen:l.length+k.length≤9223372036854775807) (rN:(l.length+k.length) * by_≤140737488355328) (pS:base≤w.heap.size) (hd:Nat.blt d n=true)
  (av:∀ aW bM b8,Mod (τ.ag A) w aW→R.aF e by_ aW base (τ.ag bM) bM b8 (l++k)→(∀ q∈τ.ag bM,q∈τ.ag A∨w.heap.size≤q)→(bM=none↔A=none∧k= [])→cK P n ops Q rest ((d, .slice bM (l++k).length b8)::E) aW):
  cK P n ops Q (⟨some d, .call {callee:= .builtin .append,args:=#[x,y],argTypes:=#[t,t]},ty,pos,af,none⟩::rest) E w:=fun a ha=>by
 obtain ⟨i,z,bc,bl,cH,iq,An,Ao,aeg,aeh⟩:=nv;obtain ⟨s1,s2,ML,akT,ess,MM,FJ⟩:=aa;obtain ⟨eR,fl⟩:=τ.akc ess;refine τ.aFd Z x y base t e i z bc bl cH iq An Ao aeg aeh (τ.ag A) A c l h c0 k.length c2 k (ess.map fun es=>(([]:List Nat),es)) (τ.c_.plain hR.1 MM) Z (by rw [fl];exact FJ) (by rw [eR,aSu];exact h.nodup) hlen rN pS Z (ha.ev hs) (ha.ev hx) ?_;rintro bM b8 f' aW ⟨lF,mU,vZ,Iu,YA,akr⟩;obtain rfl:=lF.aue hR.2;have hm:Mod (τ.ag A) w aW:=by
  have:=Mod.grown mU
  rwa [τ.Rq] at this
 have:=av aW bM b8 hm lF (fun q I=>by
  rcases Iu q I with h | h | h
  ·exact .inl h
  ·rw [eR] at h;cases h
  ·exact .inr (by omega)) (by rw [YA];exact and_congr_right fun _=>List.length_eq_zero_iff)
 rw [aRX] at this;exact this _ (ha.put hd _)
theorem Own.ac7 {base e size:Nat} {G:Nat→Value→Prop} {b c n:Nat} {xs:List Value} (h:Own w base e size G (.slice (some ⟨b,0,none⟩) n c) n xs):∃ cur:Array Value,w.heap[b]? =some (.cells cur e (0,0))∧cur.size=c * size∧cur.toList.take (n * size)=xs:=by
 obtain ⟨κ,aa⟩:=h;rcases aa with ⟨aa,_⟩ | ⟨g',cap,cur,hv,pH,fS,d,hm,hs,aE,bB⟩
 ·cases aa
 ·injection hv with hv _ hc
  injection hv with hv
  injection hv with hv
  subst hv;subst hc;exact ⟨cur,fS,hs,aE⟩
theorem so {α:Type} {R:τ α} {e by_ B j i:Nat} {A:Option Addr} {c:Nat} {l:List α} {q q':α} {p:Addr} {u:Value} (h:R.aF e by_ w B (τ.ag A) A c l) (hR:R.wH) (ar:l[i]? =some q) (ay:Nat.blt j R.size=true) (hx:ev E x=some (.pointer (some p))) (hp:p=⟨e6 A,la A+i * R.size+j,none⟩) (aK:ev E y=some u)
  (hu:∀ (aW:World) cs,R.has w cs q→R.has aW (cs.set j u) q') (κ:u.oneCell'=true) (yX:u.cells=#[u]) (hs:eP P t 1)
  (av:∀ aW,Mod (τ.ag A) w aW→R.aF e by_ aW B (τ.ag A) A c (l.set i q')→cK P n ops Q rest E aW):cK P n ops Q (⟨none, .store t x y,ty,pos,af,none⟩::rest) E w:=by
 obtain ⟨b,rfl⟩:=h.block (by have:=(aRS.1 ar).1;omega);rw [aVp] at ay;have Lr:p=⟨b,i * R.size+j,none⟩:=by rw [hp];simp [e6,la]
 subst Lr;have vL:=h.aCS hR ar ay (fun cs hc=>hu _ cs hc);have bC:=(aRS.1 ar).1;have jE:∃ alJ,w.cell? ⟨b,i * R.size+j,none⟩=some alJ:=by
  obtain ⟨_,ps,_,_,b7,dF⟩:=h;have aB:=b7.1;rw [b7.cell _ (by rw [aS6 i];exact aTw (by rw [aS6];exact (by omega:i * R.size+j<i * R.size+R.size)) (by rw [← aTt];exact aSE _ bC))];exact ⟨_,aRT (by rw [aB];exact aTw (by omega:i * R.size+j<i * R.size+R.size) (by rw [← aTt];exact aSE _ bC))⟩
 obtain ⟨alJ,axE⟩:=jE;have hf:=h.free (i * R.size+j);refine us (w':=w.setCell ⟨b,i * R.size+j,none⟩ u) (fun n a ha=> ?_) (av _ (Mod.setCell w ⟨b,i * R.size+j,none⟩ u) vL);have iu:(storeVar t ⟨b,i * R.size+j,none⟩ u).run P w= .ok () (w.setCell ⟨b,i * R.size+j,none⟩ u):=by
  unfold storeVar;simp only [yX,aR8,hs w,aRZ,aTn,aRW,aR2,ne_eq,aS5,aWG,aTf,storeCells];have:(⟨b,i * R.size+j,none⟩:Addr).add 0=⟨b,i * R.size+j,none⟩:=rfl;rw [this,run_store P w _ u _ κ,axE];simp only [hf,aSK,aTf,aRZ,aR9]
 simp only [execOp,ha.ev hx,ha.ev aK,Instr.storeAt,Instr.sureAddr,aR8,aR9,aRZ,iu]
theorem OW {e u:TypeId} {q:Option Addr} (aE:P.underlying t=some (.pointer e)) (hx:ev E x=some (.pointer q)) (aK:ev E y=some (.pointer none)):cY P E ⟨d, .binOp .eql t x y u,ty,pos,af,g⟩ w (.bool q.isNone) w:=fun n a ha=>by
 have κ:P.underlying t=some (.pointer (P.pointee t)):=by simp [Program.pointee,aE]
 have:(eqGuard .eql t x y (.pointer q) (.pointer none)).run P w= .ok () w:=by cases x<;>cases y<;>rfl
 simp only [execOp,ha.ev hx,ha.ev aK,aR8,this,run_eql_pointer_nil w t q κ,aRZ,aR9]
def Jy (P:Program) {α:Type} [DecidableEq α] (cells:α→List Value) (t:TypeId):Prop:=∀ (a b:α) (w:World),(binOp .eql t (.agg (cells a).toArray) (.agg (cells b).toArray)).run P w= .ok (.bool (decide (a=b))) w∧(binOp .neq t (.agg (cells a).toArray) (.agg (cells b).toArray)).run P w= .ok (.bool (!decide (a=b))) w
theorem atQ {o:BinOp} {xs ys:Array Value} (h:P.eqGuardType P.depth t=false):(eqGuard o t x y (.agg xs) (.agg ys)).run P w= .ok () w:=by
 cases o<;>simp [eqGuard,h]
theorem OV {α:Type} [DecidableEq α] {cells:α→List Value} {u:TypeId} {p q:α} (nv:Jy P cells t) (bB:P.eqGuardType P.depth t=false) (hx:ev E x=some (.agg (cells p).toArray)) (aK:ev E y=some (.agg (cells q).toArray)):cY P E ⟨d, .binOp .neq t x y u,ty,pos,af,g⟩ w (.bool (!decide (p=q))) w:=fun n a ha=>by
 simp only [execOp,ha.ev hx,ha.ev aK,aR8,atQ bB,(nv p q w).2,aRZ,aR9]
theorem run_equalIn_bool (d:Nat) {p q:Bool} (aE:P.underlying t=some .bool):(Op.equalIn (d+1) t (.bool p) (.bool q)).run P w= .ok (p == q) w:=by simp [Op.equalIn,aS1 aE]
theorem run_equal_bool {p q:Bool} (aE:P.underlying t=some .bool):(Op.equal t (.bool p) (.bool q)).run P w= .ok (p == q) w:=run_equalIn_bool 9999 aE
theorem apP {u:TypeId} {p q:Bool} (aE:P.underlying t=some .bool) (hx:ev E x=some (.bool p)) (aK:ev E y=some (.bool q)):cY P E ⟨d, .binOp .neq t x y u,ty,pos,af,g⟩ w (.bool (p != q)) w:=fun n a ha=>by
 have:(eqGuard .neq t x y (.bool p) (.bool q)).run P w= .ok () w:=by cases x<;>cases y<;>rfl
 have aa:(binOp .neq t (.bool p) (.bool q)).run P w= .ok (.bool (p != q)) w:=by
  simp only [binOp,aR8,run_equal_bool aE,aRZ,aR9];rfl
 simp only [execOp,ha.ev hx,ha.ev aK,aR8,this,aa,aRZ,aR9]
theorem Fb {u i:Value} (hx:ev E x=some u) (aK:ev E y=some i) (hr:(Instr.index t u i).run P w= .ok v w):cY P E ⟨d, .index t x y,ty,pos,af,g⟩ w v w:=fun n a ha=>by
 simp only [execOp,ha.ev hx,ha.ev aK,aR8,hr,aRZ,aR9]
theorem oc {k:IntKind} {i j:Int} {ts:Array TypeId} (hx:ev E x=some (.int k i)) (aK:ev E y=some (.int k j)):cY P E ⟨d, .call {callee:= .builtin .min,args:=#[x,y],argTypes:=ts},ty,pos,af,g⟩ w (.int k (min i j)) w :=
 bi (vs:= [.int k i, .int k j]) (by simp only [hO,hx,aK]) fun cs=>by
  have:=run_min_int2 (P:=P) (w:=w) ts ty k k i j;simp only [builtin,aR8,this,aRZ,aR9];congr 3;rw [Int.min_def];split<;>split<;>omega
theorem mx {k:IntKind} {i j:Int} {ts:Array TypeId} (hx:ev E x=some (.int k i)) (aK:ev E y=some (.int k j)):cY P E ⟨d, .call {callee:= .builtin .max,args:=#[x,y],argTypes:=ts},ty,pos,af,g⟩ w (.int k (max i j)) w :=
 bi (vs:= [.int k i, .int k j]) (by simp only [hO,hx,aK]) fun cs=>by
  have:=run_max_int2 (P:=P) (w:=w) ts ty k k i j;simp only [builtin,aR8,this,aRZ,aR9];congr 3;rw [Int.max_def];split<;>split<;>omega
end
open Tryz

section
variable {P:Program} {n:Nat} {E:List (Nat×Value)} {a:Act} {w w0:World} {Q:Exit→Act→World→Prop} {ops:Array Oper} {aZ:Nat→Nat}
def zk (r:List Nat) (l:Array Bool):Array Bool:=match r with | []=>l | i::r=>zk r (l.setIfInBounds i true)
def EI (ops:Array Oper) (aZ:Nat→Nat):List Nat→Array Bool→Bool
 | [],_=>true
 | i::r,l=>(match aZ i with
   | 0=>Region.free .any ops l i && (Region.ready .any ops l).contains i && ON ops aZ l i
   | 1=>Region.free .any ops l i && (Region.ready .any ops l).contains i
   | _=>false) && EI ops aZ r (l.setIfInBounds i true)
def acF (ops:Array Oper) (aZ:Nat→Nat) (r:List Nat):Nat→List Nat→Array Bool→Bool
 | 0,R,l=>R.isEmpty && kl ops aZ r l
 | f+1,R,l=> !(Region.ready .any ops l).isEmpty && (Region.ready .any ops l).all fun j=>R.contains j && Nat.beq (aZ j) 2 && acF ops aZ r f (R.erase j) (l.setIfInBounds j true)
theorem TV (hs:Region.noSelect ops=true) (ia:∀ c a w,¬ Q (.panic c) a w) {qu:Exit→Act→World→Prop} {m:Nat}:∀ (r:List Nat) (l:Array Bool) (a:Act) (w0:World),l.size=ops.size→EI ops aZ r l=true→uO P ops qu aZ r a w0→
  (∀ a w0,(∀ w,Ext w0 w→qu .normal a w)→B_ P ops Q aZ m (zk r l) a w0)→B_ P ops Q aZ (r.length+m) l a w0
 | [],l,a,w0,_,_,h,dX=>by rw [aR2,aS5];exact dX a w0 h
 | i::r,l,a,w0,aB,bg,h,dX=>by
  rw [aRW,Nat.succ_add];obtain ⟨o,b7,h⟩:=h;have nB:=aUv hs;rcases h with ⟨av,v,I,hK⟩ | ⟨av,v,I,hK⟩ | ⟨av,h⟩
  ·simp only [EI,av,aRY] at bg;obtain ⟨⟨⟨hf,hr⟩,Φ⟩,bg⟩:=bg;obtain ⟨R,r1,r2,uB⟩:=OO aB Φ;exact PM b7 (by omega) nB ia (fun w0 a=>tM P ops w0 o v a) (fun _ _ h=>h) (fun _ _ _ h he hw=>h.of_same he hw) (fun _ _ _ hx h=>h.on hx) R l r1 (.inr uB) _ _ _ _ r2 (fun _ h=>h) (aTy b7 hf) (by simpa using hr) I
    (TV hs ia r _ _ _ (by simpa using aB) bg hK dX)
  ·simp only [EI,av,aRY] at bg;obtain ⟨⟨hf,hr⟩,bg⟩:=bg;exact PM b7 (by omega) nB ia (fun _ a=>Yields P ops o v a) (fun _ _ h=>Yields.akB h) (fun _ _ _ h he hw=>h.of_same he hw) (fun _ _ _ _ h=>h) (fun _=>true) l (fun _ _ _ _ _=>Z) (.inl fun _ _ _ h=>h) _ _ _ _ (fun _ _=>Z) (fun _ h=>h) (aTy b7 hf) (by simpa using hr) I
    (TV hs ia r _ _ _ (by simpa using aB) bg hK dX)
  ·obtain ⟨k,gl⟩:∃ k,aZ i=k+2:=⟨aZ i - 2,by omega⟩;simp only [EI,gl,Bool.false_and,aSK] at bg
theorem et.kc {d:Nat} (h:et n E a) (hf:look E d=Option.none) (v:Value):et n E (a.put (some d) v):=by
 refine ⟨h.d,by simp [Act.put,h.s],fun t u hu=> ?_⟩;have ff:d≠t:=fun e=>by rw [e,hu] at hf;cases hf
 simp only [Act.put];rw [aTH ff];exact h.g t u hu
structure aHF (P:Program) (n:Nat) (ops:Array Oper) (Q:Exit→Act→World→Prop) (E:List (Nat×Value)) (w0:World) (i d:Nat) (aaa:Value→List Nat→World→Prop):Prop where
 mono:∀ v f w w',aaa v f w→Ext w w'→aaa v f w'
 free:look E d=none
 cE:Nat.blt d n=true
 run:∀ (a:Act) (w:World) (K:Act→World→Prop),et n E a→Ext w0 w→(∀ v w' f,Ext w w'→(∀ q∈f,w.heap.size≤q∧q<w'.heap.size)→aaa v f w'→K (a.put (some d) v) w')→wpOp P ops (hj (Q .normal)) i K a w
abbrev Made:=Nat×Nat×(Value→List Nat→World→Prop)
def aGB (P:Program) (ops:Array Oper) (Q:Exit→Act→World→Prop) (aZ:Nat→Nat) (B b5:List Nat) (l:Array Bool):Exit→Act→World→Prop
 | .normal,a,w=>Region.noSelect ops=true→l.size=ops.size→acF ops aZ b5 B.length B l=true→B_ P ops (hj (Q .normal)) aZ (B.length+b5.length) l a w
 | _,_,_=>False
theorem Y2:∀ (r:List Nat) (l:Array Bool),(zk r l).size=l.size
 | [],_=>rfl
 | i::r,l=>by unfold zk;rw [Y2 r];simp
def aAi:List Nat→Bool
 | []=>true
 | x::r=> !r.elem x && aAi r
variable {d i:Nat} {ty:TypeId} {pos:String} {af:Array Edge} {x y z:Operand} {t:TypeId} {v:Value}
def aHG (cs:List Value) (t:TypeId) (v:Value) (f:List Nat) (w:World):Prop:=∃ b,v= .pointer (some ⟨b,0,none⟩)∧f= [b]∧aP w b cs t (0,0)
end
open Tryz

section
variable {P:Program} {n:Nat} {E cU:List (Nat×Value)} {a:Act} {w w' w0 aW:World} {Q:Exit→Act→World→Prop} {ops:Array Oper}
variable {d:Option Nat} {ty:TypeId} {pos:String} {af:Array Edge} {g:Option (Nat×Bool)} {x y z u:Operand} {t:TypeId} {rest:List Oper} {v:Value}
theorem Yg {i:Int} (hx:ev E x=some (.int .i64 i)) (h:IntKind.i64.wrap (-i)= -i):cY P E ⟨d, .unOp .neg t x,ty,pos,af,g⟩ w (.int .i64 (-i)) w:=fun n a ha=>by
 have:(execOp a.eval ⟨d, .unOp .neg t x,ty,pos,af,g⟩).run P w= .ok (.value (.int .i64 (IntKind.i64.wrap (-i)))) w:=by
  have aG:(0:Int) - i= -i:=Int.zero_sub i;have hu:(Op.unary .neg (.int .i64 i)).run P w= .ok (.int .i64 (IntKind.i64.wrap (-i))) w:=by
   show (Op.intArith .sub .i64 0 i).run P w=_;simp [Op.intArith,aG]
  simp only [execOp,ha.ev hx,aR8,hu,aRZ,aR9]
 rw [this,h]
theorem azE {k:IntKind} {i j l m:Int} {ts:Array TypeId} (hx:ev E x=some (.int k i)) (aK:ev E y=some (.int k j)) (bE:ev E z=some (.int k l)) (hu:ev E u=some (.int k m)):cY P E ⟨d, .call {callee:= .builtin .max,args:=#[x,y,z,u],argTypes:=ts},ty,pos,af,g⟩ w (.int k (max (max (max i j) l) m)) w :=
 bi (vs:= [.int k i, .int k j, .int k l, .int k m]) (by simp only [hO,hx,aK,bE,hu]) fun cs=>by
  have e:∀ a b:Int,(if b > a then b else a)=max a b:=fun a b=>by rw [Int.max_def];split<;>split<;>omega
  have:(Builtin.max_ ts ty #[.int k i, .int k j, .int k l, .int k m]).run P w= .ok (.int k (max (max (max i j) l) m)) w:=by
   rw [← e,← e,← e];simp [Builtin.max_,Builtin.max2]
  simp only [builtin,aR8,this,aRZ,aR9]
end
def abl (e:MapEntry) (p:Int×Int):Prop:=e.key= .int .i64 p.1∧e.val= .int .i64 p.2
def pz (w:World) (r:Nat) (l:List (Int×Int)):Prop:=∃ (es:Array MapEntry) (clock:Nat),w.heap[r]? =some (.map es clock)∧c_ abl es.toList l
def cN (l:List (Int×Int)) (k:Int):Option Int:=(l.find? fun p=>p.1 == k).map (·.2)
section
variable {w w':World} {r:Nat} {l:List (Int×Int)} {S:List Nat}
theorem pz.lt (h:pz w r l):r<w.heap.size:=by
 obtain ⟨es,c,κ,_⟩:=h;exact (aSs.1 κ).1
theorem pz.later (h:pz w r l) (x:Ext w w'):pz w' r l:=by
 have aB:=h.lt;obtain ⟨es,c,κ,aa⟩:=h;exact ⟨es,c,by rw [x.block r aB];exact κ,aa⟩
theorem pz.mod (h:pz w r l) (m:Mod S w w') (hs:r∉S):pz w' r l:=by
 have aB:=h.lt;obtain ⟨es,c,κ,aa⟩:=h;exact ⟨es,c,by rw [m.block r aB hs];exact κ,aa⟩
theorem Vn (k:Int):∀ {es:List MapEntry} {l:List (Int×Int)} (i:Nat),c_ abl es l→(cN l k=none→Instr.findNow (.int .i64) (.int .i64 k) es i=some none)∧(∀ v,cN l k=some v→∃ j,Instr.findNow (.int .i64) (.int .i64 k) es i=some (some (j, .int .i64 v)))
 | [], [],i,_=>⟨fun _=>rfl,fun v h=>by simp [cN] at h⟩
 | e::es,p::l,i,h=>by
  obtain ⟨⟨av,hv⟩,aa⟩:=h;have bF:=Vn k (i+1) aa;have E9:Instr.sameNow (.int .i64) (.int .i64 k) e.key=some (decide (k=p.1)):=by
   rw [av];obtain ⟨q,I,ar⟩:=MapKept.sameNow_of_keys (d:= .int .i64) (a:= .int .i64 k) (b:= .int .i64 p.1) rfl rfl;rw [I];cases q with
   | true=>have:=ar.1 rfl;injection this with _ this;rw [aSo this]
   | false=>rw [aSt fun e=>by have:=ar.2 (by rw [e]);cases this]
  by_cases he:k=p.1
  ·have Φ:(p.1 == k)=true:=by simp [he]
   rw [aSo he] at E9;refine ⟨fun aG=>by simp [cN,List.find?,Φ] at aG,fun v aG=>⟨i, ?_⟩⟩;have:p.2=v:=by simpa [cN,List.find?,Φ] using aG
   simp [Instr.findNow,E9,hv,this]
  ·have Φ:(p.1 == k)=false:=by simpa using fun e=>he e.symm
   rw [aSt he] at E9;have aO:cN (p::l) k=cN l k:=by simp [cN,List.find?,Φ]
   rw [aO];simpa [Instr.findNow,E9] using bF
end
section
variable {P:Program} {n:Nat} {E cU:List (Nat×Value)} {a:Act} {w w' w0 aW:World} {Q:Exit→Act→World→Prop} {ops:Array Oper}
variable {d:Option Nat} {ty:TypeId} {pos:String} {af:Array Edge} {g:Option (Nat×Bool)} {x y z u:Operand} {t:TypeId} {rest:List Oper} {v:Value}
theorem Yc {d:Nat} (hd:Nat.blt d n=true) (h:∀ aW r,Ext w aW→w.heap.size≤r→pz aW r []→cK P n ops Q rest ((d, .map (some r))::E) aW):cK P n ops Q (⟨some d, .makeMap t none,ty,pos,af,none⟩::rest) E w:=by
 refine iy (w':=w.alloc (.map #[] 0)) (v:= .map (some w.heap.size)) (fun n a ha=> ?_) hd (h _ _ ((aSm _ w).alloc (aR3 _) _) (aR3 _) ⟨#[],0,(MapKept.heap_alloc w _).1,trivial⟩);simp only [execOp,Option.map,aR8,run_makeMap_plain,aRZ,aR9]
theorem lk {L' PJ:TypeId} {r:Nat} {l:List (Int×Int)} {k:Int} (hm:P.underlying t=some (.map L' PJ)) (av:P.underlying L'=some (.int .i64)) (he:mg P PJ (.int .i64 0)) (h:pz w r l) (hx:ev E x=some (.map (some r))) (aK:ev E y=some (.int .i64 k)):
  cY P E ⟨d, .lookup t x y true,ty,pos,af,g⟩ w (.tuple #[.int .i64 ((cN l k).getD 0), .bool (cN l k).isSome]) w:=fun n a ha=>by
 obtain ⟨es,c,κ,aa⟩:=h;have hf:=Vn k 0 aa;have Qj:=aWK (P:=P) (w:=w) av (show MapKept.IsKey (.int .i64) (.int .i64 k) from rfl) es.isEmpty 9999;have lA:(Instr.lookup t (.map (some r)) (.int .i64 k) true).run P w= .ok (.tuple #[.int .i64 ((cN l k).getD 0), .bool (cN l k).isSome]) w:=by
  cases aO:cN l k with
  | none =>
   have:=aVu (P:=P) (w:=w) av (hf.1 aO);simp [Instr.lookup,aR8,aS1 hm,aSO κ,Qj,this,he w,Result.andThen]
  | some v =>
   obtain ⟨j,ay⟩:=hf.2 v aO;have:=aVu (P:=P) (w:=w) av ay;simp [Instr.lookup,aR8,aS1 hm,aSO κ,Qj,this,Result.andThen]
 simp only [execOp,ha.ev hx,ha.ev aK,aR8,lA,aRZ,aR9]
theorem mu {L' PJ:TypeId} {r:Nat} {l:List (Int×Int)} {k v:Int} (hm:P.underlying t=some (.map L' PJ)) (av:P.underlying L'=some (.int .i64)) (h:pz w r l) (aO:cN l k=none) (hx:ev E x=some (.map (some r))) (aK:ev E y=some (.int .i64 k)) (bE:ev E z=some (.int .i64 v))
  (hK:∀ aW,Mod [r] w aW→pz aW r (l++ [(k,v)])→cK P n ops Q rest E aW):cK P n ops Q (⟨none, .mapUpdate t x y z,ty,pos,af,none⟩::rest) E w:=by
 have bC:=h.lt;obtain ⟨es,c,κ,aa⟩:=h;have hf:=(Vn k 0 aa).1 aO;have Qj:=aWK (P:=P) (w:=w) av (show MapKept.IsKey (.int .i64) (.int .i64 k) from rfl) false 9999;have av2:=aVu (P:=P) (w:=w) av hf;have vL:=aTb (P:=P) (.map (es.push {key:= .int .i64 k,val:= .int .i64 v,born:=c}) (c+1)) κ;refine us (w':= {w with heap:=w.heap.setIfInBounds r (.map (es.push {key:= .int .i64 k,val:= .int .i64 v,born:=c}) (c+1))}) (fun n a ha=> ?_) (hK _ ⟨Z,Z,Z,by simp,fun q I hn=> ?_⟩ ⟨es.push {key:= .int .i64 k,val:= .int .i64 v,born:=c},c+1,(MapKept.heap_set κ).1, ?_⟩)
 ·have lA:(Instr.mapUpdate t (.map (some r)) (.int .i64 k) (.int .i64 v)).run P w= .ok () {w with heap:=w.heap.setIfInBounds r (.map (es.push {key:= .int .i64 k,val:= .int .i64 v,born:=c}) (c+1))}:=by
   simp [Instr.mapUpdate,aR8,aS1 hm,aSO κ,Qj,av2,vL,Result.andThen]
  simp only [execOp,ha.ev hx,ha.ev aK,ha.ev bE,aR8,lA,aRZ,aR9]
 ·exact (MapKept.heap_set κ).2 q (by simpa using hn)
 ·rw [Array.toList_push];exact aa.app ⟨⟨Z,Z⟩,trivial⟩
end
theorem azF {w:World} {B e size c m:Nat} {G:Nat→Value→Prop} {z:Array Value} (bE:z.size=size) (aG:0<size) (bB:∀ (j:Nat) u,z[j]? =some u→G j u) (bg:B≤w.heap.size) (hm:m≤c) (hc:c≤maxLen):
  Own (w.alloc (.cells (madeCells z (c * size)) e)) B e size G (.slice (some ⟨w.heap.size,0,none⟩) m c) m ((madeCells z (c * size)).toList.take (m * size)):=by
 have awN:m * size≤c * size:=aSE _ hm;refine ⟨by rw [aRU,aT6,aVk];omega, .inr ⟨w.heap.size,c,_,rfl,bg,(MapKept.heap_alloc w _).1,hm,hc,aVk _ _,rfl,fun j u hu=> ?_⟩⟩;have bC:=(aSs.1 hu).1;simp only [madeCells,aVt] at hu;rw [aVk] at bC;rw [aVg,aR5 bC] at hu;have ay:j % size<z.size:=by rw [bE];exact aTY _ aG
 have e:z[j % z.size]! =z[j % size]:=by rw [bE];exact getElem!_pos z (j % size) ay
 rw [aTr,e] at hu;exact bB _ _ (by rw [Array.getElem?_eq_getElem ay];exact hu)
section
variable {P:Program} {n:Nat} {E cU:List (Nat×Value)} {a:Act} {w w' w0 aW:World} {Q:Exit→Act→World→Prop} {ops:Array Oper}
variable {d:Nat} {ty:TypeId} {pos:String} {af:Array Edge} {g:Option (Nat×Bool)} {x y z:Operand} {t:TypeId} {rest:List Oper}
theorem X7 {α:Type} {R:τ α} {e by_ B m c:Nat} {zv:Value} {l:List α} (cj:R.Plain) (aE:P.underlying t=some (.slice e)) (ar:(P.info? e).map (fun i=>(i.zero,i.size,i.bytes))=some (some zv,R.size,by_)) (κ:zv.cells.size=R.size) (aa:0<R.size) (aw:∀ (j:Nat) u,zv.cells[j]? =some u→R.raw j u)
  (hx:ev E x=some (.int .i64 (m:Int))) (aK:ev E y=some (.int .i64 (c:Int))) (hd:Nat.blt d n=true) (hm:m≤c) (Φ:c * by_≤140737488355328) (hc:c≤9223372036854775807) (bg:B≤w.heap.size) (aB:l.length=m) {ess:List (List Value)} (av1:∀ w,c_ (fun es a=>R.has w es a) ess l) (qE:ess.flatten=(madeCells zv.cells (c * R.size)).toList.take (m * R.size))
  (h:∀ aW b,Ext w aW→w.heap.size≤b→R.aF e by_ aW B (τ.ag (some ⟨b,0,none⟩)) (some ⟨b,0,none⟩) c l→cK P n ops Q rest ((d, .slice (some ⟨b,0,none⟩) m c)::E) aW):cK P n ops Q (⟨some d, .makeSlice t x y,ty,pos,af,none⟩::rest) E w:=by
 cases I:P.info? e with
 | none=>rw [I] at ar;cases ar
 | some i =>
  rw [I] at ar;simp only [aTr,aUH,aV8] at ar;obtain ⟨i1,i2,i3⟩:=ar;have bw:(i.bytes:Int) * (c:Int)≤281474976710656:=by
   have:i.bytes * c≤281474976710656:=by rw [i3,aS6];omega
   have h:((i.bytes * c:Nat):Int)≤281474976710656:=by omega
   rwa [Int.natCast_mul] at h
  have hr:=run_make (P:=P) w t e i zv aE I i1 .i64 .i64 (m:Int) (c:Int) (by omega) (by omega) bw (by omega);simp only [aSJ] at hr;have b7:=azF (w:=w) (e:=e) (c:=c) (m:=m) κ aa aw bg hm (by simp [maxLen];omega);rw [← qE] at b7;subst aB;rw [i2] at hr;refine iy (fun n a ha=> ?_) hd (h _ w.heap.size ((aSm _ w).alloc (aR3 _) _) (aR3 _) (τ.aF.A9 (R:=R) cj (av1 _) (aSn (aSE _ hm) Φ) b7));simp only [execOp,ha.ev hx,ha.ev aK,aR8,hr,aRZ,aR9]
theorem Q6 {α:Type} {R:τ α} {e by_ B c:Nat} {zv:Value} (cj:R.Plain) (aE:P.underlying t=some (.slice e)) (ar:(P.info? e).map (fun i=>(i.zero,i.size,i.bytes))=some (some zv,R.size,by_)) (κ:zv.cells.size=R.size) (aa:0<R.size) (aw:∀ (j:Nat) u,zv.cells[j]? =some u→R.raw j u)
  (hx:ev E x=some (.int .i64 0)) (aK:ev E y=some (.int .i64 (c:Int))) (hd:Nat.blt d n=true) (Φ:c * by_≤140737488355328) (hc:c≤9223372036854775807) (bg:B≤w.heap.size)
  (h:∀ aW b,Ext w aW→w.heap.size≤b→R.aF e by_ aW B (τ.ag (some ⟨b,0,none⟩)) (some ⟨b,0,none⟩) c ([]:List α)→cK P n ops Q rest ((d, .slice (some ⟨b,0,none⟩) 0 c)::E) aW):cK P n ops Q (⟨some d, .makeSlice t x y,ty,pos,af,none⟩::rest) E w :=
 X7 (m:=0) (l:=([]:List α)) (ess:= []) cj aE ar κ aa aw hx aK hd (aSG _) Φ hc bg rfl (fun _=>trivial) (by simp) h
theorem Mk {α:Type} {R:τ α} {e by_ B c:Nat} {zv:Value} {q:α} (cj:R.Plain) (aE:P.underlying t=some (.slice e)) (ar:(P.info? e).map (fun i=>(i.zero,i.size,i.bytes))=some (some zv,R.size,by_)) (hs:R.size=1) (κ:zv.cells=#[zv]) (aw:∀ (j:Nat) u,zv.cells[j]? =some u→R.raw j u) (I:∀ w,R.has w [zv] q)
  (hx:ev E x=some (.int .i64 (c:Int))) (aK:ev E y=some (.int .i64 (c:Int))) (hd:Nat.blt d n=true) (Φ:c * by_≤140737488355328) (hc:c≤9223372036854775807) (bg:B≤w.heap.size)
  (h:∀ aW b,Ext w aW→w.heap.size≤b→R.aF e by_ aW B (τ.ag (some ⟨b,0,none⟩)) (some ⟨b,0,none⟩) c (List.replicate c q)→cK P n ops Q rest ((d, .slice (some ⟨b,0,none⟩) c c)::E) aW):cK P n ops Q (⟨some d, .makeSlice t x y,ty,pos,af,none⟩::rest) E w:=by
 refine X7 (m:=c) (ess:=List.replicate c [zv]) cj aE ar (by rw [κ,hs];rfl) (by omega) aw hx aK hd (aR3 _) Φ hc bg (by simp) (fun w=> ?_) ?_ h
 ·clear h Φ hc hx aK;induction c with
  | zero=>trivial
  | succ c bF=>exact ⟨I w,bF⟩
 ·rw [hs,aUI,κ];apply aTq;intro i;simp only [aSy,aSW,madeCells,aVt,aVg];have bc:∀ k:Nat,(List.replicate k [zv]).flatten=List.replicate k zv:=fun k=>by
   induction k with
   | zero=>rfl
   | succ k bF=>simp [aWw,bF]
  rw [bc,aSY];split
  ·simp [Nat.mod_one]
  ·rfl
end
def e1 (A:Option Addr) (c lo s:Nat):Option Addr:=if c=lo then A else A.map (·.add (lo * s))
theorem Vt {β:Type} {size:Nat}:∀ (lo:Nat) {ess:List (List β)},(∀ x∈ess,x.length=size)→(ess.drop lo).flatten=ess.flatten.drop (lo * size)
 | 0,ess,_=>by simp
 | lo+1, [],_=>by simp
 | lo+1,x::ess,h=>by
  have hx:=h x aSe;rw [aWz,Vt lo fun y aK=>h y (aR7 _ aK),aSN,aTt,aVz,← aVZ];congr 1;rw [List.drop_append_of_le_length (by omega),aWk (by omega)];rfl
theorem PN {β:Type} {size:Nat}:∀ (n:Nat) {ess:List (List β)},(∀ x∈ess,x.length=size)→(ess.take n).flatten=ess.flatten.take (n * size)
 | 0,ess,_=>by simp
 | n+1, [],_=>by simp
 | n+1,x::ess,h=>by
  have hx:=h x aSe;have e:(n+1) * size=size+n * size:=by rw [aTt,aVz]
  rw [aWv,aSN,PN n fun y aK=>h y (aR7 _ aK),aSN,e,aVL,hx,Nat.add_sub_cancel_left,aSh (by rw [hx];omega:x.length≤size+n * size)]
theorem c_.drop {α β:Type} {P:β→α→Prop}:∀ (n:Nat) {l:List β} {m:List α},c_ P l m→c_ P (l.drop n) (m.drop n)
 | 0,_,_,h=>h
 | n+1, [], [],_=>trivial
 | n+1,_::_,_::_,h=>c_.drop n h.2
theorem c_.take {α β:Type} {P:β→α→Prop}:∀ (n:Nat) {l:List β} {m:List α},c_ P l m→c_ P (l.take n) (m.take n)
 | 0,_,_,_=>trivial
 | n+1, [], [],_=>trivial
 | n+1,_::_,_::_,h=>⟨h.1,c_.take n h.2⟩
theorem τ.aJ.sub {α:Type} {R:τ α} {by_ c:Nat} {A:Option Addr} {l:List α} {w:World} (h:R.aJ by_ w A c l) (lo ar:Nat) (κ:lo≤ar) (aa:ar≤l.length):R.aJ by_ w (e1 A c lo R.size) (c - lo) ((l.drop lo).take (ar - lo)):=by
 obtain ⟨g1,g2,g3,g4,ess,g5,g6⟩:=h;have hlen:((l.drop lo).take (ar - lo)).length=ar - lo:=by rw [aRU,aSb];omega
 have hu:∀ x∈ess,x.length=R.size:=fun x hx=>by obtain ⟨a,ha⟩:=g5.left x hx;exact R.len ha
 refine ⟨by rw [hlen];omega,by omega,by rw [hlen];exact aSn (aSE _ (by omega)) g3,fun hn=> ?_,(ess.drop lo).take (ar - lo),(g5.drop lo).take _, ?_⟩
 ·unfold e1 at hn;split at hn
  ·omega
  ·cases A with
   | none=>have:=g4 rfl;omega
   | some a=>cases hn
 ·have axF:∀ x∈ess.drop lo,x.length=R.size:=fun x hx=>hu x (aVb hx);have HG:ess.length=l.length:=g5.length;rw [PN _ axF,Vt _ hu,hlen];have qE:=Av hu;refine ⟨?_,fun aG=> ?_⟩
  ·rw [aRU,aSb,qE,HG,← Nat.sub_mul,aTC (aSE _ (by omega))]
  ·obtain ⟨b,o,rfl,hc⟩:=g6.2 (by omega);have ff:¬ c=lo:=by omega
   refine ⟨b,o+lo * R.size,by unfold e1;rw [aR0 ff];simp [Addr.add],fun j u ay=> ?_⟩;rw [aSy] at ay;split at ay
   ·rw [aSV] at ay;rw [aUs];exact hc _ u ay
   ·cases ay
section
variable {P:Program} {n:Nat} {E cU:List (Nat×Value)} {w:World} {d:Option Nat} {ty:TypeId} {pos:String} {af:Array Edge} {g:Option (Nat×Bool)} {x y z:Operand} {t:TypeId}
theorem aCx {A:Option Addr} {len cap e s:Nat} {k k':IntKind} (lo ar:Nat) {i j:Int} (aE:P.underlying t=some (.slice e)) (hs:eP P e s) (hx:ev E x=some (.slice A len cap)) (aK:ev E y=some (.int k i)) (bE:ev E z=some (.int k' j)) (AK:i=(lo:Int)) (E3:j=(ar:Int)) (κ:lo≤ar) (aa:ar≤cap):
  cY P E ⟨d, .slice t x (some y) (some z) none,ty,pos,af,g⟩ w (.slice (e1 A cap lo s) (ar - lo) (cap - lo)) w:=fun n a ha=>by
 subst AK;subst E3;have lF:P.underlying t=some (.slice (P.elem t)):=by simp [Program.elem,aE]
 have mU:P.elem t=e:=by simp [Program.elem,aE]
 have aw:=run_slice_lh (P:=P) (w:=w) t A len cap lF k k' (lo:Int) (ar:Int) (by omega) (by omega) (by omega);have a6:=aUn (P:=P) (w:=w) t (.slice A len cap) (some (.int k (lo:Int))) (some (.int k' (ar:Int))) none lF;rw [mU,hs w] at aw;simp only [execOp,ha.ev hx,ha.ev aK,ha.ev bE,Option.map,a6,aw,aR8,aRZ,aR9,sliced,aSJ,e1]
end
open Tryz

section
variable {P:Program} {n:Nat} {E cU:List (Nat×Value)} {a:Act} {w w' w0 aW:World} {Q:Exit→Act→World→Prop} {ops:Array Oper}
variable {d:Option Nat} {ty:TypeId} {pos:String} {af:Array Edge} {g:Option (Nat×Bool)} {x y z:Operand} {t:TypeId} {rest:List Oper} {v:Value}
theorem aCr {f:FuncId} (hf:Enters P f) {xs:Array Operand} {ts:Array TypeId} {args Ka:List Value} {a:Act} (ha:et n E a) (hx:ev E x=some (.func (.func f) #[] Ka.toArray)) (he:hO E xs.toList=some args):
  (execOp a.eval ⟨d, .call {callee:= .value x,args:=xs,argTypes:=ts},ty,pos,af,g⟩).run P w= .ok (.enter f (args++Ka).toArray) w:=by
 obtain ⟨fn,κ,aa,aw⟩:=hf;have hm:xs.map a.eval=args.toArray:=by rw [← ha.hO he];apply aTl;simp
 have hp:Sem.run P program w= .ok P w:=rfl;unfold execOp;simp only [resolve,invoke,Deferred.ofValue,ha.ev hx,callFunc,aR8,aR9,aRZ,hm,hp,κ,aa,aw,aUB,aSK,aTf];simp
theorem O' {d:Nat} {f:FuncId} (hf:Enters P f) {xs:Array Operand} {ts:Array TypeId} {args Ka:List Value} (hx:ev E x=some (.func (.func f) #[] Ka.toArray)) (he:hO E xs.toList=some args) (hd:Nat.blt d n=true)
  (h:Calls P f (args++Ka).toArray w fun e w'=>∃ v,e= .returned v∧cK P n ops Q rest ((d,v)::E) w'):cK P n ops Q (⟨some d, .call {callee:= .value x,args:=xs,argTypes:=ts},ty,pos,af,none⟩::rest) E w:=fun a ha=>by
 refine GH Z ?_;unfold Oper.wp;rw [aCr hf ha hx he];refine aVJ h fun e w' fS=> ?_;obtain ⟨v,rfl,h⟩:=fS;exact h _ (ha.put hd v)
theorem ne {fn:Func} {R:Ending→World→Prop} (h:T n (bodyPost P fn R) E w):N n (bodyPost P fn R) E w:=fun a ha=>h a ha
end
def Raw (aC size j:Nat) (w:World) (A:Option Addr) (c:Nat):Prop :=
 (A=none∧c=0)∨∃ (b:Nat) (cur:List Value) (e:TypeId),A=some ⟨b,0,none⟩∧aC≤b∧aP w b cur e (0,0)∧∀ i,i<c→∃ m:Int,cur[i * size+j]? =some (.int .i64 m)
section
variable {w w':World} {aC size j c i:Nat} {A:Option Addr} {S:List Nat}
theorem Raw.later (h:Raw aC size j w A c) (x:Ext w w'):Raw aC size j w' A c:=by
 rcases h with h | ⟨b,cur,e,κ,aa,aw,a6⟩
 ·exact .inl h
 ·exact .inr ⟨b,cur,e,κ,aa,aw.later x,a6⟩
theorem Raw.bP (h:Raw aC size j w A c) (aG:0<c):A=some ⟨e6 A,la A,none⟩:=by
 rcases h with ⟨_,h⟩ | ⟨b,cur,e,rfl,_⟩
 ·omega
 ·rfl
theorem Raw.get (h:Raw aC size j w A c) (ar:i<c):∃ m:Int,w.cell? ⟨e6 A,la A+i * size+j,none⟩=some (.int .i64 m):=by
 rcases h with ⟨_,h⟩ | ⟨b,cur,e,rfl,_,aw,a6⟩
 ·omega
 ·obtain ⟨m,hm⟩:=a6 i ar;exact ⟨m,by rw [show (⟨e6 (some ⟨b,0,none⟩),la (some ⟨b,0,none⟩)+i * size+j,none⟩:Addr)=⟨b,i * size+j,none⟩ from by simp [e6,la],aw.cell,hm]⟩
end
open Tryz
end Go.Proofs.YtlikikpgmmkjbaaGreat
