import Derived.Test.YtlikikpgmmkjbaaGreatBas
import Derived.Test.YtlikikpgmmkjbaaGreatProg
import Derived.WideMake
set_option linter.unusedVariables false
set_option linter.unusedSimpArgs false
set_option maxRecDepth 100000
set_option maxHeartbeats 4000000
open Go.RowKit
namespace Go.Proofs.YtlikikpgmmkjbaaGreat
open Tryz
open Tryz
abbrev aQK:=@List.getD_eq_getElem?_getD
abbrev aQX:=@List.length_nil
abbrev aRa:=@List.mem_cons_self
abbrev aRi:=@decide_eq_true
abbrev aRm:=@decide_eq_false
abbrev aRI:=@Int.toNat_natCast
abbrev aRW:=@List.getElem?_replicate
abbrev aSd:=@Nat.min_eq_left
abbrev aSq:=@Nat.succ_mul
abbrev aSt:=@Nat.lt_of_lt_of_le
abbrev aSO:=@And.left
abbrev aSR:=@Nat.le_of_ble_eq_true
abbrev aTc:=@of_decide_eq_false
abbrev aTl:=@Go.run_sliceAt_slice
abbrev aTr:=@Nat.add_assoc
abbrev aTs:=@Nat.mul_one
abbrev aTO:=@Nat.lt_succ_iff_lt_or_eq
abbrev aTW:=@Nat.add_comm
abbrev aT7:=@Nat.eq_of_beq_eq_true
abbrev aUb:=@List.getElem?_toArray
abbrev aUi:=@List.mem_of_mem_drop
abbrev aUr:=@Go.size_madeCells
abbrev aUC:=@Go.MapKept.run_findKey
abbrev aUF:=@not_true_eq_false
abbrev aU3:=@Array.getD_eq_getD_getElem?
abbrev aVc:=@Array.getElem?_append_left
abbrev aVh:=@Prod.mk.injEq
abbrev aVj:=@List.getElem?_take_of_lt
abbrev aVt:=@Nat.succ_add
abbrev aVu:=@Nat.ne_of_beq_eq_false
abbrev aVw:=@List.drop_of_length_le
abbrev aVH:=@Array.size_replicate
abbrev aVK:=@List.replicate_succ
abbrev aVN:=@List.drop_succ_cons
abbrev aVW:=@Go.MapKept.run_checkKey

def eP (n:Int):Prop:=(Lit.int .i64 n).wf=true
theorem bM {n:Int}:eP n↔ -9223372036854775808≤n∧n≤9223372036854775807:=by
 unfold eP;simp [Lit.wf,IntKind.min,IntKind.max,IntKind.signed,IntKind.bits]
def bK:τ Int:=τ.flat 1 (fun n=> [.int .i64 n]) eP (fun _ u=>∃ n:Int,u= .int .i64 n) (fun _=>rfl) (by intro a u hu;simp at hu;subst hu;rfl) (by
 intro a j u hu;cases j with
 | zero=>simp at hu;exact ⟨a,hu.symm⟩
 | succ j=>simp at hu)
def yY:τ Bool:=τ.flat 1 (fun n=> [.bool n]) (fun _=>True) (fun _ u=>∃ n:Bool,u= .bool n) (fun _=>rfl) (by intro a u hu;simp at hu;subst hu;rfl) (by
 intro a j u hu;cases j with
 | zero=>simp at hu;exact ⟨a,hu.symm⟩
 | succ j=>simp at hu)
def jW:τ ByteArray:=τ.Uv 1 (fun n=> [.string n]) (fun s=>s.size≤140737488351232) (fun _ u=>∃ n:ByteArray,u= .string n∧n.size≤140737488351232) (fun _=>rfl) (by intro a u hu;simp at hu;subst hu;rfl) (by
 intro a ok j u hu;cases j with
 | zero=>simp at hu;exact ⟨a,hu.symm,ok⟩
 | succ j=>simp at hu)
theorem ajB:bK.Plain:=τ.ou
theorem aAZ:jW.Plain:=τ.adU
theorem aAX:jW.v7:=τ.asM
section
variable {by_:Nat} {w:World} {A:Option Addr} {c:Nat}
theorem E5 {l:List Int} (h:bK.aI by_ w A c l) (aF:0<l.length):∃ b o,A=some ⟨b,o,none⟩∧∀ (i:Nat) (a:Int),l[i]? =some a→w.cell? ⟨b,o+i,none⟩=some (.int .i64 a):=by
 obtain ⟨b,o,e,hc⟩:=h.at_ aF;refine ⟨b,o,e,fun i a ha=> ?_⟩;obtain ⟨es,⟨rfl,_⟩,ay⟩:=hc i a ha;have:=ay 0 _ rfl;simpa [bK,τ.flat] using this
end
theorem XK (w:World) (cs:List Value) (h:(.int .i64:gi).iH w cs):∃ a,bK.has w cs a:=by
 obtain ⟨n,rfl,hn⟩:=h;exact ⟨n,Z,hn⟩
theorem aAY (w:World) (cs:List Value) (h:(.str:gi).iH w cs):∃ a,jW.has w cs a:=by
 obtain ⟨n,rfl,_,hn⟩:=h;exact ⟨n,Z,hn⟩
theorem HS {by_:Nat} {w:World} {A:Option Addr} {c:Nat} {l:List Int} (h:bK.aI by_ w A c l):∀ a∈l,eP a:=τ.aI.zL (R:=bK) (Q:=eP) (fun {w cs a} (h:bK.has w cs a)=>(show cs= [.int .i64 a]∧eP a from h).2) h
theorem Cl:(prog.info? 3).map (fun i=>(i.zero,i.size,i.bytes))=some (some (.int .i64 0),1,8):=by kernel_rfl
theorem hG {α:Type} {l:List α} {i:Nat} (h:i<l.length):∃ a,l[i]? =some a:=⟨_,aQN h⟩
open Tryz
theorem aEy:∀ (j:Nat) u,(Value.int .i64 0).cells[j]? =some u→bK.raw j u:=by
 intro j u hu;have hu:(#[Value.int .i64 0]:Array Value)[j]? =some u:=hu
 match j,hu with
 | 0,hu=>exact ⟨0,(aQL hu).symm⟩
 | j+1,hu=>cases hu
open Tryz

abbrev Env:=List (Nat×Value)
def look:List (Nat×Value)→Nat→Option Value
 | [],_=>none
 | (k,v)::r,t=>match Nat.beq k t with | true=>some v | false=>look r t
structure ek (n:Nat) (E:List (Nat×Value)) (a:Act):Prop where
 d:a.defers= []
 s:a.tmps.size=n
 g:∀ t v,look E t=some v→a.tmps[t]? =some v
def ev (E:List (Nat×Value)):Operand→Option Value
 | .tmp t=>look E t
 | .const v=>some v
 | .global g=>some (.pointer (some ⟨g,0,none⟩))
 | .func f=>some (.func (.func f) #[] #[])
def g_ (E:List (Nat×Value)):List Operand→Option (List Value)
 | []=>some []
 | x::r=>match ev E x with
  | some v=>match g_ E r with
   | some l=>some (v::l)
   | none=>none
  | none=>none
section
variable {P:Program} {n:Nat} {E cR:List (Nat×Value)} {a:Act} {w w' aP:World} {Q:Exit→Act→World→Prop} {ops:Array Oper} {v:Value}
theorem ek.ev {x:Operand} (h:ek n E a) (hx:ev E x=some v):a.eval x=v:=by
 cases x with
 | tmp t=>have:=h.g t v hx;simp [Act.eval,this]
 | const u=>exact aQL hx
 | global g=>exact aQL hx
 | func f=>exact aQL hx
theorem ek.g_ (h:ek n E a):∀ {l:List Operand} {vs:List Value},g_ E l=some vs→l.map a.eval=vs
 | [],_,e=>by simp only [Proofs.YtlikikpgmmkjbaaGreat.g_] at e;exact aQL e
 | x::r,vs,e=>by
  simp only [Proofs.YtlikikpgmmkjbaaGreat.g_] at e;cases hx:Proofs.YtlikikpgmmkjbaaGreat.ev E x with
  | none=>rw [hx] at e;cases e
  | some v =>
   rw [hx] at e;simp only at e;cases hr:Proofs.YtlikikpgmmkjbaaGreat.g_ E r with
   | none=>rw [hr] at e;cases e
   | some l =>
    rw [hr] at e;simp only at e;obtain rfl:=aQL e;rw [aRw,h.ev hx,ek.g_ h hr]
theorem ek.put {d:Nat} (h:ek n E a) (hd:Nat.blt d n=true) (v:Value):ek n ((d,v)::E) (a.put (some d) v):=by
 rw [aUv] at hd;refine ⟨h.d,by simp [Act.put,h.s],fun t u hu=> ?_⟩;simp only [look] at hu;cases Φ:Nat.beq d t with
 | true =>
  rw [Φ] at hu;obtain rfl:d=t:=aT7 Φ;obtain rfl:=aQL hu;simp [Act.put,h.s,hd]
 | false =>
  rw [Φ] at hu;have fb:d≠t:=aVu Φ;simp only [Act.put];rw [aSF fb];exact h.g t u hu
theorem ek.none (h:ek n E a) (v:Value):ek n E (a.put none v):=h
def Sub (cR E:List (Nat×Value)):Prop:=∀ t v,look cR t=some v→look E t=some v
theorem Sub.nil:Sub [] E:=fun t v h=>by simp [look] at h
theorem Sub.cons {k:Nat} (h:look E k=some v) (hs:Sub cR E):Sub ((k,v)::cR) E:=fun t u hu=>by
 simp only [look] at hu;cases Φ:Nat.beq k t with
 | true=>rw [Φ] at hu;obtain rfl:k=t:=aT7 Φ;obtain rfl:=aQL hu;exact h
 | false=>rw [Φ] at hu;exact hs t u hu
theorem ek.sub (h:ek n E a) (hs:Sub cR E):ek n cR a:=⟨h.d,h.s,fun t v hv=>h.g t v (hs t v hv)⟩
def W (P:Program) (n:Nat) (c:Code) (Q:Exit→Act→World→Prop) (E:List (Nat×Value)) (w:World):Prop:=∀ a,ek n E a→c.wp P Q a w
def N (n:Nat) (Q:Exit→Act→World→Prop) (E:List (Nat×Value)) (w:World):Prop:=∀ a,ek n E a→Q .normal a w
def X (n:Nat) (Q:Exit→Act→World→Prop) (id:Nat) (E:List (Nat×Value)) (w:World):Prop:=∀ a,ek n E a→Q (.exit id) a w
def T (n:Nat) (Q:Exit→Act→World→Prop) (E:List (Nat×Value)) (w:World):Prop:=∀ a,ek n E a→Q .ret a w
def cE (P:Program) (n:Nat) (ops:Array Oper) (Q:Exit→Act→World→Prop) (l:List Oper) (E:List (Nat×Value)) (w:World):Prop:=∀ a,ek n E a→wpList P ops Q l a w
abbrev qU (P:Program) (y:Code) (Q:Exit→Act→World→Prop):Exit→Act→World→Prop:=Exit.then (fun a w=>y.wp P Q a w) Q
theorem aB {x y:Code} (h:W P n x (qU P y Q) E w):W P n (.seq x y) Q E w:=fun a ha=>wp_seq (h a ha)
theorem e6 (h:N n Q E w):W P n .skip Q E w:=fun a ha=>wp_skip (h a ha)
theorem rt (h:T n Q E w):W P n .ret Q E w:=fun a ha=>wp_ret (h a ha)
theorem dN {id:Nat} (h:X n Q id E w):W P n (.exit id) Q E w:=fun a ha=>wp_exit (h a ha)
theorem bR {id:Nat} {c:Code} (h:W P n c (Exit.inBlock id Q) E w):W P n (.block id c) Q E w:=fun a ha=>wp_block (h a ha)
theorem rg {id:Nat} {l:List Oper} (h:cE P n l.toArray Q l E w):W P n (.region id l.toArray false) Q E w:=fun a ha=>wp_region_lit (h a ha)
theorem fx {c:Operand} {x y:Code} (hc:ev E c=some (.bool true)) (h:W P n x Q E w):W P n (.cond c x y) Q E w:=fun a ha=>wp_cond_true (ha.ev hc) (h a ha)
theorem hC {c:Operand} {x y:Code} (hc:ev E c=some (.bool false)) (h:W P n y Q E w):W P n (.cond c x y) Q E w:=fun a ha=>wp_cond_false (ha.ev hc) (h a ha)
theorem Tn {c:Operand} {x y:Code} (b:Bool) (hc:ev E c=some (.bool b)) (γ:b=true→W P n x Q E w) (ab:b=false→W P n y Q E w):W P n (.cond c x y) Q E w :=
 fun a ha=>wp_cond_split (ha.ev hc) (fun h=>γ h a ha) (fun h=>ab h a ha)
theorem dT {c:Operand} {x y:Code} {b:Bool} (hc:ev E c=some (.bool b)) (γ:b=true→W P n x Q E w) (ab:b=false→W P n y Q E w):W P n (.cond c x y) Q E w:=Tn b hc γ ab
theorem nl (h:N n Q E w):cE P n ops Q [] E w:=h
theorem aV {y:Code} (h:W P n y Q E w):N n (qU P y Q) E w:=h
theorem bX {id:Nat} (h:N n Q E w):N n (Exit.inBlock id Q) E w:=h
theorem dL {y:Code} {id:Nat} (h:X n Q id E w):X n (qU P y Q) id E w:=h
theorem ed {K:Act→World→Prop} {id:Nat} (h:X n Q id E w):X n (Exit.then K Q) id E w:=h
theorem dK {id:Nat} (h:N n Q E w):X n (Exit.inBlock id Q) id E w:=fun a ha=>by simp only [Exit.inBlock,aSk];exact h a ha
theorem ME {id P7:Nat} (fb:Nat.beq P7 id=false) (h:X n Q P7 E w):X n (Exit.inBlock id Q) P7 E w:=fun a ha=>by simp only [Exit.inBlock,aQV (aVu fb)];exact h a ha
theorem bN {y:Code} (h:T n Q E w):T n (qU P y Q) E w:=h
theorem lK {K:Act→World→Prop} (h:T n Q E w):T n (Exit.then K Q) E w:=h
theorem ej {id:Nat} (h:T n Q E w):T n (Exit.inBlock id Q) E w:=h
def By:Nat→List Value→List (Nat×Value)
 | _, []=> []
 | i,v::r=>(i,v)::By (i+1) r
theorem S2:∀ (l:List Value) (i t:Nat) (v:Value),look (By i l) t=some v→∃ j,t=i+j∧l[j]? =some v
 | [],_,_,_,h=>by simp [By,look] at h
 | u::r,i,t,v,h=>by
  simp only [By,look] at h;cases Φ:Nat.beq i t with
  | true=>rw [Φ] at h;exact ⟨0,by have:=aT7 Φ;omega,by simpa using h⟩
  | false =>
   rw [Φ] at h;obtain ⟨j,e,ay⟩:=S2 r (i+1) t v h;exact ⟨j+1,by omega,by simpa using ay⟩
theorem cd {f:FuncId} {fn:Func} {c:Code} {l:List Value} {R:Ending→World→Prop} (hf:P.funcs[f]? =some fn) (Φ:fn.body=some c) (hn:fn.ntmps=n) (az:Nat.ble l.length n=true)
  (h:W P n c (bodyPost P fn R) (By 0 l) w):Calls P f l.toArray w R:=by
 refine calls_of_wp hf Φ (h _ ⟨Z, ?_,fun t v hv=> ?_⟩)
 ·have:=aSR az;simp only [aTN,aVH,hn,aSc];omega
 ·obtain ⟨j,e,ay⟩:=S2 l 0 t v hv;have bA:=(aQM.1 ay).1;rw [aVc (by simp;omega)];simpa [show t=j by omega] using ay
inductive wm (P:Program) (E:List (Nat×Value)) (w:World):List ResultVar→List Value→Prop
 | nil:wm P E w [] []
 | tmp {t:Nat} {v:Value} {r:List ResultVar} {vs:List Value} (h:look E t=some v) (hr:wm P E w r vs):wm P E w (.tmp t::r) (v::vs)
 | cell {t:Nat} {ty:TypeId} {p:Addr} {v:Value} {r:List ResultVar} {vs:List Value} (h:look E t=some (.pointer (some p))) (az:(loadVar ty p).run P w= .ok v w) (hr:wm P E w r vs):wm P E w (.cell t ty::r) (v::vs)
def ub:List Value→Value
 | [v]=>v
 | vs=> .tuple vs.toArray
theorem wm.run {l:List ResultVar} {vs:List Value} (h:wm P E w l vs) (ha:ek n E a) (f:ResultVar→Sem Value) (f1:∀ t,f (.tmp t)=pure (a.tmps.getD t undef)) (f2:∀ c t,f (.cell c t)=(asAddr (a.tmps.getD c undef)>>= fun p=>loadVar t p)):
  (l.mapM f).run P w= .ok vs w:=by
 induction h with
 | nil=>rfl
 | @tmp t v r vs h hr bt =>
  have ab:a.tmps.getD t undef=v:=by rw [aU3,ha.g _ _ h];rfl
  simp only [List.mapM_cons,aQY,f1,ab,aQ3,aQR,bt]
 | @cell t ty p v r vs h az hr bt =>
  have ab:a.tmps.getD t undef= .pointer (some p):=by rw [aU3,ha.g _ _ h];rfl
  simp only [List.mapM_cons,aQY,f2,ab,asAddr,aQ3,aQR,az,bt]
theorem XP {fn:Func} {vs:List Value} (h:wm P E w fn.results.toList vs) (ha:ek n E a):(results fn a.tmps).run P w= .ok (ub vs) w:=by
 unfold results;rw [Array.mapM_eq_mapM_toList];simp only [aQY,Sem.run_map];rw [h.run ha _ (fun _=>rfl) (fun _ _=>rfl)]
 match vs with
 | []=>rfl
 | [v]=>rfl
 | _::_::_=>simp [ub]
theorem bb {fn:Func} {R:Ending→World→Prop} {vs:List Value} (h:wm P E w fn.results.toList vs) (hR:R (.returned (ub vs)) w):T n (bodyPost P fn R) E w :=
 fun a ha=>⟨ha.d,_,XP h ha,hR⟩
def NA (n:Nat) (kl:Nat→List (Nat×Value)→World→Prop) (m:Nat):Act→World→Prop:=fun a w=>∃ m',m'<m∧∃ cR,kl m' cR w∧ek n cR a
theorem fg {c:Code} (kl:Nat→List (Nat×Value)→World→Prop) (m:Nat) (cR:List (Nat×Value)) (aF:kl m cR w) (hs:Sub cR E)
  (round:∀ m E w,kl m E w→W P n c (Exit.then (NA n kl m) Q) E w):W P n (.loop c) Q E w:=fun a ha=>by
 intro b k cs;have key:∀ m a w,(∃ E,kl m E w∧ek n E a)→∃ e a' w',Q e a' w'∧Arrives P (lone (b.at a (.code c:: .inLoop c::k)) cs w) b k cs e a' w':=by
  intro m;induction m using Nat.strongRecOn with
  | _ m bt =>
   intro a w ⟨E,kP,ha⟩;obtain ⟨e,cj,aP,I,pq⟩:=round m E w kP a ha b (.inLoop c::k) cs;cases e with
   | normal =>
    obtain ⟨m',bA,U1⟩:=I;obtain ⟨bh,a2,cr,w1,Vp⟩:=bt m' bA cj aP U1;exact ⟨bh,a2,cr,w1, .of_steps (Steps.trans pq (.one step_inLoop)) Vp⟩
   | exit id=>exact ⟨_,cj,aP,I, .pass (x:= .inLoop c) rfl (fun _ _=> .inl (by simp)) pq⟩
   | goto l=>exact ⟨_,cj,aP,I, .pass (x:= .inLoop c) rfl (fun _ _=> .inl (by simp)) pq⟩
   | ret=>exact ⟨_,cj,aP,I, .pass (x:= .inLoop c) rfl (fun _ _=> .inl (by simp)) pq⟩
   | panic apn=>exact ⟨_,cj,aP,I, .pass (x:= .inLoop c) rfl (fun _ _=> .inl (by simp)) pq⟩
   | outgrown=>exact ⟨_,cj,aP,I, .pass (x:= .inLoop c) rfl (fun _ _=> .inl (by simp)) pq⟩
 obtain ⟨e,a',w',I,pq⟩:=key m a w ⟨cR,aF,ha.sub hs⟩;exact ⟨e,a',w',I, .of_steps (.one step_loop) pq⟩
theorem c' {kl:Nat→List (Nat×Value)→World→Prop} {m:Nat} (m':Nat) (cR:List (Nat×Value)) (h:kl m' cR w) (hm:m'<m) (hs:Sub cR E):N n (Exit.then (NA n kl m) Q) E w :=
 fun a ha=>⟨m',hm,cR,h,ha.sub hs⟩
variable {d:Option Nat} {ty:TypeId} {pos:String} {af:Array Edge} {g:Option (Nat×Bool)} {x y z:Operand} {t:TypeId} {rest:List Oper}
def cN (P:Program) (E:List (Nat×Value)) (o:Oper) (w:World) (v:Value) (w':World):Prop:=∀ n a,ek n E a→(execOp a.eval o).run P w= .ok (.value v) w'
def anz (P:Program) (E:List (Nat×Value)) (o:Oper) (w w':World):Prop:=∀ n a,ek n E a→(execOp a.eval o).run P w= .ok .skip w'
theorem Ga {o:Oper} (aM:o.guard=none) {a:Act} (h:o.wp P a w (wpList P ops Q rest) Q):wpList P ops Q (o::rest) a w:=by
 unfold wpList;rw [aQZ (by simp [Region.wanted,aM])];exact .inl h
theorem h6 {d:Nat} {op:Op} (hr:cN P E ⟨some d,op,ty,pos,af,none⟩ w v w') (hd:Nat.blt d n=true) (h:cE P n ops Q rest ((d,v)::E) w'):cE P n ops Q (⟨some d,op,ty,pos,af,none⟩::rest) E w:=fun a ha=>by
 refine Ga Z ?_;unfold Oper.wp;rw [hr n a ha];exact h _ (ha.put hd v)
theorem us {op:Op} (hr:anz P E ⟨none,op,ty,pos,af,none⟩ w w') (h:cE P n ops Q rest E w'):cE P n ops Q (⟨none,op,ty,pos,af,none⟩::rest) E w:=fun a ha=>by
 refine Ga Z ?_;unfold Oper.wp;rw [hr n a ha];exact h _ ha
def Enters (P:Program) (f:FuncId):Prop:=∃ fn,P.funcs[f]? =some fn∧(fn.name == "runtime.NumGoroutine")=false∧fn.body.isNone=false
theorem L5 {f:FuncId} (hf:Enters P f) {xs:Array Operand} {ts:Array TypeId} {args:List Value} {a:Act} (ha:ek n E a) (he:g_ E xs.toList=some args):
  (execOp a.eval ⟨d, .call {callee:= .value (.func f),args:=xs,argTypes:=ts},ty,pos,af,g⟩).run P w= .ok (.enter f args.toArray) w:=by
 obtain ⟨fn,γ,ab,aw⟩:=hf;have hm:xs.map a.eval=args.toArray:=by rw [← ha.g_ he];apply aSh;simp
 exact ajI f fn γ ab aw xs ts Z _ hm
theorem ca {d:Nat} {f:FuncId} (hf:Enters P f) {xs:Array Operand} {ts:Array TypeId} {args:List Value} (he:g_ E xs.toList=some args) (hd:Nat.blt d n=true)
  (h:Calls P f args.toArray w fun e w'=>∃ v,e= .returned v∧cE P n ops Q rest ((d,v)::E) w'):cE P n ops Q (⟨some d, .call {callee:= .value (.func f),args:=xs,argTypes:=ts},ty,pos,af,none⟩::rest) E w:=fun a ha=>by
 refine Ga Z ?_;unfold Oper.wp;rw [L5 hf ha he];refine aUQ h fun e w' fM=> ?_;obtain ⟨v,rfl,h⟩:=fM;exact h _ (ha.put hd v)
theorem aH (hx:ev E x=some v):cN P E ⟨d, .move x,ty,pos,af,g⟩ w v w:=fun n a ha=>by simp only [execOp,ha.ev hx];rfl
theorem eY (hx:ev E x=some v):cN P E ⟨d, .assign x,ty,pos,af,g⟩ w v w:=fun n a ha=>by simp only [execOp,ha.ev hx];rfl
theorem ex {l:List Value} {k:Nat} (hx:ev E x=some (.tuple l.toArray)) (av:l[k]? =some v):cN P E ⟨d, .extract x k,ty,pos,af,g⟩ w v w:=fun n a ha=>by
 simp only [execOp,ha.ev hx,Instr.extract,aUb,av];rfl
theorem bY {p:Addr} (hx:ev E x=some (.pointer (some p))):cN P E ⟨d, .nilCheck x,ty,pos,af,g⟩ w (.pointer (some p)) w:=fun n a ha=>by simp only [execOp,ha.ev hx];rfl
theorem eg {b:Bool} (hx:ev E x=some (.bool b)):cN P E ⟨d, .unOp .not t x,ty,pos,af,g⟩ w (.bool !b) w:=fun n a ha=>by
 simp only [execOp,ha.ev hx];cases b<;>rfl
theorem pQ {v:Value} (hx:ev E x=some (.bool true)) (aK:ev E y=some v):cN P E ⟨d, .pick x y z,ty,pos,af,g⟩ w v w:=fun n a ha=>by
 simp only [execOp,ha.ev hx,ha.ev aK];rfl
theorem sz {v:Value} (hx:ev E x=some (.bool false)) (bB:ev E z=some v):cN P E ⟨d, .pick x y z,ty,pos,af,g⟩ w v w:=fun n a ha=>by
 simp only [execOp,ha.ev hx,ha.ev bB];rfl
def h0 (c:Bool) (v:Value):Value:=if c=true then v else undef
theorem gt {c:Bool} (hc:c=true) (h:ev E x=some (h0 c v)):ev E x=some v:=by rw [h,hc];rfl
theorem ez {b c q:Bool} (hx:ev E x=some (.bool b)) (aK:ev E y=some (.bool true)) (I:(b == false)=q) (bB:ev E z=some (h0 q (.bool c))):cN P E ⟨d, .pick x y z,ty,pos,af,g⟩ w (.bool (b || c)) w:=fun n a ha=>by
 subst I;simp only [execOp,ha.ev hx,ha.ev aK,ha.ev bB];cases b<;>rfl
theorem di {b c q:Bool} (hx:ev E x=some (.bool b)) (bB:ev E z=some (.bool false)) (I:(b == true)=q) (aK:ev E y=some (h0 q (.bool c))):cN P E ⟨d, .pick x y z,ty,pos,af,g⟩ w (.bool (b && c)) w:=fun n a ha=>by
 subst I;simp only [execOp,ha.ev hx,ha.ev aK,ha.ev bB];cases b<;>rfl
section
variable {k k':IntKind} {i j:Int} {u:TypeId}
theorem nW {op:BinOp} {s:Sem Value} (hx:ev E x=some (.int k i)) (aK:ev E y=some (.int k' j)) (h:binOp op t (.int k i) (.int k' j)=s) (hr:s.run P w= .ok v w):cN P E ⟨d, .binOp op t x y u,ty,pos,af,g⟩ w v w:=fun n a ha=>by
 simp only [execOp,ha.ev hx,ha.ev aK,eqGuard_at_int,h,aQY,aQ3,aQR,hr]
theorem bad (hx:ev E x=some (.int k i)) (aK:ev E y=some (.int k j)) (h:k.wrap (i+j)=i+j):cN P E ⟨d, .binOp .add t x y u,ty,pos,af,g⟩ w (.int k (i+j)) w:=nW hx aK (binOp_add t k i j) (by simp [Op.intArith,h])
theorem lV (hx:ev E x=some (.int k i)) (aK:ev E y=some (.int k j)) (h:k.wrap (i - j)=i - j):cN P E ⟨d, .binOp .sub t x y u,ty,pos,af,g⟩ w (.int k (i - j)) w:=nW hx aK (binOp_sub t k i j) (by simp [Op.intArith,h])
theorem yc (hx:ev E x=some (.int k i)) (aK:ev E y=some (.int k j)) (h:k.wrap (i * j)=i * j):cN P E ⟨d, .binOp .mul t x y u,ty,pos,af,g⟩ w (.int k (i * j)) w:=nW hx aK (binOp_mul t k i j) (by simp [Op.intArith,h])
theorem aoA (hx:ev E x=some (.int k i)) (aK:ev E y=some (.int k j)):cN P E ⟨d, .binOp .sub t x y u,ty,pos,af,g⟩ w (.int k (k.wrap (i - j))) w:=nW hx aK (binOp_sub t k i j) (by simp [Op.intArith])
theorem blt (hx:ev E x=some (.int k i)) (aK:ev E y=some (.int k j)):cN P E ⟨d, .binOp .lss t x y u,ty,pos,af,g⟩ w (.bool (decide (i<j))) w:=nW hx aK (binOp_lss t k i j) rfl
theorem ble (hx:ev E x=some (.int k i)) (aK:ev E y=some (.int k j)):cN P E ⟨d, .binOp .leq t x y u,ty,pos,af,g⟩ w (.bool (decide (i≤j))) w:=nW hx aK (binOp_leq t k i j) rfl
theorem iu (hx:ev E x=some (.int k i)) (aK:ev E y=some (.int k j)):cN P E ⟨d, .binOp .gtr t x y u,ty,pos,af,g⟩ w (.bool (decide (j<i))) w:=nW hx aK (binOp_gtr t k i j) rfl
theorem iI (hx:ev E x=some (.int k i)) (aK:ev E y=some (.int k j)):cN P E ⟨d, .binOp .geq t x y u,ty,pos,af,g⟩ w (.bool (decide (j≤i))) w:=nW hx aK (binOp_geq t k i j) rfl
theorem beq (hx:ev E x=some (.int k i)) (aK:ev E y=some (.int k j)):cN P E ⟨d, .binOp .eql t x y u,ty,pos,af,g⟩ w (.bool (i == j)) w:=nW hx aK (binOp_eql t k i j) rfl
theorem bne (hx:ev E x=some (.int k i)) (aK:ev E y=some (.int k j)):cN P E ⟨d, .binOp .neq t x y u,ty,pos,af,g⟩ w (.bool (i != j)) w:=nW hx aK (binOp_neq t k i j) rfl
end
def eF (P:Program) (t:TypeId) (k:Nat):Prop:=∀ w,(sizeOf t).run P w= .ok k w
def eD (P:Program) (t:TypeId) (b:Bool):Prop:=∀ w,(isAgg t).run P w= .ok b w
def l_ (P:Program) (t:TypeId) (v:Value):Prop:=∀ w,(zeroValue t).run P w= .ok v w
def Fd (P:Program) (t:TypeId) (i off:Nat):Prop:=∀ w g o,(Instr.fieldAt t (.pointer (some ⟨g,o,none⟩)) i).run P w= .ok (.pointer (some ⟨g,o+off,none⟩)) w
section
variable {b o k:Nat} {cs:List Value}
theorem au {i off:Nat} (hf:Fd P t i off) (hx:ev E x=some (.pointer (some ⟨b,o,none⟩))):cN P E ⟨d, .fieldAddr t x i,ty,pos,af,g⟩ w (.pointer (some ⟨b,o+off,none⟩)) w:=fun n a ha=>by
 simp only [execOp,ha.ev hx,aQY,hf w b o,aQR,aQ3]
theorem K3 {e:TypeId} {size len cap:Nat} {Wq:IntKind} {i:Int} (j:Nat) (aD:P.underlying t=some (.slice e)) (hs:eF P e size) (hx:ev E x=some (.slice (some ⟨b,o,none⟩) len cap)) (ar:ev E y=some (.int Wq i)) (ay:i=(j:Int)) (bA:j<len):
  cN P E ⟨d, .indexAddr t x y,ty,pos,af,g⟩ w (.pointer (some ⟨b,o+j * size,none⟩)) w:=fun n a ha=>by
 subst ay;simp only [execOp,ha.ev hx,ha.ev ar,Instr.indexAt,asIntOf,aQY,aQ3,aQR,aR0 aD];rw [aQZ ⟨by omega,by omega⟩];simp only [aQY,hs w,aQR,aQ3,aRI,Gd]
def k2 (P:Program) (w:World) (t:TypeId) (p:Addr) (v:Value):Prop:=(loadVar t p).run P w= .ok v w
theorem k2.one {p:Addr} (aD:eD P t false) (h:w.cell? p=some v):k2 P w t p v:=by
 unfold k2 loadVar;simp only [aQY,aD w,aQR,aRr,aRZ,run_load,h]
theorem k2.agg (aD:eD P t true) (hs:eF P t cs.length) (h:∀ j v,cs[j]? =some v→w.cell? ⟨b,o+j,none⟩=some v):k2 P w t ⟨b,o,none⟩ (.agg cs.toArray):=by
 unfold k2 loadVar;simp only [aQY,aD w,aQR,aSk,hs w,run_loadCells_list w ⟨b,o,none⟩ cs (fun j v ay=>by rw [Gd];exact h j v ay),aQ3]
theorem ao {p:Addr} (hx:ev E x=some (.pointer (some p))) (h:k2 P w t p v):cN P E ⟨d, .load t x,ty,pos,af,g⟩ w v w:=fun n a ha=>by
 unfold k2 at h;simp only [execOp,ha.ev hx,Instr.loadAt,Instr.sureAddr,aQY,aQ3,aQR,h]
theorem aQ.one {p:Nat} {cur:List Value} {e:TypeId} {aA:Nat×Nat} (h:aQ w b cur e aA) (aD:eD P t false) (hv:cur[p]? =some v):k2 P w t ⟨b,p,none⟩ v:=k2.one aD (by rw [h.cell,hv])
theorem aQ.agg {p:Nat} {cur:List Value} {e:TypeId} {aA:Nat×Nat} (h:aQ w b cur e aA) (aD:eD P t true) (hs:eF P t cs.length) (hv:(cur.drop p).take cs.length=cs):k2 P w t ⟨b,p,none⟩ (.agg cs.toArray):=
 k2.agg aD hs fun j v ay=>by
  rw [h.cell,← ay];have az:=(aQM.1 ay).1
  conv=>rhs;rw [← hv]
  rw [aVj az,aRR]
theorem cB {op:Op} {d:Nat} {cs:List Value} (vn:op= .box t x) (hx:ev E x=some v) (hc:v.cells=cs.toArray) (hd:Nat.blt d n=true)
  (h:∀ aP b,Ext w aP→w.heap.size≤b→aQ aP b cs t (0,0)→cE P n ops Q rest ((d, .pointer (some ⟨b,0,none⟩))::E) aP):cE P n ops Q (⟨some d,op,ty,pos,af,none⟩::rest) E w:=by
 subst vn;refine h6 (w':=w.alloc (.cells v.cells t)) (v:= .pointer (some ⟨w.heap.size,0,none⟩)) (fun n a ha=> ?_) hd (h _ _ ((aRe _ w).alloc (aQW _) _) (aQW _) (by rw [hc];exact aQ.new w cs t (0,0)));simp only [execOp,ha.ev hx,Instr.box,newVar,newRow,aQY,run_newObj_alloc,aQR,aQ3]
theorem al {op:Op} {d:Nat} {cs:List Value} (vn:op= .alloc t) (bB:l_ P t v) (hc:v.cells=cs.toArray) (hd:Nat.blt d n=true)
  (h:∀ aP b,Ext w aP→w.heap.size≤b→aQ aP b cs t (0,0)→cE P n ops Q rest ((d, .pointer (some ⟨b,0,none⟩))::E) aP):cE P n ops Q (⟨some d,op,ty,pos,af,none⟩::rest) E w:=by
 subst vn;refine h6 (w':=w.alloc (.cells v.cells t)) (v:= .pointer (some ⟨w.heap.size,0,none⟩)) (fun n a ha=> ?_) hd (h _ _ ((aRe _ w).alloc (aQW _) _) (aQW _) (by rw [hc];exact aQ.new w cs t (0,0)));simp only [execOp,Instr.alloc,aQY,bB w,newVar,newRow,run_newObj_alloc,aQR,aQ3]
end
end
section
variable {P:Program} {n:Nat} {E cR:List (Nat×Value)} {a:Act} {w w' w0 aP:World} {Q:Exit→Act→World→Prop} {ops:Array Oper} {v:Value} {aZ:Nat→Nat}
variable {d:Option Nat} {ty:TypeId} {pos:String} {af:Array Edge} {g:Option (Nat×Bool)} {x y z:Operand} {t:TypeId} {rest:List Oper} {bZ:List Nat} {i:Nat}
def jG (P:Program) (n:Nat) (ops:Array Oper) (Q:Exit→Act→World→Prop) (aZ:Nat→Nat) (bZ:List Nat) (E:List (Nat×Value)) (w0:World):Prop:=∀ a,ek n E a→uo P ops (gW (Q .normal)) aZ bZ a w0
def oC (l:List (Nat×Nat)) (i:Nat):Nat:=match l with
 | []=>1
 | (j,k)::r=>match Nat.beq j i with | true=>k | false=>oC r i
theorem rd {id:Nat} (mq:List (Nat×Nat)) (bZ:List Nat) (hm:P.follows .mixedOrders=true) (bc:(Region.noSelect ops && (bZ.length == ops.size) && j4 ops (oC mq) bZ (Array.replicate ops.size false))=true)
  (h:jG P n ops Q (oC mq) bZ E w):W P n (.region id ops true) Q E w:=fun a ha=>aAT bZ hm bc (h a ha)
theorem fn (h:∀ w,Ext w0 w→N n Q E w):jG P n ops Q aZ [] E w0:=fun a ha w hw=>h w hw a ha
theorem AU {o:Oper} (aM:o.guard=none):Region.wanted o (yielded ops a.tmps)=true:=by simp [Region.wanted,aM]
theorem ad5 {d:Nat} {op:Op} (ar:ops[i]? =some ⟨some d,op,ty,pos,af,none⟩) (av:aZ i=0) (hr:∀ w,Ext w0 w→cN P E ⟨some d,op,ty,pos,af,none⟩ w v w) (hd:Nat.blt d n=true)
  (h:jG P n ops Q aZ bZ ((d,v)::E) w0):jG P n ops Q aZ (i::bZ) E w0:=fun a ha =>
 ⟨_,ar, .inl ⟨av,v, .inl ⟨AU rfl,fun w hw=>by rw [hr w hw n a ha];exact ⟨rfl,rfl⟩⟩,h _ (ha.put hd v)⟩⟩
theorem q7 {d:Nat} {op:Op} (ar:ops[i]? =some ⟨some d,op,ty,pos,af,none⟩) (av:aZ i=1) (hr:∀ w,cN P E ⟨some d,op,ty,pos,af,none⟩ w v w) (hd:Nat.blt d n=true)
  (h:jG P n ops Q aZ bZ ((d,v)::E) w0):jG P n ops Q aZ (i::bZ) E w0:=fun a ha =>
 ⟨_,ar, .inr (.inl ⟨av,v, .inl ⟨AU rfl,fun w=>hr w n a ha⟩,h _ (ha.put hd v)⟩)⟩
theorem pk {d:Nat} {f:FuncId} {xs:Array Operand} {ts:Array TypeId} {args:List Value} (ar:ops[i]? =some ⟨some d, .call {callee:= .value (.func f),args:=xs,argTypes:=ts},ty,pos,af,none⟩) (av:aZ i=0) (hf:Enters P f) (he:g_ E xs.toList=some args)
  (hr:∀ w,Ext w0 w→Calls P f args.toArray w fun e w'=>e= .returned v∧Ext w w') (hd:Nat.blt d n=true)
  (h:jG P n ops Q aZ bZ ((d,v)::E) w0):jG P n ops Q aZ (i::bZ) E w0:=fun a ha =>
 ⟨_,ar, .inl ⟨av,v, .inl ⟨AU rfl,fun w hw=>by rw [L5 hf ha he];exact ⟨rfl,hr w hw⟩⟩,h _ (ha.put hd v)⟩⟩
theorem C3 {o:Oper} {j:Nat} {q b:Bool} {c9:Oper} {jq:Nat} (aM:o.guard=some (j,q)) (ay:ops[j]? =some c9) (mX:c9.dst=some jq) (Φ:look E jq=some (.bool b)) (ha:ek n E a):Region.wanted o (yielded ops a.tmps)=(b == q):=by
 have:=ha.g _ _ Φ;cases b<;>cases q<;>simp [Region.wanted,aM,yielded,ay,mX,this]
theorem cw {d:Nat} {op:Op} {j:Nat} {q b c:Bool} {c9:Oper} {jq:Nat} (ar:ops[i]? =some ⟨some d,op,ty,pos,af,some (j,q)⟩) (av:aZ i=0) (ay:ops[j]? =some c9) (mX:c9.dst=some jq) (Φ:look E jq=some (.bool b)) (hc:(b == q)=c)
  (hr:c=true→∀ w,Ext w0 w→cN P E ⟨some d,op,ty,pos,af,some (j,q)⟩ w v w) (hd:Nat.blt d n=true)
  (h:jG P n ops Q aZ bZ ((d,h0 c v)::E) w0):jG P n ops Q aZ (i::bZ) E w0:=fun a ha=>by
 have hw:=C3 (o:=⟨some d,op,ty,pos,af,some (j,q)⟩) rfl ay mX Φ ha;rw [hc] at hw;refine ⟨_,ar, .inl ⟨av,h0 c v, ?_,h _ (ha.put hd _)⟩⟩;cases c with
 | true=>exact .inl ⟨hw,fun w hx=>by rw [hr rfl w hx n a ha];exact ⟨rfl,rfl⟩⟩
 | false=>exact .inr ⟨hw,rfl⟩
theorem aY {d:Nat} {op:Op} {j:Nat} {q b c:Bool} {c9:Oper} {jq:Nat} (ar:ops[i]? =some ⟨some d,op,ty,pos,af,some (j,q)⟩) (av:aZ i=1) (ay:ops[j]? =some c9) (mX:c9.dst=some jq) (Φ:look E jq=some (.bool b)) (hc:(b == q)=c)
  (hr:c=true→∀ w,cN P E ⟨some d,op,ty,pos,af,some (j,q)⟩ w v w) (hd:Nat.blt d n=true)
  (h:jG P n ops Q aZ bZ ((d,h0 c v)::E) w0):jG P n ops Q aZ (i::bZ) E w0:=fun a ha=>by
 have hw:=C3 (o:=⟨some d,op,ty,pos,af,some (j,q)⟩) rfl ay mX Φ ha;rw [hc] at hw;refine ⟨_,ar, .inr (.inl ⟨av,h0 c v, ?_,h _ (ha.put hd _)⟩)⟩;cases c with
 | true=>exact .inl ⟨hw,fun w=>hr rfl w n a ha⟩
 | false=>exact .inr ⟨hw,rfl⟩
theorem fa {d:Nat} {f:FuncId} {xs:Array Operand} {ts:Array TypeId} {args:List Value} {j:Nat} {q b c:Bool} {c9:Oper} {jq:Nat} (ar:ops[i]? =some ⟨some d, .call {callee:= .value (.func f),args:=xs,argTypes:=ts},ty,pos,af,some (j,q)⟩) (av:aZ i=0) (ay:ops[j]? =some c9) (mX:c9.dst=some jq) (Φ:look E jq=some (.bool b)) (hc:(b == q)=c)
  (hf:Enters P f) (he:c=true→g_ E xs.toList=some args)
  (hr:c=true→∀ w,Ext w0 w→Calls P f args.toArray w fun e w'=>e= .returned v∧Ext w w') (hd:Nat.blt d n=true)
  (h:jG P n ops Q aZ bZ ((d,h0 c v)::E) w0):jG P n ops Q aZ (i::bZ) E w0:=fun a ha=>by
 have hw:=C3 (o:=⟨some d, .call {callee:= .value (.func f),args:=xs,argTypes:=ts},ty,pos,af,some (j,q)⟩) rfl ay mX Φ ha;rw [hc] at hw;refine ⟨_,ar, .inl ⟨av,h0 c v, ?_,h _ (ha.put hd _)⟩⟩;cases c with
 | true=>exact .inl ⟨hw,fun w hx=>by rw [L5 hf ha (he rfl)];exact ⟨rfl,hr rfl w hx⟩⟩
 | false=>exact .inr ⟨hw,rfl⟩
def DR (P:Program) (n:Nat) (ops:Array Oper) (o:Oper) (E:List (Nat×Value)) (w:World) (K:List (Nat×Value)→World→Prop):Prop :=
 ∀ (Q:Exit→Act→World→Prop),(∀ cR w',K cR w'→cE P n ops Q [] cR w')→cE P n ops Q [o] E w
theorem aD5 {SN anw:Exit→Act→World→Prop} {o:Oper} {K:Act→World→Prop} (hp:∀ c a w,¬ SN (.panic c) a w) (b1:¬ LetsOut SN) (h:o.wp P a w K SN):o.wp P a w K anw:=by
 unfold Oper.wp at *
 generalize (execOp a.eval o).run P w=r at *
 cases r with
 | ok m w' =>
  cases m<;>simp only [Oper.upon] at h ⊢ <;>
   first
    | exact h
    | exact aUQ h (fun e lg he=>by cases e<;>first | exact he | exact (hp _ _ _ he).elim | exact (b1 he).elim)
 | halt x w'=>cases x<;>simp only [Oper.upon] at h ⊢<;>first | exact h | exact (hp _ _ _ h).elim
theorem HY {o:Oper} (aM:o.guard=none) (ar:ops[i]? =some o) {K:Act→World→Prop} {E:List (Nat×Value)} {w:World} {aah:List (Nat×Value)→World→Prop} (h:DR P n ops o E w aah) (hK:∀ cR w' a',aah cR w'→ek n cR a'→K a' w') (ha:ek n E a):
  wpOp P ops (gW (Q .normal)) i K a w:=by
 have:=h (gW K) (fun cR w' av a' q_=>hK cR w' a' av q_) a ha;unfold wpList at this;unfold wpOp;simp only [ar];rw [aQZ (AU aM)] at this ⊢;rcases this with h | ⟨h,a,w,ab⟩
 ·exact .inl (aD5 (fun _ _ _ h=>h) (fun ⟨_,_,h⟩=>h) h)
 ·exact ab.elim
theorem fG {o:Oper} (aM:o.guard=none) (ar:ops[i]? =some o) (av:aZ i=2) (h:∀ w,Ext w0 w→DR P n ops o E w fun cR w'=>Ext w0 w'∧jG P n ops Q aZ bZ cR w'):jG P n ops Q aZ (i::bZ) E w0:=fun a ha =>
 ⟨_,ar, .inr (.inr ⟨by omega,fun w hw=>HY aM ar (h w hw) (fun cR w' a' av q_=>⟨fun _=>av.1,av.2 a' q_⟩) ha⟩)⟩
theorem eo {o:Oper} (aM:o.guard=none) (ar:ops[i]? =some o) (av:aZ i=3) (h:∀ w,Ext w0 w→DR P n ops o E w fun cR w'=>jG P n ops Q aZ bZ cR w'):jG P n ops Q aZ (i::bZ) E w0:=fun a ha =>
 ⟨_,ar, .inr (.inr ⟨by omega,fun w hw=>HY aM ar (h w hw) (fun cR w' a' av q_=>⟨fun ab=>by omega,av a' q_⟩) ha⟩)⟩
end
structure Mod (S:List Nat) (w w':World):Prop where
 os:w'.os=w.os
 tape:w'.tape=w.tape
 output:w'.output=w.output
 size:w.heap.size≤w'.heap.size
 block:∀ k,k<w.heap.size→k∉S→w'.heap[k]? =w.heap[k]?
section
variable {S og:List Nat} {w w' w0 aP cr:World} {B:Nat}
theorem Mod.bD (h:Ext w w'):Mod S w w':=⟨h.os,h.tape,h.output,h.size,fun k av _=>h.block k av⟩
theorem Mod.below {aC:Nat} (h:Mod S w w') (hS:∀ x∈S,aC≤x) (tD:aC≤w.heap.size):Below aC w w' :=
 ⟨h.os,h.tape,h.output,h.size,fun k av=>h.block k (by omega) fun hm=>by have:=hS k hm;omega⟩
theorem Ext.mod (h:Ext w0 w) (hm:Mod S w w') (hS:∀ x∈S,w0.heap.size≤x):Ext w0 w':=Below.trans h (hm.below hS h.size)
theorem Mod.bI (S:List Nat) (w:World):Mod S w w:=⟨rfl,rfl,rfl,aQW _,fun _ _ _=>rfl⟩
theorem Mod.md (h:Mod S w aP) (c8:Mod og aP cr) (hs:∀ q∈og,q∈S∨w.heap.size≤q):Mod S w cr :=
 ⟨c8.os.trans h.os,c8.tape.trans h.tape,c8.output.trans h.output,aRj h.size c8.size,fun k av hn=>(c8.block k (aSt av h.size) fun hm=>(hs k hm).elim hn (fun h=>by omega)).trans (h.block k av hn)⟩
theorem Mod.trans (h:Mod S w aP) (c8:Mod S aP cr):Mod S w cr :=
 ⟨c8.os.trans h.os,c8.tape.trans h.tape,c8.output.trans h.output,aRj h.size c8.size,fun k av hn=>(c8.block k (aSt av h.size) hn).trans (h.block k av hn)⟩
theorem Mod.grown {row:Option Nat} (h:w.grownBy w' row):Mod row.toList w w' :=
 ⟨h.os,h.tape,h.output,h.size,fun k av hn=>h.block k av fun e=>hn (by rw [← e];simp)⟩
theorem Mod.setRow (w:World) (b:Nat) (cs:Array Value):Mod [b] w (w.setRow b cs):=by
 refine ⟨Z,Z,Z,by simp [World.setRow],fun k av hn=> ?_⟩;simp only [World.setRow,aUf];rw [aQV (by simp at hn;omega)]
theorem Mod.setCell (w:World) (p:Addr) (u:Value):Mod [p.block] w (w.setCell p u):=by
 refine ⟨Z,Z,Z,by simp [World.setCell],fun k av hn=> ?_⟩;exact Below.heap_setCell _ _ _ _ (by simpa using hn)
theorem aQ.mod {g:Nat} {cur:List Value} {e:TypeId} {aA:Nat×Nat} (h:aQ w g cur e aA) (hm:Mod S w w') (aM:g∉S):aQ w' g cur e aA:=by
 unfold aQ at *
 rw [hm.block g (aRl.1 h).1 aM];exact h
theorem τ.aG.mod {α:Type} {R:τ α} {E by_:Nat} {f:List Nat} {A:Option Addr} {c:Nat} {l:List α} (h:R.aG E by_ w B f A c l) (hm:Mod S w w') (hd:∀ x∈f,x∉S):R.aG E by_ w' B f A c l :=
 h.keep fun g aM=>hm.block g (h.lt g aM).2 (hd g aM)
end
section
variable {P:Program} {n:Nat} {E cR:List (Nat×Value)} {a:Act} {w w' w0 aP:World} {Q:Exit→Act→World→Prop} {ops:Array Oper} {v:Value}
variable {d:Option Nat} {ty:TypeId} {pos:String} {af:Array Edge} {g:Option (Nat×Bool)} {x y z:Operand} {t:TypeId} {rest:List Oper}
theorem XQ {b p:Nat} {cur cs:List Value} {e:TypeId} (bc:aQ w b cur e (0,0)) (hc:v.cells=cs.toArray) (hs:eF P t cs.length) (γ:cs.all (·.oneCell')=true) (az:p+cs.length≤cur.length):
  (storeVar t ⟨b,p,none⟩ v).run P w= .ok () (w.setRow b (cur.take p++cs++cur.drop (p+cs.length)).toArray):=by
 unfold storeVar;simp only [hc,aQY,hs w,aQR,aSc,ne_eq,aUF,aRZ];have:=run_storeCells_at P b p e cs 0 cur.toArray w bc (by simpa using az) (fun v hv=>aRD.1 γ v hv);simpa using this
theorem st {b p:Nat} {cur cs new:List Value} {e:TypeId} (hx:ev E x=some (.pointer (some ⟨b,p,none⟩))) (aK:ev E y=some v) (bc:aQ w b cur e (0,0)) (hc:v.cells=cs.toArray) (hs:eF P t cs.length) (γ:cs.all (·.oneCell')=true) (az:Nat.ble (p+cs.length) cur.length=true)
  (hn:cur.take p++cs++cur.drop (p+cs.length)=new)
  (h:∀ aP,Mod [b] w aP→aQ aP b new e (0,0)→cE P n ops Q rest E aP):cE P n ops Q (⟨none, .store t x y,ty,pos,af,none⟩::rest) E w:=by
 refine us (w':=w.setRow b new.toArray) (fun n a ha=> ?_) (h _ (Mod.setRow w b _) (by rw [← hn];exact bc.setRow _));have:=XQ (P:=P) bc hc hs γ (aSR az);rw [hn] at this;simp only [execOp,ha.ev hx,ha.ev aK,Instr.storeAt,Instr.sureAddr,aQY,aQ3,aQR,this]
theorem bi {qX:Builtin} {xs:Array Operand} {ts:Array TypeId} {vs:List Value} (he:g_ E xs.toList=some vs) (h:∀ cs,(builtin qX ts ty cs vs.toArray).run P w= .ok (.value v) w'):
  cN P E ⟨d, .call {callee:= .builtin qX,args:=xs,argTypes:=ts},ty,pos,af,g⟩ w v w':=fun n a ha=>by
 have hm:xs.map a.eval=vs.toArray:=by rw [← ha.g_ he];apply aSh;simp
 simp only [execOp,resolve,invoke,hm,aQY,aQ3,aQR,h]
theorem cu {A:Option Addr} {len cap e:Nat} (aD:P.underlying t=some (.slice e)) (hx:ev E x=some (.slice A len cap)):cN P E ⟨d, .call {callee:= .builtin .len,args:=#[x],argTypes:=#[t]},ty,pos,af,g⟩ w (.int .i64 (len:Int)) w :=
 bi (vs:= [.slice A len cap]) (by simp only [g_,hx]) fun cs=>by
  have γ:P.underlying t=some (.slice (P.elem t)):=by simp [Program.elem,aD]
  have:=run_len_slice (P:=P) w t ty A len cap γ;simp only [builtin,aQY,this,aQR,aQ3];rfl
theorem b6 {f:FuncId} {fn:Func} (h:P.funcs[f]? =some fn) (γ:(fn.name == "runtime.NumGoroutine")=false:=by kernel_rfl) (ab:fn.body.isNone=false:=by kernel_rfl):Enters P f:=⟨fn,h,γ,ab⟩
theorem RI {o:Oper} {c:Bool} (hw:∀ a,ek n E a→Region.wanted o (yielded ops a.tmps)=c) (γ:c=true→∀ a,ek n E a→o.wp P a w (wpList P ops Q rest) Q) (ab:c=false→∀ a,ek n E a→wpList P ops Q rest (a.put o.dst undef) w):cE P n ops Q (o::rest) E w:=fun a ha=>by
 unfold wpList;rw [hw a ha];cases c with
 | true=>rw [aQZ rfl];exact .inl (γ Z a ha)
 | false=>rw [aQV (by decide)];exact ab Z a ha
theorem aO {d:Nat} {op:Op} {j:Nat} {q b c:Bool} {c9:Oper} {jq:Nat} (ay:ops[j]? =some c9) (mX:c9.dst=some jq) (Φ:look E jq=some (.bool b)) (hc:(b == q)=c)
  (hr:c=true→cN P E ⟨some d,op,ty,pos,af,some (j,q)⟩ w v w) (hd:Nat.blt d n=true) (h:cE P n ops Q rest ((d,h0 c v)::E) w):cE P n ops Q (⟨some d,op,ty,pos,af,some (j,q)⟩::rest) E w :=
 RI (c:=c) (fun a ha=>by rw [C3 (o:=⟨some d,op,ty,pos,af,some (j,q)⟩) rfl ay mX Φ ha,hc])
  (fun hc a ha=>by unfold Oper.wp;rw [hr hc n a ha];subst hc;exact h _ (ha.put hd v)) (fun hc a ha=>by subst hc;exact h _ (ha.put hd undef))
theorem pV {d:Nat} {f:FuncId} {xs:Array Operand} {ts:Array TypeId} {args:List Value} {j:Nat} {q b c:Bool} {c9:Oper} {jq:Nat} (ay:ops[j]? =some c9) (mX:c9.dst=some jq) (Φ:look E jq=some (.bool b)) (hc:(b == q)=c)
  (hf:Enters P f) (he:c=true→g_ E xs.toList=some args) (hr:c=true→Calls P f args.toArray w fun e w'=>e= .returned v∧Ext w w') (hd:Nat.blt d n=true)
  (h:∀ w',Ext w w'→cE P n ops Q rest ((d,h0 c v)::E) w'):cE P n ops Q (⟨some d, .call {callee:= .value (.func f),args:=xs,argTypes:=ts},ty,pos,af,some (j,q)⟩::rest) E w :=
 RI (c:=c) (fun a ha=>by rw [C3 (o:=⟨some d,_,ty,pos,af,some (j,q)⟩) rfl ay mX Φ ha,hc])
  (fun hc a ha=>by unfold Oper.wp;rw [L5 hf ha (he hc)];exact (hr hc).mono fun e w' ⟨γ,hx⟩=>by subst γ;subst hc;exact h w' hx _ (ha.put hd v)) (fun hc a ha=>by subst hc;exact h w (Ext.bI w) _ (ha.put hd undef))
theorem lf {d:Option Nat} {op:Op} {j:Nat} {q:Bool} {c9:Oper} {jq:Nat} (ay:ops[j]? =some c9) (mX:c9.dst=some jq) (Φ:look E jq=some (.bool q)) (h:cE P n ops Q (⟨d,op,ty,pos,af,none⟩::rest) E w):cE P n ops Q (⟨d,op,ty,pos,af,some (j,q)⟩::rest) E w:=fun a ha=>by
 have h:=h a ha;have hw:=C3 (o:=⟨d,op,ty,pos,af,some (j,q)⟩) (q:=q) rfl ay mX Φ ha;unfold wpList at h ⊢;rw [aQZ (AU rfl)] at h;rw [hw,aQZ (by cases q<;>rfl)];exact h
theorem gA {x:Operand} {b c:Bool} (h:ev E x=some (.bool b)) (e:b=c):ev E x=some (.bool c):=by rw [h,e]
theorem LM {adQ:Fn} {fs cs:Array Operand} {l m:List Value} (γ:g_ E fs.toList=some l) (ab:g_ E cs.toList=some m):cN P E ⟨d, .makeFunc adQ fs cs,ty,pos,af,g⟩ w (.func adQ l.toArray m.toArray) w:=fun n a ha=>by
 have a_:fs.map a.eval=l.toArray:=by rw [← ha.g_ γ];apply aSh;simp
 have bh:cs.map a.eval=m.toArray:=by rw [← ha.g_ ab];apply aSh;simp
 simp only [execOp,a_,bh,Instr.makeFunc,aQY,aQ3,aQR]
def wM (E:List (Nat×Value)):List (Nat×Operand)→Option (List (Nat×Value))
 | []=>some []
 | (i,x)::r=>match ev E x with
  | some v=>match wM E r with
   | some l=>some ((i,v)::l)
   | none=>none
  | none=>none
theorem ek.wM (h:ek n E a):∀ {l:List (Nat×Operand)} {vs:List (Nat×Value)},wM E l=some vs→l.map (fun (i,x)=>(i,a.eval x))=vs
 | [],vs,e=>by simp only [Proofs.YtlikikpgmmkjbaaGreat.wM] at e;exact aQL e
 | (i,x)::r,vs,e=>by
  simp only [Proofs.YtlikikpgmmkjbaaGreat.wM] at e;cases hx:Proofs.YtlikikpgmmkjbaaGreat.ev E x with
  | none=>rw [hx] at e;cases e
  | some v =>
   rw [hx] at e;simp only at e;cases hr:Proofs.YtlikikpgmmkjbaaGreat.wM E r with
   | none=>rw [hr] at e;cases e
   | some l =>
    rw [hr] at e;simp only at e;obtain rfl:=aQL e;rw [aRw,ek.wM h hr];simp only [h.ev hx]
theorem cG {ps:Array (Nat×Operand)} {l:List (Nat×Value)} (he:wM E ps.toList=some l) (hr:(Instr.build t l.toArray).run P w= .ok v w):cN P E ⟨d, .build t ps,ty,pos,af,g⟩ w v w:=fun n a ha=>by
 have a_:ps.map (fun (i,x)=>(i,a.eval x))=l.toArray:=by rw [← ha.wM he];apply aSh;simp
 simp only [execOp,a_,aQY,hr,aQR,aQ3]
theorem cX {ps:Array (Nat×Operand)} {l:List (Nat×Value)} {d k e:Nat} {cs:List Value} (he:wM E ps.toList=some l) (hr:∀ w,(Instr.buildSlice t k l.toArray).run P w= .ok (.slice (some ⟨w.heap.size,0,none⟩) k k) (w.alloc (.cells cs.toArray e))) (hd:Nat.blt d n=true)
  (h:∀ aP b,Ext w aP→w.heap.size≤b→aQ aP b cs e (0,0)→cE P n ops Q rest ((d, .slice (some ⟨b,0,none⟩) k k)::E) aP):cE P n ops Q (⟨some d, .buildSlice t k ps,ty,pos,af,none⟩::rest) E w:=by
 refine h6 (w':=w.alloc (.cells cs.toArray e)) (v:= .slice (some ⟨w.heap.size,0,none⟩) k k) (fun n a ha=> ?_) hd (h _ _ ((aRe _ w).alloc (aQW _) _) (aQW _) (aQ.new w cs e (0,0)));have a_:ps.map (fun (i,x)=>(i,a.eval x))=l.toArray:=by rw [← ha.wM he];apply aSh;simp
 simp only [execOp,a_,aQY,hr,aQR,aQ3]
def eM (A:Option Addr):Nat:=match A with | some a=>a.block | none=>0
def kb (A:Option Addr):Nat:=match A with | some a=>a.off | none=>0
theorem τ.aI.bL {α:Type} {R:τ α} {by_ c:Nat} {A:Option Addr} {l:List α} (h:R.aI by_ w A c l) (aF:0<l.length):A=some ⟨eM A,kb A,none⟩:=by
 obtain ⟨b,o,rfl,_⟩:=h.at_ aF;rfl
theorem τ.aI.cA {α:Type} {R:τ α} {by_ c:Nat} {A:Option Addr} {l:List α} (h:R.aI by_ w A c l) (aF:0<l.length):R.aI by_ w (some ⟨eM A,kb A,none⟩) c l:=by
 rw [← h.bL aF];exact h
theorem b5 {e:TypeId} {size len cap b o:Nat} {Wq:IntKind} {i:Int} {A:Option Addr} (j:Nat) (aD:P.underlying t=some (.slice e)) (hs:eF P e size) (hx:ev E x=some (.slice A len cap)) (ar:ev E y=some (.int Wq i)) (hA:A=some ⟨b,o,none⟩) (ay:i=(j:Int)) (bA:j<len):
  cN P E ⟨d, .indexAddr t x y,ty,pos,af,g⟩ w (.pointer (some ⟨b,o+j * size,none⟩)) w:=by subst hA;exact K3 j aD hs hx ar ay bA
theorem df {α:Type} {l:List α} {j:Nat} {u:α} (h:j<l.length):l[j]? =some (l.getD j u):=by rw [aQK,aQN h];rfl
section
variable {α:Type} {R:τ α} {by_ c b o j:Nat} {l:List α} {cells:α→List Value} {q u:α}
theorem τ.aI.jN (hc:∀ {w cs a},R.has w cs a→cs=cells a) (h:R.aI by_ w (some ⟨b,o,none⟩) c l) (k:Nat) (ay:l[j]? =some q) (hu:(cells q)[k]? =some v) (aD:eD P t false):k2 P w t ⟨b,o+j * R.size+k,none⟩ v:=by
 obtain ⟨pc,HD,e,dE⟩:=h.at_ (by have:=(aQM.1 ay).1;omega);injection e with e;injection e with a_ bh;subst a_;subst bh
 obtain ⟨es,γ,ab⟩:=dE j q ay;rw [hc γ] at ab;exact k2.one aD (by rw [aTr];exact ab k v hu)
theorem τ.aI.fB (hc:∀ {w cs a},R.has w cs a→cs=cells a) (h:R.aI by_ w (some ⟨b,o,none⟩) c l) (ay:l[j]? =some q) (hu:(cells q)[0]? =some v) (aD:eD P t false):k2 P w t ⟨b,o+j * R.size,none⟩ v:=h.jN hc 0 ay hu aD
theorem τ.aI.hE (hc:∀ {w cs a},R.has w cs a→cs=cells a) (h:R.aI by_ w (some ⟨b,o,none⟩) c l) (ay:l[j]? =some q) (aD:eD P t true) (hs:eF P t (cells q).length):k2 P w t ⟨b,o+j * R.size,none⟩ (.agg (cells q).toArray):=by
 obtain ⟨pc,HD,e,dE⟩:=h.at_ (by have:=(aQM.1 ay).1;omega);injection e with e;injection e with a_ bh;subst a_;subst bh
 obtain ⟨es,γ,ab⟩:=dE j q ay;rw [hc γ] at ab;exact k2.agg aD hs fun k v av=>by rw [aTr];exact ab k v av
theorem τ.aI.part (hc:∀ {w cs a},R.has w cs a→cs=cells a) (h:R.aI by_ w (some ⟨b,o,none⟩) c l) (k:Nat) {ds:List Value} (ay:l[j]? =some q) (hd:((cells q).drop k).take ds.length=ds) (aD:eD P t true) (hs:eF P t ds.length):k2 P w t ⟨b,o+j * R.size+k,none⟩ (.agg ds.toArray):=by
 obtain ⟨pc,HD,e,dE⟩:=h.at_ (by have:=(aQM.1 ay).1;omega);injection e with e;injection e with a_ bh;subst a_;subst bh
 obtain ⟨es,γ,ab⟩:=dE j q ay;rw [hc γ] at ab;refine k2.agg aD hs fun i v ar=> ?_;rw [aTr,aTr];refine ab _ v ?_;rw [← hd] at ar;have az:=(aQM.1 ar).1;rw [aQP] at az
 rwa [aVj (by omega),aRR] at ar
end
theorem aQ.all {b:Nat} {cur:List Value} {e:TypeId} {aA:Nat×Nat} (h:aQ w b cur e aA) (aD:eD P t true) (hs:eF P t cur.length):k2 P w t ⟨b,0,none⟩ (.agg cur.toArray):=
 k2.agg aD hs fun j v ay=>by rw [h.cell,aRQ,ay]
theorem aQ.par {b p:Nat} {cur:List Value} {e:TypeId} {aA:Nat×Nat} (h:aQ w b cur e aA) (cs:List Value) (aD:eD P t true) (hs:eF P t cs.length) (hv:(cur.drop p).take cs.length=cs):k2 P w t ⟨b,p,none⟩ (.agg cs.toArray):=h.agg aD hs hv
end
open Tryz

section
variable {P:Program} {n:Nat} {E cR:List (Nat×Value)} {a:Act} {w w' w0 aP:World} {Q:Exit→Act→World→Prop} {ops:Array Oper} {v:Value}
theorem bG {x:Int} (h: -9223372036854775808≤x∧x≤9223372036854775807):IntKind.i64.wrap x=x:=IntWalk.i64_in x h
section
variable {d:Option Nat} {ty:TypeId} {pos:String} {af:Array Edge} {g:Option (Nat×Bool)} {x y:Operand} {t u:TypeId} {k:IntKind} {i j r:Int}
theorem pd (hx:ev E x=some (.int k i)) (aK:ev E y=some (.int k j)) (h:k.wrap (i+j)=i+j) (he:i+j=r):cN P E ⟨d, .binOp .add t x y u,ty,pos,af,g⟩ w (.int k r) w:=by subst he;exact bad hx aK h
end
theorem sq {p:Nat→Prop} {k:Nat} (h:∀ j,j<k→p j) (av:p k):∀ j,j<k+1→p j:=fun j ay=>(aTO.1 ay).elim (h j) fun e=>e ▸ av
theorem gl {w:World} {cs:List Value} {a:Int} (h:bK.has w cs a):cs= [.int .i64 a]:=aSO (show cs= [.int .i64 a]∧eP a from h)
theorem ae3 {w:World} {cs:List Value} {a:Bool} (h:yY.has w cs a):cs= [.bool a]:=aSO (show cs= [.bool a]∧True from h)
theorem fp {x:Operand} {r:List Operand} {l:List Value} (h:ev E x=some v) (hr:g_ E r=some l):g_ E (x::r)=some (v::l):=by simp only [g_,h,hr]
theorem b2 {t:Nat} {k:IntKind} {i j:Int} (h:look E t=some (.int k i)) (e:i=j):look E t=some (.int k j):=by rw [h,e]
section
variable {c:Operand} {x y:Code} {i j:Int}
theorem ef (hc:ev E c=some (.bool (decide (i<j)))) (γ:i<j→W P n x Q E w) (ab:¬ i<j→W P n y Q E w):W P n (.cond c x y) Q E w:=dT hc (fun h=>γ (aR2 h)) (fun h=>ab (aTc h))
theorem DY (hc:ev E c=some (.bool (decide (i≤j)))) (γ:i≤j→W P n x Q E w) (ab:¬ i≤j→W P n y Q E w):W P n (.cond c x y) Q E w:=dT hc (fun h=>γ (aR2 h)) (fun h=>ab (aTc h))
theorem jI (hc:ev E c=some (.bool (i == j))) (γ:i=j→W P n x Q E w) (ab:¬ i=j→W P n y Q E w):W P n (.cond c x y) Q E w:=dT hc (fun h=>γ (by simpa using h)) (fun h=>ab (by simpa using h))
theorem eH (hc:ev E c=some (.bool (i != j))) (γ:¬ i=j→W P n x Q E w) (ab:i=j→W P n y Q E w):W P n (.cond c x y) Q E w:=dT hc (fun h=>γ (by simpa using h)) (fun h=>ab (by simpa using h))
end
end
def fh (P:Program) {α:Type} (R:τ α) (t e:TypeId) (by_:Nat):Prop :=
 ∃ (i:TypeInfo) (z:Value),P.underlying t=some (.slice e)∧P.info? e=some i∧i.zero=some z∧i.size=R.size∧i.bytes=by_∧z.cells.size=R.size∧0<R.size∧∀ (j:Nat) u,z.cells[j]? =some u→R.raw j u
section
variable {P:Program} {n:Nat} {E cR:List (Nat×Value)} {a:Act} {w w' w0 aP:World} {Q:Exit→Act→World→Prop} {ops:Array Oper} {v:Value}
variable {d:Option Nat} {ty:TypeId} {pos:String} {af:Array Edge} {g:Option (Nat×Bool)} {x y z:Operand} {t:TypeId} {rest:List Oper}
theorem fh.lF {α:Type} {R:τ α} {t e by_ k:Nat} {z:Value} (aD:P.underlying t=some (.slice e)) (ar:(P.info? e).map (fun i=>(i.zero,i.size,i.bytes))=some (some z,k,by_)) (av:R.size=k) (γ:z.cells.size=k) (ab:0<k) (aw:∀ (j:Nat) u,z.cells[j]? =some u→R.raw j u):fh P R t e by_:=by
 cases I:P.info? e with
 | none=>rw [I] at ar;cases ar
 | some i =>
  rw [I] at ar;simp only [aSn,aTL,aVh] at ar;exact ⟨i,z,aD,I,ar.1,by rw [ar.2.1,av],ar.2.2,by rw [γ,av],by rw [av];exact ab,aw⟩
theorem HQ:∀ (j:Nat) u,(Value.int .i64 0).cells[j]? =some u→bK.raw j u:=by
 intro j u hu;have hu:(#[(.int .i64 0:Value)]:Array Value)[j]? =some u:=hu
 match j,hu with
 | 0,hu=>exact ⟨0,(aQL hu).symm⟩
 | j+1,hu=>simp at hu
theorem ajv:∀ (j:Nat) u,(Value.bool false).cells[j]? =some u→yY.raw j u:=by
 intro j u hu;have hu:(#[(.bool false:Value)]:Array Value)[j]? =some u:=hu
 match j,hu with
 | 0,hu=>exact ⟨false,(aQL hu).symm⟩
 | j+1,hu=>simp at hu
def SP (P:Program) (n:Nat) (c:Code) (Q:Exit→Act→World→Prop) (k:Nat) (E:List (Nat×Value)) (w:World):Prop:=∀ a,ek n E a→Code.rounds P c Q k a w
theorem Hm {c:Code} (k:Nat) (h:SP P n c Q k E w):W P n (.loop c) Q E w:=fun a ha=>wp_loop_rounds k (h a ha)
theorem lB {c:Code} {k:Nat} (h:W P n c (Exit.then (Code.rounds P c Q k) Q) E w):SP P n c Q (k+1) E w:=fun a ha=>h a ha
theorem pN {c:Code} {k:Nat} (h:SP P n c Q k E w):N n (Exit.then (Code.rounds P c Q k) Q) E w:=h
theorem aQ.gJ {α:Type} {R:τ α} {by_ b:Nat} {cs:List Value} {e:TypeId} {aA:Nat×Nat} {q:α} (Φ:aQ w b cs e aA) (h:R.has w cs q) (py:by_≤140737488355328):R.aI by_ w (some ⟨b,0,none⟩) 1 [q]:=by
 refine ⟨aQW _,by decide,by simpa using py,(fun h=>by cases h), [cs],⟨h,trivial⟩, ?_⟩;have az:=R.len h;refine ⟨by simp [az],fun _=>⟨b,0,rfl,fun j u hu=> ?_⟩⟩;rw [aRQ,Φ.cell];simpa using hu
theorem aQ.Kk {α:Type} {R:τ α} {by_ b:Nat} {cs:List Value} {e:TypeId} {aA:Nat×Nat} {k:List α} (Φ:aQ w b cs e aA) (ess:List (List Value)) (vk:ess.flatten=cs) (h:c0 (fun es a=>R.has w es a) ess k) (q8:k.length≤9223372036854775807) (py:k.length * by_≤140737488355328):R.aI by_ w (some ⟨b,0,none⟩) k.length k:=by
 refine ⟨aQW _,q8,py,(fun h=>by cases h),ess,h, ?_⟩;have az:∀ x∈ess,x.length=R.size:=fun x hx=>by obtain ⟨a,ha⟩:=h.left x hx;exact R.len ha
 refine ⟨by rw [z1 az,h.length],fun _=>⟨b,0,rfl,fun j u hu=> ?_⟩⟩;rw [aRQ,Φ.cell,← vk];exact hu
theorem aQ.vA {α:Type} {R:τ α} {by_ b B:Nat} {cs:List Value} {e:TypeId} {k:List α} (Φ:aQ w b cs e (0,0)) (ess:List (List Value)) (vk:ess.flatten=cs) (h:c0 (fun es a=>R.has w es a) ess k) (q8:k.length≤9223372036854775807) (py:k.length * by_≤140737488355328) (aF:0<R.size) (bc:B≤b) (hR:R.Plain:=by exact τ.ou):
  R.aG e by_ w B (τ.ae (some ⟨b,0,none⟩)) (some ⟨b,0,none⟩) k.length k:=by
 have az:∀ x∈ess,x.length=R.size:=fun x hx=>by obtain ⟨a,ha⟩:=h.left x hx;exact R.len ha
 have hlen:cs.length=k.length * R.size:=by rw [← vk,z1 az,h.length]
 refine τ.aG.yT hR h py ⟨by rw [vk,hlen], .inr ⟨b,k.length,cs.toArray,rfl,bc,Φ,aQW _,q8,by simpa using hlen, ?_,fun j u hu=> ?_⟩⟩
 ·rw [vk];exact aRb (by simp [hlen])
 ·exact D' h aF (by rw [vk];simpa using hu)
theorem ap {α:Type} {R:τ α} {e by_ base:Nat} {A cW:Option Addr} {c c2 d:Nat} {l k:List α} (lW:fh P R t e by_) (hR:R.v7) (h:R.aG e by_ w base (τ.ae A) A c l) (ab:R.aI by_ w cW c2 k)
  (hs:ev E x=some (.slice A l.length c)) (hx:ev E y=some (.slice cW k.length c2)) (hlen:l.length+k.length≤9223372036854775807) (re:(l.length+k.length) * by_≤140737488355328) (pw:base≤w.heap.size) (hd:Nat.blt d n=true)
  (av:∀ aP bH bV,Mod (τ.ae A) w aP→R.aG e by_ aP base (τ.ae bH) bH bV (l++k)→(∀ q∈τ.ae bH,q∈τ.ae A∨w.heap.size≤q)→(bH=none↔A=none∧k= [])→cE P n ops Q rest ((d, .slice bH (l++k).length bV)::E) aP):
  cE P n ops Q (⟨some d, .call {callee:= .builtin .append,args:=#[x,y],argTypes:=#[t,t]},ty,pos,af,none⟩::rest) E w:=fun a ha=>by
 obtain ⟨i,z,a_,bh,cD,jr,JE,JF,ada,adb⟩:=lW;obtain ⟨s1,s2,L6,ajL,ess,L7,E8⟩:=ab;obtain ⟨eK,fr⟩:=τ.ai6 ess;refine τ.aD4 Z x y base t e i z a_ bh cD jr JE JF ada adb (τ.ae A) A c l h cW k.length c2 k (ess.map fun es=>(([]:List Nat),es)) (τ.c0.plain hR.1 L7) Z (by rw [fr];exact E8) (by rw [eK,aRn];exact h.nodup) hlen re pw Z (ha.ev hs) (ha.ev hx) ?_;rintro bH bV f' aP ⟨la,mC,vC,E4,Xv,ajk⟩;obtain rfl:=la.as2 hR.2;have hm:Mod (τ.ae A) w aP:=by
  have:=Mod.grown mC
  rwa [τ.QF] at this
 have:=av aP bH bV hm la (fun q I=>by
  rcases E4 q I with h | h | h
  ·exact .inl h
  ·rw [eK] at h;cases h
  ·exact .inr (by omega)) (by rw [Xv];exact and_congr_right fun _=>List.length_eq_zero_iff)
 rw [aQU] at this;exact this _ (ha.put hd _)
theorem Own.ab1 {base e size:Nat} {G:Nat→Value→Prop} {b c n:Nat} {xs:List Value} (h:Own w base e size G (.slice (some ⟨b,0,none⟩) n c) n xs):∃ cur:Array Value,w.heap[b]? =some (.cells cur e (0,0))∧cur.size=c * size∧cur.toList.take (n * size)=xs:=by
 obtain ⟨γ,ab⟩:=h;rcases ab with ⟨ab,_⟩ | ⟨g',cap,cur,hv,pc,fM,d,hm,hs,aD,bC⟩
 ·cases ab
 ·injection hv with hv _ hc
  injection hv with hv
  injection hv with hv
  subst hv;subst hc;exact ⟨cur,fM,hs,aD⟩
theorem so {α:Type} {R:τ α} {e by_ B j i:Nat} {A:Option Addr} {c:Nat} {l:List α} {q q':α} {p:Addr} {u:Value} (h:R.aG e by_ w B (τ.ae A) A c l) (hR:R.v7) (ar:l[i]? =some q) (ay:Nat.blt j R.size=true) (hx:ev E x=some (.pointer (some p))) (hp:p=⟨eM A,kb A+i * R.size+j,none⟩) (aK:ev E y=some u)
  (hu:∀ (aP:World) cs,R.has w cs q→R.has aP (cs.set j u) q') (γ:u.oneCell'=true) (vk:u.cells=#[u]) (hs:eF P t 1)
  (av:∀ aP,Mod (τ.ae A) w aP→R.aG e by_ aP B (τ.ae A) A c (l.set i q')→cE P n ops Q rest E aP):cE P n ops Q (⟨none, .store t x y,ty,pos,af,none⟩::rest) E w:=by
 obtain ⟨b,rfl⟩:=h.block (by have:=(aQM.1 ar).1;omega);rw [aUv] at ay;have KN:p=⟨b,i * R.size+j,none⟩:=by rw [hp];simp [eM,kb]
 subst KN;have rr:=h.aBA hR ar ay (fun cs hc=>hu _ cs hc);have bA:=(aQM.1 ar).1;have jg:∃ akA,w.cell? ⟨b,i * R.size+j,none⟩=some akA:=by
  obtain ⟨_,ps,_,_,b1,dE⟩:=h;have az:=b1.1;rw [b1.cell _ (by rw [aR3 i];exact aSt (by rw [aR3];exact (by omega:i * R.size+j<i * R.size+R.size)) (by rw [← aSq];exact aRx _ bA))];exact ⟨_,aQN (by rw [az];exact aSt (by omega:i * R.size+j<i * R.size+R.size) (by rw [← aSq];exact aRx _ bA))⟩
 obtain ⟨akA,awp⟩:=jg;have hf:=h.free (i * R.size+j);refine us (w':=w.setCell ⟨b,i * R.size+j,none⟩ u) (fun n a ha=> ?_) (av _ (Mod.setCell w ⟨b,i * R.size+j,none⟩ u) rr);have hQ:(storeVar t ⟨b,i * R.size+j,none⟩ u).run P w= .ok () (w.setCell ⟨b,i * R.size+j,none⟩ u):=by
  unfold storeVar;simp only [vk,aQY,hs w,aQR,aSc,aQQ,aQX,ne_eq,aRQ,aUF,aRZ,storeCells];have:(⟨b,i * R.size+j,none⟩:Addr).add 0=⟨b,i * R.size+j,none⟩:=rfl;rw [this,run_store P w _ u _ γ,awp];simp only [hf,aRr,aRZ,aQR,aQ3]
 simp only [execOp,ha.ev hx,ha.ev aK,Instr.storeAt,Instr.sureAddr,aQY,aQ3,aQR,hQ]
theorem N_ {e u:TypeId} {q:Option Addr} (aD:P.underlying t=some (.pointer e)) (hx:ev E x=some (.pointer q)) (aK:ev E y=some (.pointer none)):cN P E ⟨d, .binOp .eql t x y u,ty,pos,af,g⟩ w (.bool q.isNone) w:=fun n a ha=>by
 have γ:P.underlying t=some (.pointer (P.pointee t)):=by simp [Program.pointee,aD]
 have:(eqGuard .eql t x y (.pointer q) (.pointer none)).run P w= .ok () w:=by cases x<;>cases y<;>rfl
 simp only [execOp,ha.ev hx,ha.ev aK,aQY,this,run_eql_pointer_nil w t q γ,aQR,aQ3]
def IK (P:Program) {α:Type} [DecidableEq α] (cells:α→List Value) (t:TypeId):Prop:=∀ (a b:α) (w:World),(binOp .eql t (.agg (cells a).toArray) (.agg (cells b).toArray)).run P w= .ok (.bool (decide (a=b))) w∧(binOp .neq t (.agg (cells a).toArray) (.agg (cells b).toArray)).run P w= .ok (.bool (!decide (a=b))) w
theorem asA {o:BinOp} {xs ys:Array Value} (h:P.eqGuardType P.depth t=false):(eqGuard o t x y (.agg xs) (.agg ys)).run P w= .ok () w:=by
 cases o<;>simp [eqGuard,h]
theorem N9 {α:Type} [DecidableEq α] {cells:α→List Value} {u:TypeId} {p q:α} (lW:IK P cells t) (bC:P.eqGuardType P.depth t=false) (hx:ev E x=some (.agg (cells p).toArray)) (aK:ev E y=some (.agg (cells q).toArray)):cN P E ⟨d, .binOp .neq t x y u,ty,pos,af,g⟩ w (.bool (!decide (p=q))) w:=fun n a ha=>by
 simp only [execOp,ha.ev hx,ha.ev aK,aQY,asA bC,(lW p q w).2,aQR,aQ3]
theorem run_equalIn_bool (d:Nat) {p q:Bool} (aD:P.underlying t=some .bool):(Op.equalIn (d+1) t (.bool p) (.bool q)).run P w= .ok (p == q) w:=by simp [Op.equalIn,aR0 aD]
theorem run_equal_bool {p q:Bool} (aD:P.underlying t=some .bool):(Op.equal t (.bool p) (.bool q)).run P w= .ok (p == q) w:=run_equalIn_bool 9999 aD
theorem aoy {u:TypeId} {p q:Bool} (aD:P.underlying t=some .bool) (hx:ev E x=some (.bool p)) (aK:ev E y=some (.bool q)):cN P E ⟨d, .binOp .neq t x y u,ty,pos,af,g⟩ w (.bool (p != q)) w:=fun n a ha=>by
 have:(eqGuard .neq t x y (.bool p) (.bool q)).run P w= .ok () w:=by cases x<;>cases y<;>rfl
 have ab:(binOp .neq t (.bool p) (.bool q)).run P w= .ok (.bool (p != q)) w:=by
  simp only [binOp,aQY,run_equal_bool aD,aQR,aQ3];rfl
 simp only [execOp,ha.ev hx,ha.ev aK,aQY,this,ab,aQR,aQ3]
theorem ED {u i:Value} (hx:ev E x=some u) (aK:ev E y=some i) (hr:(Instr.index t u i).run P w= .ok v w):cN P E ⟨d, .index t x y,ty,pos,af,g⟩ w v w:=fun n a ha=>by
 simp only [execOp,ha.ev hx,ha.ev aK,aQY,hr,aQR,aQ3]
theorem nR {k:IntKind} {i j:Int} {ts:Array TypeId} (hx:ev E x=some (.int k i)) (aK:ev E y=some (.int k j)):cN P E ⟨d, .call {callee:= .builtin .min,args:=#[x,y],argTypes:=ts},ty,pos,af,g⟩ w (.int k (min i j)) w :=
 bi (vs:= [.int k i, .int k j]) (by simp only [g_,hx,aK]) fun cs=>by
  have:=run_min_int2 (P:=P) (w:=w) ts ty k k i j;simp only [builtin,aQY,this,aQR,aQ3];congr 3;rw [Int.min_def];split<;>split<;>omega
theorem mx {k:IntKind} {i j:Int} {ts:Array TypeId} (hx:ev E x=some (.int k i)) (aK:ev E y=some (.int k j)):cN P E ⟨d, .call {callee:= .builtin .max,args:=#[x,y],argTypes:=ts},ty,pos,af,g⟩ w (.int k (max i j)) w :=
 bi (vs:= [.int k i, .int k j]) (by simp only [g_,hx,aK]) fun cs=>by
  have:=run_max_int2 (P:=P) (w:=w) ts ty k k i j;simp only [builtin,aQY,this,aQR,aQ3];congr 3;rw [Int.max_def];split<;>split<;>omega
end
open Tryz

section
variable {P:Program} {n:Nat} {E:List (Nat×Value)} {a:Act} {w w0:World} {Q:Exit→Act→World→Prop} {ops:Array Oper} {aZ:Nat→Nat}
def yZ (r:List Nat) (l:Array Bool):Array Bool:=match r with | []=>l | i::r=>yZ r (l.setIfInBounds i true)
def Ea (ops:Array Oper) (aZ:Nat→Nat):List Nat→Array Bool→Bool
 | [],_=>true
 | i::r,l=>(match aZ i with
   | 0=>Region.free .any ops l i && (Region.ready .any ops l).contains i && N1 ops aZ l i
   | 1=>Region.free .any ops l i && (Region.ready .any ops l).contains i
   | _=>false) && Ea ops aZ r (l.setIfInBounds i true)
def abv (ops:Array Oper) (aZ:Nat→Nat) (r:List Nat):Nat→List Nat→Array Bool→Bool
 | 0,R,l=>R.isEmpty && j4 ops aZ r l
 | f+1,R,l=> !(Region.ready .any ops l).isEmpty && (Region.ready .any ops l).all fun j=>R.contains j && Nat.beq (aZ j) 2 && abv ops aZ r f (R.erase j) (l.setIfInBounds j true)
theorem S1 (hs:Region.noSelect ops=true) (h1:∀ c a w,¬ Q (.panic c) a w) {p9:Exit→Act→World→Prop} {m:Nat}:∀ (r:List Nat) (l:Array Bool) (a:Act) (w0:World),l.size=ops.size→Ea ops aZ r l=true→uo P ops p9 aZ r a w0→
  (∀ a w0,(∀ w,Ext w0 w→p9 .normal a w)→Bw P ops Q aZ m (yZ r l) a w0)→Bw P ops Q aZ (r.length+m) l a w0
 | [],l,a,w0,_,_,h,dI=>by rw [aQX,aRQ];exact dI a w0 h
 | i::r,l,a,w0,az,bc,h,dI=>by
  rw [aQQ,aVt];obtain ⟨o,b1,h⟩:=h;have mZ:=aTv hs;rcases h with ⟨av,v,I,hK⟩ | ⟨av,v,I,hK⟩ | ⟨av,h⟩
  ·simp only [Ea,av,aQT] at bc;obtain ⟨⟨⟨hf,hr⟩,Φ⟩,bc⟩:=bc;obtain ⟨R,r1,r2,tZ⟩:=N2 az Φ;exact OZ b1 (by omega) mZ h1 (fun w0 a=>s8 P ops w0 o v a) (fun _ _ h=>h) (fun _ _ _ h he hw=>h.of_same he hw) (fun _ _ _ hx h=>h.on hx) R l r1 (.inr tZ) _ _ _ _ r2 (fun _ h=>h) (aSx b1 hf) (by simpa using hr) I
    (S1 hs h1 r _ _ _ (by simpa using az) bc hK dI)
  ·simp only [Ea,av,aQT] at bc;obtain ⟨⟨hf,hr⟩,bc⟩:=bc;exact OZ b1 (by omega) mZ h1 (fun _ a=>Yields P ops o v a) (fun _ _ h=>Yields.ajq h) (fun _ _ _ h he hw=>h.of_same he hw) (fun _ _ _ _ h=>h) (fun _=>true) l (fun _ _ _ _ _=>Z) (.inl fun _ _ _ h=>h) _ _ _ _ (fun _ _=>Z) (fun _ h=>h) (aSx b1 hf) (by simpa using hr) I
    (S1 hs h1 r _ _ _ (by simpa using az) bc hK dI)
  ·obtain ⟨k,fZ⟩:∃ k,aZ i=k+2:=⟨aZ i - 2,by omega⟩;simp only [Ea,fZ,Bool.false_and,aRr] at bc
theorem ek.jV {d:Nat} (h:ek n E a) (hf:look E d=Option.none) (v:Value):ek n E (a.put (some d) v):=by
 refine ⟨h.d,by simp [Act.put,h.s],fun t u hu=> ?_⟩;have fb:d≠t:=fun e=>by rw [e,hu] at hf;cases hf
 simp only [Act.put];rw [aSF fb];exact h.g t u hu
structure aGs (P:Program) (n:Nat) (ops:Array Oper) (Q:Exit→Act→World→Prop) (E:List (Nat×Value)) (w0:World) (i d:Nat) (Y_:Value→List Nat→World→Prop):Prop where
 mono:∀ v f w w',Y_ v f w→Ext w w'→Y_ v f w'
 free:look E d=none
 cG:Nat.blt d n=true
 run:∀ (a:Act) (w:World) (K:Act→World→Prop),ek n E a→Ext w0 w→(∀ v w' f,Ext w w'→(∀ q∈f,w.heap.size≤q∧q<w'.heap.size)→Y_ v f w'→K (a.put (some d) v) w')→wpOp P ops (gW (Q .normal)) i K a w
abbrev Made:=Nat×Nat×(Value→List Nat→World→Prop)
def aFr (P:Program) (ops:Array Oper) (Q:Exit→Act→World→Prop) (aZ:Nat→Nat) (B bZ:List Nat) (l:Array Bool):Exit→Act→World→Prop
 | .normal,a,w=>Region.noSelect ops=true→l.size=ops.size→abv ops aZ bZ B.length B l=true→Bw P ops (gW (Q .normal)) aZ (B.length+bZ.length) l a w
 | _,_,_=>False
theorem XY:∀ (r:List Nat) (l:Array Bool),(yZ r l).size=l.size
 | [],_=>rfl
 | i::r,l=>by unfold yZ;rw [XY r];simp
def ay0:List Nat→Bool
 | []=>true
 | x::r=> !r.elem x && ay0 r
variable {d i:Nat} {ty:TypeId} {pos:String} {af:Array Edge} {x y z:Operand} {t:TypeId} {v:Value}
def aGt (cs:List Value) (t:TypeId) (v:Value) (f:List Nat) (w:World):Prop:=∃ b,v= .pointer (some ⟨b,0,none⟩)∧f= [b]∧aQ w b cs t (0,0)
end
open Tryz

section
variable {P:Program} {n:Nat} {E cR:List (Nat×Value)} {a:Act} {w w' w0 aP:World} {Q:Exit→Act→World→Prop} {ops:Array Oper}
variable {d:Option Nat} {ty:TypeId} {pos:String} {af:Array Edge} {g:Option (Nat×Bool)} {x y z u:Operand} {t:TypeId} {rest:List Oper} {v:Value}
theorem Xb {i:Int} (hx:ev E x=some (.int .i64 i)) (h:IntKind.i64.wrap (-i)= -i):cN P E ⟨d, .unOp .neg t x,ty,pos,af,g⟩ w (.int .i64 (-i)) w:=fun n a ha=>by
 have:(execOp a.eval ⟨d, .unOp .neg t x,ty,pos,af,g⟩).run P w= .ok (.value (.int .i64 (IntKind.i64.wrap (-i)))) w:=by
  have aF:(0:Int) - i= -i:=Int.zero_sub i;have hu:(Op.unary .neg (.int .i64 i)).run P w= .ok (.int .i64 (IntKind.i64.wrap (-i))) w:=by
   show (Op.intArith .sub .i64 0 i).run P w=_;simp [Op.intArith,aF]
  simp only [execOp,ha.ev hx,aQY,hu,aQR,aQ3]
 rw [this,h]
theorem ayo {k:IntKind} {i j l m:Int} {ts:Array TypeId} (hx:ev E x=some (.int k i)) (aK:ev E y=some (.int k j)) (bB:ev E z=some (.int k l)) (hu:ev E u=some (.int k m)):cN P E ⟨d, .call {callee:= .builtin .max,args:=#[x,y,z,u],argTypes:=ts},ty,pos,af,g⟩ w (.int k (max (max (max i j) l) m)) w :=
 bi (vs:= [.int k i, .int k j, .int k l, .int k m]) (by simp only [g_,hx,aK,bB,hu]) fun cs=>by
  have e:∀ a b:Int,(if b > a then b else a)=max a b:=fun a b=>by rw [Int.max_def];split<;>split<;>omega
  have:(Builtin.max_ ts ty #[.int k i, .int k j, .int k l, .int k m]).run P w= .ok (.int k (max (max (max i j) l) m)) w:=by
   rw [← e,← e,← e];simp [Builtin.max_,Builtin.max2]
  simp only [builtin,aQY,this,aQR,aQ3]
end
def aag (e:MapEntry) (p:Int×Int):Prop:=e.key= .int .i64 p.1∧e.val= .int .i64 p.2
def o5 (w:World) (r:Nat) (l:List (Int×Int)):Prop:=∃ (es:Array MapEntry) (clock:Nat),w.heap[r]? =some (.map es clock)∧c0 aag es.toList l
def cJ (l:List (Int×Int)) (k:Int):Option Int:=(l.find? fun p=>p.1 == k).map (·.2)
section
variable {w w':World} {r:Nat} {l:List (Int×Int)} {S:List Nat}
theorem o5.lt (h:o5 w r l):r<w.heap.size:=by
 obtain ⟨es,c,γ,_⟩:=h;exact (aRl.1 γ).1
theorem o5.later (h:o5 w r l) (x:Ext w w'):o5 w' r l:=by
 have az:=h.lt;obtain ⟨es,c,γ,ab⟩:=h;exact ⟨es,c,by rw [x.block r az];exact γ,ab⟩
theorem o5.mod (h:o5 w r l) (m:Mod S w w') (hs:r∉S):o5 w' r l:=by
 have az:=h.lt;obtain ⟨es,c,γ,ab⟩:=h;exact ⟨es,c,by rw [m.block r az hs];exact γ,ab⟩
theorem Ur (k:Int):∀ {es:List MapEntry} {l:List (Int×Int)} (i:Nat),c0 aag es l→(cJ l k=none→Instr.findNow (.int .i64) (.int .i64 k) es i=some none)∧(∀ v,cJ l k=some v→∃ j,Instr.findNow (.int .i64) (.int .i64 k) es i=some (some (j, .int .i64 v)))
 | [], [],i,_=>⟨fun _=>rfl,fun v h=>by simp [cJ] at h⟩
 | e::es,p::l,i,h=>by
  obtain ⟨⟨av,hv⟩,ab⟩:=h;have bt:=Ur k (i+1) ab;have Ey:Instr.sameNow (.int .i64) (.int .i64 k) e.key=some (decide (k=p.1)):=by
   rw [av];obtain ⟨q,I,ar⟩:=MapKept.sameNow_of_keys (d:= .int .i64) (a:= .int .i64 k) (b:= .int .i64 p.1) rfl rfl;rw [I];cases q with
   | true=>have:=ar.1 rfl;injection this with _ this;rw [aRi this]
   | false=>rw [aRm fun e=>by have:=ar.2 (by rw [e]);cases this]
  by_cases he:k=p.1
  ·have Φ:(p.1 == k)=true:=by simp [he]
   rw [aRi he] at Ey;refine ⟨fun aF=>by simp [cJ,List.find?,Φ] at aF,fun v aF=>⟨i, ?_⟩⟩;have:p.2=v:=by simpa [cJ,List.find?,Φ] using aF
   simp [Instr.findNow,Ey,hv,this]
  ·have Φ:(p.1 == k)=false:=by simpa using fun e=>he e.symm
   rw [aRm he] at Ey;have aM:cJ (p::l) k=cJ l k:=by simp [cJ,List.find?,Φ]
   rw [aM];simpa [Instr.findNow,Ey] using bt
end
section
variable {P:Program} {n:Nat} {E cR:List (Nat×Value)} {a:Act} {w w' w0 aP:World} {Q:Exit→Act→World→Prop} {ops:Array Oper}
variable {d:Option Nat} {ty:TypeId} {pos:String} {af:Array Edge} {g:Option (Nat×Bool)} {x y z u:Operand} {t:TypeId} {rest:List Oper} {v:Value}
theorem W_ {d:Nat} (hd:Nat.blt d n=true) (h:∀ aP r,Ext w aP→w.heap.size≤r→o5 aP r []→cE P n ops Q rest ((d, .map (some r))::E) aP):cE P n ops Q (⟨some d, .makeMap t none,ty,pos,af,none⟩::rest) E w:=by
 refine h6 (w':=w.alloc (.map #[] 0)) (v:= .map (some w.heap.size)) (fun n a ha=> ?_) hd (h _ _ ((aRe _ w).alloc (aQW _) _) (aQW _) ⟨#[],0,(MapKept.heap_alloc w _).1,trivial⟩);simp only [execOp,Option.map,aQY,run_makeMap_plain,aQR,aQ3]
theorem lk {Lp OW:TypeId} {r:Nat} {l:List (Int×Int)} {k:Int} (hm:P.underlying t=some (.map Lp OW)) (av:P.underlying Lp=some (.int .i64)) (he:l_ P OW (.int .i64 0)) (h:o5 w r l) (hx:ev E x=some (.map (some r))) (aK:ev E y=some (.int .i64 k)):
  cN P E ⟨d, .lookup t x y true,ty,pos,af,g⟩ w (.tuple #[.int .i64 ((cJ l k).getD 0), .bool (cJ l k).isSome]) w:=fun n a ha=>by
 obtain ⟨es,c,γ,ab⟩:=h;have hf:=Ur k 0 ab;have Py:=aVW (P:=P) (w:=w) av (show MapKept.IsKey (.int .i64) (.int .i64 k) from rfl) es.isEmpty 9999;have jR:(Instr.lookup t (.map (some r)) (.int .i64 k) true).run P w= .ok (.tuple #[.int .i64 ((cJ l k).getD 0), .bool (cJ l k).isSome]) w:=by
  cases aM:cJ l k with
  | none =>
   have:=aUC (P:=P) (w:=w) av (hf.1 aM);simp [Instr.lookup,aQY,aR0 hm,aRH γ,Py,this,he w,Result.andThen]
  | some v =>
   obtain ⟨j,ay⟩:=hf.2 v aM;have:=aUC (P:=P) (w:=w) av ay;simp [Instr.lookup,aQY,aR0 hm,aRH γ,Py,this,Result.andThen]
 simp only [execOp,ha.ev hx,ha.ev aK,aQY,jR,aQR,aQ3]
theorem mu {Lp OW:TypeId} {r:Nat} {l:List (Int×Int)} {k v:Int} (hm:P.underlying t=some (.map Lp OW)) (av:P.underlying Lp=some (.int .i64)) (h:o5 w r l) (aM:cJ l k=none) (hx:ev E x=some (.map (some r))) (aK:ev E y=some (.int .i64 k)) (bB:ev E z=some (.int .i64 v))
  (hK:∀ aP,Mod [r] w aP→o5 aP r (l++ [(k,v)])→cE P n ops Q rest E aP):cE P n ops Q (⟨none, .mapUpdate t x y z,ty,pos,af,none⟩::rest) E w:=by
 have bA:=h.lt;obtain ⟨es,c,γ,ab⟩:=h;have hf:=(Ur k 0 ab).1 aM;have Py:=aVW (P:=P) (w:=w) av (show MapKept.IsKey (.int .i64) (.int .i64 k) from rfl) false 9999;have auR:=aUC (P:=P) (w:=w) av hf;have rr:=aR7 (P:=P) (.map (es.push {key:= .int .i64 k,val:= .int .i64 v,born:=c}) (c+1)) γ;refine us (w':= {w with heap:=w.heap.setIfInBounds r (.map (es.push {key:= .int .i64 k,val:= .int .i64 v,born:=c}) (c+1))}) (fun n a ha=> ?_) (hK _ ⟨Z,Z,Z,by simp,fun q I hn=> ?_⟩ ⟨es.push {key:= .int .i64 k,val:= .int .i64 v,born:=c},c+1,(MapKept.heap_set γ).1, ?_⟩)
 ·have jR:(Instr.mapUpdate t (.map (some r)) (.int .i64 k) (.int .i64 v)).run P w= .ok () {w with heap:=w.heap.setIfInBounds r (.map (es.push {key:= .int .i64 k,val:= .int .i64 v,born:=c}) (c+1))}:=by
   simp [Instr.mapUpdate,aQY,aR0 hm,aRH γ,Py,auR,rr,Result.andThen]
  simp only [execOp,ha.ev hx,ha.ev aK,ha.ev bB,aQY,jR,aQR,aQ3]
 ·exact (MapKept.heap_set γ).2 q (by simpa using hn)
 ·rw [Array.toList_push];exact ab.app ⟨⟨Z,Z⟩,trivial⟩
end
theorem ayp {w:World} {B e size c m:Nat} {G:Nat→Value→Prop} {z:Array Value} (bB:z.size=size) (aF:0<size) (bC:∀ (j:Nat) u,z[j]? =some u→G j u) (bc:B≤w.heap.size) (hm:m≤c) (hc:c≤maxLen):
  Own (w.alloc (.cells (madeCells z (c * size)) e)) B e size G (.slice (some ⟨w.heap.size,0,none⟩) m c) m ((madeCells z (c * size)).toList.take (m * size)):=by
 have avC:m * size≤c * size:=aRx _ hm;refine ⟨by rw [aQP,aSp,aUr];omega, .inr ⟨w.heap.size,c,_,rfl,bc,(MapKept.heap_alloc w _).1,hm,hc,aUr _ _,rfl,fun j u hu=> ?_⟩⟩;have bA:=(aRl.1 hu).1;simp only [madeCells,aUB] at hu;rw [aUr] at bA;rw [aUn,aQZ bA] at hu;have ay:j % size<z.size:=by rw [bB];exact aSK _ aF
 have e:z[j % z.size]! =z[j % size]:=by rw [bB];exact getElem!_pos z (j % size) ay
 rw [aSn,e] at hu;exact bC _ _ (by rw [Array.getElem?_eq_getElem ay];exact hu)
section
variable {P:Program} {n:Nat} {E cR:List (Nat×Value)} {a:Act} {w w' w0 aP:World} {Q:Exit→Act→World→Prop} {ops:Array Oper}
variable {d:Nat} {ty:TypeId} {pos:String} {af:Array Edge} {g:Option (Nat×Bool)} {x y z:Operand} {t:TypeId} {rest:List Oper}
theorem W2 {α:Type} {R:τ α} {e by_ B m c:Nat} {zv:Value} {l:List α} (ck:R.Plain) (aD:P.underlying t=some (.slice e)) (ar:(P.info? e).map (fun i=>(i.zero,i.size,i.bytes))=some (some zv,R.size,by_)) (γ:zv.cells.size=R.size) (ab:0<R.size) (aw:∀ (j:Nat) u,zv.cells[j]? =some u→R.raw j u)
  (hx:ev E x=some (.int .i64 (m:Int))) (aK:ev E y=some (.int .i64 (c:Int))) (hd:Nat.blt d n=true) (hm:m≤c) (Φ:c * by_≤140737488355328) (hc:c≤9223372036854775807) (bc:B≤w.heap.size) (az:l.length=m) {ess:List (List Value)} (auQ:∀ w,c0 (fun es a=>R.has w es a) ess l) (qi:ess.flatten=(madeCells zv.cells (c * R.size)).toList.take (m * R.size))
  (h:∀ aP b,Ext w aP→w.heap.size≤b→R.aG e by_ aP B (τ.ae (some ⟨b,0,none⟩)) (some ⟨b,0,none⟩) c l→cE P n ops Q rest ((d, .slice (some ⟨b,0,none⟩) m c)::E) aP):cE P n ops Q (⟨some d, .makeSlice t x y,ty,pos,af,none⟩::rest) E w:=by
 cases I:P.info? e with
 | none=>rw [I] at ar;cases ar
 | some i =>
  rw [I] at ar;simp only [aSn,aTL,aVh] at ar;obtain ⟨i1,i2,i3⟩:=ar;have bu:(i.bytes:Int) * (c:Int)≤281474976710656:=by
   have:i.bytes * c≤281474976710656:=by rw [i3,aR3];omega
   have h:((i.bytes * c:Nat):Int)≤281474976710656:=by omega
   rwa [Int.natCast_mul] at h
  have hr:=run_make (P:=P) w t e i zv aD I i1 .i64 .i64 (m:Int) (c:Int) (by omega) (by omega) bu (by omega);simp only [aRI] at hr;have b1:=ayp (w:=w) (e:=e) (c:=c) (m:=m) γ ab aw bc hm (by simp [maxLen];omega);rw [← qi] at b1;subst az;rw [i2] at hr;refine h6 (fun n a ha=> ?_) hd (h _ w.heap.size ((aRe _ w).alloc (aQW _) _) (aQW _) (τ.aG.yT (R:=R) ck (auQ _) (aRj (aRx _ hm) Φ) b1));simp only [execOp,ha.ev hx,ha.ev aK,aQY,hr,aQR,aQ3]
theorem Ql {α:Type} {R:τ α} {e by_ B c:Nat} {zv:Value} (ck:R.Plain) (aD:P.underlying t=some (.slice e)) (ar:(P.info? e).map (fun i=>(i.zero,i.size,i.bytes))=some (some zv,R.size,by_)) (γ:zv.cells.size=R.size) (ab:0<R.size) (aw:∀ (j:Nat) u,zv.cells[j]? =some u→R.raw j u)
  (hx:ev E x=some (.int .i64 0)) (aK:ev E y=some (.int .i64 (c:Int))) (hd:Nat.blt d n=true) (Φ:c * by_≤140737488355328) (hc:c≤9223372036854775807) (bc:B≤w.heap.size)
  (h:∀ aP b,Ext w aP→w.heap.size≤b→R.aG e by_ aP B (τ.ae (some ⟨b,0,none⟩)) (some ⟨b,0,none⟩) c ([]:List α)→cE P n ops Q rest ((d, .slice (some ⟨b,0,none⟩) 0 c)::E) aP):cE P n ops Q (⟨some d, .makeSlice t x y,ty,pos,af,none⟩::rest) E w :=
 W2 (m:=0) (l:=([]:List α)) (ess:= []) ck aD ar γ ab aw hx aK hd (aRE _) Φ hc bc rfl (fun _=>trivial) (by simp) h
theorem LC {α:Type} {R:τ α} {e by_ B c:Nat} {zv:Value} {q:α} (ck:R.Plain) (aD:P.underlying t=some (.slice e)) (ar:(P.info? e).map (fun i=>(i.zero,i.size,i.bytes))=some (some zv,R.size,by_)) (hs:R.size=1) (γ:zv.cells=#[zv]) (aw:∀ (j:Nat) u,zv.cells[j]? =some u→R.raw j u) (I:∀ w,R.has w [zv] q)
  (hx:ev E x=some (.int .i64 (c:Int))) (aK:ev E y=some (.int .i64 (c:Int))) (hd:Nat.blt d n=true) (Φ:c * by_≤140737488355328) (hc:c≤9223372036854775807) (bc:B≤w.heap.size)
  (h:∀ aP b,Ext w aP→w.heap.size≤b→R.aG e by_ aP B (τ.ae (some ⟨b,0,none⟩)) (some ⟨b,0,none⟩) c (List.replicate c q)→cE P n ops Q rest ((d, .slice (some ⟨b,0,none⟩) c c)::E) aP):cE P n ops Q (⟨some d, .makeSlice t x y,ty,pos,af,none⟩::rest) E w:=by
 refine W2 (m:=c) (ess:=List.replicate c [zv]) ck aD ar (by rw [γ,hs];rfl) (by omega) aw hx aK hd (aQW _) Φ hc bc (by simp) (fun w=> ?_) ?_ h
 ·clear h Φ hc hx aK;induction c with
  | zero=>trivial
  | succ c bt=>exact ⟨I w,bt⟩
 ·rw [hs,aTs,γ];apply aSm;intro i;simp only [aRq,aRT,madeCells,aUB,aUn];have a_:∀ k:Nat,(List.replicate k [zv]).flatten=List.replicate k zv:=fun k=>by
   induction k with
   | zero=>rfl
   | succ k bt=>simp [aVK,bt]
  rw [a_,aRW];split
  ·simp [Nat.mod_one]
  ·rfl
end
def e1 (A:Option Addr) (c lo s:Nat):Option Addr:=if c=lo then A else A.map (·.add (lo * s))
theorem Uw {β:Type} {size:Nat}:∀ (lo:Nat) {ess:List (List β)},(∀ x∈ess,x.length=size)→(ess.drop lo).flatten=ess.flatten.drop (lo * size)
 | 0,ess,_=>by simp
 | lo+1, [],_=>by simp
 | lo+1,x::ess,h=>by
  have hx:=h x aRa;rw [aVN,Uw lo fun y aK=>h y (aQ1 _ aK),aRB,aSq,aTW,← aU8];congr 1;rw [List.drop_append_of_le_length (by omega),aVw (by omega)];rfl
theorem O0 {β:Type} {size:Nat}:∀ (n:Nat) {ess:List (List β)},(∀ x∈ess,x.length=size)→(ess.take n).flatten=ess.flatten.take (n * size)
 | 0,ess,_=>by simp
 | n+1, [],_=>by simp
 | n+1,x::ess,h=>by
  have hx:=h x aRa;have e:(n+1) * size=size+n * size:=by rw [aSq,aTW]
  rw [aVI,aRB,O0 n fun y aK=>h y (aQ1 _ aK),aRB,e,aUS,hx,Nat.add_sub_cancel_left,aRb (by rw [hx];omega:x.length≤size+n * size)]
theorem c0.drop {α β:Type} {P:β→α→Prop}:∀ (n:Nat) {l:List β} {m:List α},c0 P l m→c0 P (l.drop n) (m.drop n)
 | 0,_,_,h=>h
 | n+1, [], [],_=>trivial
 | n+1,_::_,_::_,h=>c0.drop n h.2
theorem c0.take {α β:Type} {P:β→α→Prop}:∀ (n:Nat) {l:List β} {m:List α},c0 P l m→c0 P (l.take n) (m.take n)
 | 0,_,_,_=>trivial
 | n+1, [], [],_=>trivial
 | n+1,_::_,_::_,h=>⟨h.1,c0.take n h.2⟩
theorem τ.aI.sub {α:Type} {R:τ α} {by_ c:Nat} {A:Option Addr} {l:List α} {w:World} (h:R.aI by_ w A c l) (lo ar:Nat) (γ:lo≤ar) (ab:ar≤l.length):R.aI by_ w (e1 A c lo R.size) (c - lo) ((l.drop lo).take (ar - lo)):=by
 obtain ⟨g1,g2,g3,g4,ess,g5,g6⟩:=h;have hlen:((l.drop lo).take (ar - lo)).length=ar - lo:=by rw [aQP,aQ6];omega
 have hu:∀ x∈ess,x.length=R.size:=fun x hx=>by obtain ⟨a,ha⟩:=g5.left x hx;exact R.len ha
 refine ⟨by rw [hlen];omega,by omega,by rw [hlen];exact aRj (aRx _ (by omega)) g3,fun hn=> ?_,(ess.drop lo).take (ar - lo),(g5.drop lo).take _, ?_⟩
 ·unfold e1 at hn;split at hn
  ·omega
  ·cases A with
   | none=>have:=g4 rfl;omega
   | some a=>cases hn
 ·have awq:∀ x∈ess.drop lo,x.length=R.size:=fun x hx=>hu x (aUi hx);have G4:ess.length=l.length:=g5.length;rw [O0 _ awq,Uw _ hu,hlen];have qi:=z1 hu;refine ⟨?_,fun aF=> ?_⟩
  ·rw [aQP,aQ6,qi,G4,← Nat.sub_mul,aSd (aRx _ (by omega))]
  ·obtain ⟨b,o,rfl,hc⟩:=g6.2 (by omega);have fb:¬ c=lo:=by omega
   refine ⟨b,o+lo * R.size,by unfold e1;rw [aQV fb];simp [Addr.add],fun j u ay=> ?_⟩;rw [aRq] at ay;split at ay
   ·rw [aRR] at ay;rw [aTr];exact hc _ u ay
   ·cases ay
section
variable {P:Program} {n:Nat} {E cR:List (Nat×Value)} {w:World} {d:Option Nat} {ty:TypeId} {pos:String} {af:Array Edge} {g:Option (Nat×Bool)} {x y z:Operand} {t:TypeId}
theorem aBe {A:Option Addr} {len cap e s:Nat} {k k':IntKind} (lo ar:Nat) {i j:Int} (aD:P.underlying t=some (.slice e)) (hs:eF P e s) (hx:ev E x=some (.slice A len cap)) (aK:ev E y=some (.int k i)) (bB:ev E z=some (.int k' j)) (Aj:i=(lo:Int)) (Eu:j=(ar:Int)) (γ:lo≤ar) (ab:ar≤cap):
  cN P E ⟨d, .slice t x (some y) (some z) none,ty,pos,af,g⟩ w (.slice (e1 A cap lo s) (ar - lo) (cap - lo)) w:=fun n a ha=>by
 subst Aj;subst Eu;have la:P.underlying t=some (.slice (P.elem t)):=by simp [Program.elem,aD]
 have mC:P.elem t=e:=by simp [Program.elem,aD]
 have aw:=run_slice_lh (P:=P) (w:=w) t A len cap la k k' (lo:Int) (ar:Int) (by omega) (by omega) (by omega);have aX:=aTl (P:=P) (w:=w) t (.slice A len cap) (some (.int k (lo:Int))) (some (.int k' (ar:Int))) none la;rw [mC,hs w] at aw;simp only [execOp,ha.ev hx,ha.ev aK,ha.ev bB,Option.map,aX,aw,aQY,aQR,aQ3,sliced,aRI,e1]
end
open Tryz

section
variable {P:Program} {n:Nat} {E cR:List (Nat×Value)} {a:Act} {w w' w0 aP:World} {Q:Exit→Act→World→Prop} {ops:Array Oper}
variable {d:Option Nat} {ty:TypeId} {pos:String} {af:Array Edge} {g:Option (Nat×Bool)} {x y z:Operand} {t:TypeId} {rest:List Oper} {v:Value}
theorem aA8 {f:FuncId} (hf:Enters P f) {xs:Array Operand} {ts:Array TypeId} {args Jr:List Value} {a:Act} (ha:ek n E a) (hx:ev E x=some (.func (.func f) #[] Jr.toArray)) (he:g_ E xs.toList=some args):
  (execOp a.eval ⟨d, .call {callee:= .value x,args:=xs,argTypes:=ts},ty,pos,af,g⟩).run P w= .ok (.enter f (args++Jr).toArray) w:=by
 obtain ⟨fn,γ,ab,aw⟩:=hf;have hm:xs.map a.eval=args.toArray:=by rw [← ha.g_ he];apply aSh;simp
 have hp:Sem.run P program w= .ok P w:=rfl;unfold execOp;simp only [resolve,invoke,Deferred.ofValue,ha.ev hx,callFunc,aQY,aQ3,aQR,hm,hp,γ,ab,aw,aTE,aRr,aRZ];simp
theorem Oo {d:Nat} {f:FuncId} (hf:Enters P f) {xs:Array Operand} {ts:Array TypeId} {args Jr:List Value} (hx:ev E x=some (.func (.func f) #[] Jr.toArray)) (he:g_ E xs.toList=some args) (hd:Nat.blt d n=true)
  (h:Calls P f (args++Jr).toArray w fun e w'=>∃ v,e= .returned v∧cE P n ops Q rest ((d,v)::E) w'):cE P n ops Q (⟨some d, .call {callee:= .value x,args:=xs,argTypes:=ts},ty,pos,af,none⟩::rest) E w:=fun a ha=>by
 refine Ga Z ?_;unfold Oper.wp;rw [aA8 hf ha hx he];refine aUQ h fun e w' fM=> ?_;obtain ⟨v,rfl,h⟩:=fM;exact h _ (ha.put hd v)
theorem ne {fn:Func} {R:Ending→World→Prop} (h:T n (bodyPost P fn R) E w):N n (bodyPost P fn R) E w:=fun a ha=>h a ha
end
def Raw (aC size j:Nat) (w:World) (A:Option Addr) (c:Nat):Prop :=
 (A=none∧c=0)∨∃ (b:Nat) (cur:List Value) (e:TypeId),A=some ⟨b,0,none⟩∧aC≤b∧aQ w b cur e (0,0)∧∀ i,i<c→∃ m:Int,cur[i * size+j]? =some (.int .i64 m)
section
variable {w w':World} {aC size j c i:Nat} {A:Option Addr} {S:List Nat}
theorem Raw.later (h:Raw aC size j w A c) (x:Ext w w'):Raw aC size j w' A c:=by
 rcases h with h | ⟨b,cur,e,γ,ab,aw,aX⟩
 ·exact .inl h
 ·exact .inr ⟨b,cur,e,γ,ab,aw.later x,aX⟩
theorem Raw.bL (h:Raw aC size j w A c) (aF:0<c):A=some ⟨eM A,kb A,none⟩:=by
 rcases h with ⟨_,h⟩ | ⟨b,cur,e,rfl,_⟩
 ·omega
 ·rfl
theorem Raw.get (h:Raw aC size j w A c) (ar:i<c):∃ m:Int,w.cell? ⟨eM A,kb A+i * size+j,none⟩=some (.int .i64 m):=by
 rcases h with ⟨_,h⟩ | ⟨b,cur,e,rfl,_,aw,aX⟩
 ·omega
 ·obtain ⟨m,hm⟩:=aX i ar;exact ⟨m,by rw [show (⟨eM (some ⟨b,0,none⟩),kb (some ⟨b,0,none⟩)+i * size+j,none⟩:Addr)=⟨b,i * size+j,none⟩ from by simp [eM,kb],aw.cell,hm]⟩
end
open Tryz
end Go.Proofs.YtlikikpgmmkjbaaGreat
