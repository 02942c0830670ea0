import Derived.Test.YtmeeljmapailnaaGreatBas
import Derived.Test.YtmeeljmapailnaaGreatProg
import Derived.WideMake
set_option linter.unusedVariables false
set_option linter.unusedSimpArgs false
set_option maxRecDepth 100000
set_option maxHeartbeats 4000000
open Go.RowKit
namespace Go.Proofs.YtmeeljmapailnaaGreat
open Tryz
open Tryz
abbrev aRU:=@List.getD_eq_getElem?_getD
abbrev aR6:=@List.length_nil
abbrev aSj:=@List.mem_cons_self
abbrev aSw:=@decide_eq_true
abbrev aSF:=@decide_eq_false
abbrev aSR:=@Int.toNat_natCast
abbrev aS3:=@List.getElem?_replicate
abbrev aTx:=@Nat.succ_mul
abbrev aTC:=@Nat.lt_of_lt_of_le
abbrev aTM:=@Nat.min_eq_left
abbrev aTW:=@And.left
abbrev aTZ:=@Nat.le_of_ble_eq_true
abbrev aUk:=@of_decide_eq_false
abbrev aUv:=@Go.run_sliceAt_slice
abbrev aUy:=@Nat.add_assoc
abbrev aUP:=@Nat.mul_one
abbrev aUR:=@Nat.lt_succ_iff_lt_or_eq
abbrev aVa:=@Nat.eq_of_beq_eq_true
abbrev aVe:=@List.getElem?_toArray
abbrev aVj:=@List.mem_of_mem_drop
abbrev aVs:=@Go.size_madeCells
abbrev aVB:=@Go.MapKept.run_findKey
abbrev aVG:=@Nat.add_comm
abbrev aV1:=@Array.getD_eq_getD_getElem?
abbrev aWa:=@Array.getElem?_append_left
abbrev aWg:=@Prod.mk.injEq
abbrev aWj:=@List.getElem?_take_of_lt
abbrev aWr:=@Nat.ne_of_beq_eq_false
abbrev aWt:=@List.drop_of_length_le
abbrev aWC:=@Array.size_replicate
abbrev aWE:=@List.replicate_succ
abbrev aWH:=@List.drop_succ_cons
abbrev aWO:=@not_true_eq_false
abbrev aWS:=@Go.MapKept.run_checkKey

def fQ (n:Int):Prop:=(Lit.int .i64 n).wf=true
theorem bM {n:Int}:fQ n↔ -9223372036854775808≤n∧n≤9223372036854775807:=by
 unfold fQ;simp [Lit.wf,IntKind.min,IntKind.max,IntKind.signed,IntKind.bits]
def bQ:τ Int:=τ.flat 1 (fun n=> [.int .i64 n]) fQ (fun _ u=>∃ n:Int,u= .int .i64 n) (fun _=>rfl) (by intro a u hu;simp at hu;subst hu;rfl) (by
 intro a j u hu;cases j with
 | zero=>simp at hu;exact ⟨a,hu.symm⟩
 | succ j=>simp at hu)
def yt:τ Bool:=τ.flat 1 (fun n=> [.bool n]) (fun _=>True) (fun _ u=>∃ n:Bool,u= .bool n) (fun _=>rfl) (by intro a u hu;simp at hu;subst hu;rfl) (by
 intro a j u hu;cases j with
 | zero=>simp at hu;exact ⟨a,hu.symm⟩
 | succ j=>simp at hu)
def uT:τ ByteArray:=τ.VS 1 (fun n=> [.string n]) (fun s=>s.size≤140737488351232) (fun _ u=>∃ n:ByteArray,u= .string n∧n.size≤140737488351232) (fun _=>rfl) (by intro a u hu;simp at hu;subst hu;rfl) (by
 intro a ok j u hu;cases j with
 | zero=>simp at hu;exact ⟨a,hu.symm,ok⟩
 | succ j=>simp at hu)
theorem alj:bQ.Plain:=τ.o'
theorem aCs:uT.xe:=τ.aut
section
variable {by_:Nat} {w:World} {A:Option Addr} {c:Nat}
theorem Gw {l:List Int} (h:bQ.aJ by_ w A c l) (aG:0<l.length):∃ b o,A=some ⟨b,o,none⟩∧∀ (i:Nat) (a:Int),l[i]? =some a→w.cell? ⟨b,o+i,none⟩=some (.int .i64 a):=by
 obtain ⟨b,o,e,hc⟩:=h.at_ aG;refine ⟨b,o,e,fun i a ha=> ?_⟩;obtain ⟨es,⟨rfl,_⟩,az⟩:=hc i a ha;have:=az 0 _ rfl;simpa [bQ,τ.flat] using this
end
theorem Zb (w:World) (cs:List Value) (h:(.int .i64:gQ).jw w cs):∃ a,bQ.has w cs a:=by
 obtain ⟨n,rfl,hn⟩:=h;exact ⟨n,Z,hn⟩
theorem Jd {by_:Nat} {w:World} {A:Option Addr} {c:Nat} {l:List Int} (h:bQ.aJ by_ w A c l):∀ a∈l,fQ a:=τ.aJ.ze (R:=bQ) (Q:=fQ) (fun {w cs a} (h:bQ.has w cs a)=>(show cs= [.int .i64 a]∧fQ a from h).2) h
theorem DQ:(prog.info? 3).map (fun i=>(i.zero,i.size,i.bytes))=some (some (.int .i64 0),1,8):=by kernel_rfl
theorem iM {α:Type} {l:List α} {i:Nat} (h:i<l.length):∃ a,l[i]? =some a:=⟨_,aRX h⟩
open Tryz
theorem aFP:∀ (j:Nat) u,(Value.int .i64 0).cells[j]? =some u→bQ.raw j u:=by
 intro j u hu;have hu:(#[Value.int .i64 0]:Array Value)[j]? =some u:=hu
 match j,hu with
 | 0,hu=>exact ⟨0,(aRV hu).symm⟩
 | j+1,hu=>cases hu
open Tryz

abbrev Env:=List (Nat×Value)
def look:List (Nat×Value)→Nat→Option Value
 | [],_=>none
 | (k,v)::r,t=>match Nat.beq k t with | true=>some v | false=>look r t
structure ep (n:Nat) (E:List (Nat×Value)) (a:Act):Prop where
 d:a.defers= []
 s:a.tmps.size=n
 g:∀ t v,look E t=some v→a.tmps[t]? =some v
def ev (E:List (Nat×Value)):Operand→Option Value
 | .tmp t=>look E t
 | .const v=>some v
 | .global g=>some (.pointer (some ⟨g,0,none⟩))
 | .func f=>some (.func (.func f) #[] #[])
def hU (E:List (Nat×Value)):List Operand→Option (List Value)
 | []=>some []
 | x::r=>match ev E x with
  | some v=>match hU E r with
   | some l=>some (v::l)
   | none=>none
  | none=>none
section
variable {P:Program} {n:Nat} {E cU:List (Nat×Value)} {a:Act} {w w' aT:World} {Q:Exit→Act→World→Prop} {ops:Array Oper} {v:Value}
theorem ep.ev {x:Operand} (h:ep n E a) (hx:ev E x=some v):a.eval x=v:=by
 cases x with
 | tmp t=>have:=h.g t v hx;simp [Act.eval,this]
 | const u=>exact aRV hx
 | global g=>exact aRV hx
 | func f=>exact aRV hx
theorem ep.hU (h:ep n E a):∀ {l:List Operand} {vs:List Value},hU E l=some vs→l.map a.eval=vs
 | [],_,e=>by simp only [Proofs.YtmeeljmapailnaaGreat.hU] at e;exact aRV e
 | x::r,vs,e=>by
  simp only [Proofs.YtmeeljmapailnaaGreat.hU] at e;cases hx:Proofs.YtmeeljmapailnaaGreat.ev E x with
  | none=>rw [hx] at e;cases e
  | some v =>
   rw [hx] at e;simp only at e;cases hr:Proofs.YtmeeljmapailnaaGreat.hU E r with
   | none=>rw [hr] at e;cases e
   | some l =>
    rw [hr] at e;simp only at e;obtain rfl:=aRV e;rw [aSB,h.ev hx,ep.hU h hr]
theorem ep.put {d:Nat} (h:ep n E a) (hd:Nat.blt d n=true) (v:Value):ep n ((d,v)::E) (a.put (some d) v):=by
 rw [aVw] at hd;refine ⟨h.d,by simp [Act.put,h.s],fun t u hu=> ?_⟩;simp only [look] at hu;cases Φ:Nat.beq d t with
 | true =>
  rw [Φ] at hu;obtain rfl:d=t:=aVa Φ;obtain rfl:=aRV hu;simp [Act.put,h.s,hd]
 | false =>
  rw [Φ] at hu;have fl:d≠t:=aWr Φ;simp only [Act.put];rw [aTP fl];exact h.g t u hu
theorem ep.none (h:ep n E a) (v:Value):ep n E (a.put none v):=h
def Sub (cU E:List (Nat×Value)):Prop:=∀ t v,look cU t=some v→look E t=some v
theorem Sub.nil:Sub [] E:=fun t v h=>by simp [look] at h
theorem Sub.cons {k:Nat} (h:look E k=some v) (hs:Sub cU E):Sub ((k,v)::cU) E:=fun t u hu=>by
 simp only [look] at hu;cases Φ:Nat.beq k t with
 | true=>rw [Φ] at hu;obtain rfl:k=t:=aVa Φ;obtain rfl:=aRV hu;exact h
 | false=>rw [Φ] at hu;exact hs t u hu
theorem ep.sub (h:ep n E a) (hs:Sub cU E):ep n cU a:=⟨h.d,h.s,fun t v hv=>h.g t v (hs t v hv)⟩
def W (P:Program) (n:Nat) (c:Code) (Q:Exit→Act→World→Prop) (E:List (Nat×Value)) (w:World):Prop:=∀ a,ep n E a→c.wp P Q a w
def N (n:Nat) (Q:Exit→Act→World→Prop) (E:List (Nat×Value)) (w:World):Prop:=∀ a,ep n E a→Q .normal a w
def X (n:Nat) (Q:Exit→Act→World→Prop) (id:Nat) (E:List (Nat×Value)) (w:World):Prop:=∀ a,ep n E a→Q (.exit id) a w
def T (n:Nat) (Q:Exit→Act→World→Prop) (E:List (Nat×Value)) (w:World):Prop:=∀ a,ep n E a→Q .ret a w
def cK (P:Program) (n:Nat) (ops:Array Oper) (Q:Exit→Act→World→Prop) (l:List Oper) (E:List (Nat×Value)) (w:World):Prop:=∀ a,ep n E a→wpList P ops Q l a w
abbrev rH (P:Program) (y:Code) (Q:Exit→Act→World→Prop):Exit→Act→World→Prop:=Exit.then (fun a w=>y.wp P Q a w) Q
theorem aA {x y:Code} (h:W P n x (rH P y Q) E w):W P n (.seq x y) Q E w:=fun a ha=>wp_seq (h a ha)
theorem fI (h:N n Q E w):W P n .skip Q E w:=fun a ha=>wp_skip (h a ha)
theorem rt (h:T n Q E w):W P n .ret Q E w:=fun a ha=>wp_ret (h a ha)
theorem dw {id:Nat} (h:X n Q id E w):W P n (.exit id) Q E w:=fun a ha=>wp_exit (h a ha)
theorem bL {id:Nat} {c:Code} (h:W P n c (Exit.inBlock id Q) E w):W P n (.block id c) Q E w:=fun a ha=>wp_block (h a ha)
theorem rg {id:Nat} {l:List Oper} (h:cK P n l.toArray Q l E w):W P n (.region id l.toArray false) Q E w:=fun a ha=>wp_region_lit (h a ha)
theorem fi {c:Operand} {x y:Code} (hc:ev E c=some (.bool true)) (h:W P n x Q E w):W P n (.cond c x y) Q E w:=fun a ha=>wp_cond_true (ha.ev hc) (h a ha)
theorem gZ {c:Operand} {x y:Code} (hc:ev E c=some (.bool false)) (h:W P n y Q E w):W P n (.cond c x y) Q E w:=fun a ha=>wp_cond_false (ha.ev hc) (h a ha)
theorem UQ {c:Operand} {x y:Code} (b:Bool) (hc:ev E c=some (.bool b)) (κ:b=true→W P n x Q E w) (ab:b=false→W P n y Q E w):W P n (.cond c x y) Q E w :=
 fun a ha=>wp_cond_split (ha.ev hc) (fun h=>κ h a ha) (fun h=>ab h a ha)
theorem ed {c:Operand} {x y:Code} {b:Bool} (hc:ev E c=some (.bool b)) (κ:b=true→W P n x Q E w) (ab:b=false→W P n y Q E w):W P n (.cond c x y) Q E w:=UQ b hc κ ab
theorem nl (h:N n Q E w):cK P n ops Q [] E w:=h
theorem aU {y:Code} (h:W P n y Q E w):N n (rH P y Q) E w:=h
theorem bY {id:Nat} (h:N n Q E w):N n (Exit.inBlock id Q) E w:=h
theorem du {y:Code} {id:Nat} (h:X n Q id E w):X n (rH P y Q) id E w:=h
theorem dN {K:Act→World→Prop} {id:Nat} (h:X n Q id E w):X n (Exit.then K Q) id E w:=h
theorem dt {id:Nat} (h:N n Q E w):X n (Exit.inBlock id Q) id E w:=fun a ha=>by simp only [Exit.inBlock,aTG];exact h a ha
theorem N2 {id Ro:Nat} (fl:Nat.beq Ro id=false) (h:X n Q Ro E w):X n (Exit.inBlock id Q) Ro E w:=fun a ha=>by simp only [Exit.inBlock,aR5 (aWr fl)];exact h a ha
theorem bT {y:Code} (h:T n Q E w):T n (rH P y Q) E w:=h
theorem nZ {K:Act→World→Prop} (h:T n Q E w):T n (Exit.then K Q) E w:=h
theorem e_ {id:Nat} (h:T n Q E w):T n (Exit.inBlock id Q) E w:=h
def C6:Nat→List Value→List (Nat×Value)
 | _, []=> []
 | i,v::r=>(i,v)::C6 (i+1) r
theorem Ut:∀ (l:List Value) (i t:Nat) (v:Value),look (C6 i l) t=some v→∃ j,t=i+j∧l[j]? =some v
 | [],_,_,_,h=>by simp [C6,look] at h
 | u::r,i,t,v,h=>by
  simp only [C6,look] at h;cases Φ:Nat.beq i t with
  | true=>rw [Φ] at h;exact ⟨0,by have:=aVa Φ;omega,by simpa using h⟩
  | false =>
   rw [Φ] at h;obtain ⟨j,e,az⟩:=Ut r (i+1) t v h;exact ⟨j+1,by omega,by simpa using az⟩
theorem cl {f:FuncId} {fn:Func} {c:Code} {l:List Value} {R:Ending→World→Prop} (hf:P.funcs[f]? =some fn) (Φ:fn.body=some c) (hn:fn.ntmps=n) (ay:Nat.ble l.length n=true)
  (h:W P n c (bodyPost P fn R) (C6 0 l) w):Calls P f l.toArray w R:=by
 refine calls_of_wp hf Φ (h _ ⟨Z, ?_,fun t v hv=> ?_⟩)
 ·have:=aTZ ay;simp only [aVN,aWC,hn,aTs];omega
 ·obtain ⟨j,e,az⟩:=Ut l 0 t v hv;have bz:=(aRW.1 az).1;rw [aWa (by simp;omega)];simpa [show t=j by omega] using az
inductive xn (P:Program) (E:List (Nat×Value)) (w:World):List ResultVar→List Value→Prop
 | nil:xn P E w [] []
 | tmp {t:Nat} {v:Value} {r:List ResultVar} {vs:List Value} (h:look E t=some v) (hr:xn P E w r vs):xn P E w (.tmp t::r) (v::vs)
 | cell {t:Nat} {ty:TypeId} {p:Addr} {v:Value} {r:List ResultVar} {vs:List Value} (h:look E t=some (.pointer (some p))) (ay:(loadVar ty p).run P w= .ok v w) (hr:xn P E w r vs):xn P E w (.cell t ty::r) (v::vs)
def uW:List Value→Value
 | [v]=>v
 | vs=> .tuple vs.toArray
theorem xn.run {l:List ResultVar} {vs:List Value} (h:xn P E w l vs) (ha:ep n E a) (f:ResultVar→Sem Value) (f1:∀ t,f (.tmp t)=pure (a.tmps.getD t undef)) (f2:∀ c t,f (.cell c t)=(asAddr (a.tmps.getD c undef)>>= fun p=>loadVar t p)):
  (l.mapM f).run P w= .ok vs w:=by
 induction h with
 | nil=>rfl
 | @tmp t v r vs h hr bx =>
  have ab:a.tmps.getD t undef=v:=by rw [aV1,ha.g _ _ h];rfl
  simp only [List.mapM_cons,aSc,f1,ab,aSe,aR3,bx]
 | @cell t ty p v r vs h ay hr bx =>
  have ab:a.tmps.getD t undef= .pointer (some p):=by rw [aV1,ha.g _ _ h];rfl
  simp only [List.mapM_cons,aSc,f2,ab,asAddr,aSe,aR3,ay,bx]
theorem Zh {fn:Func} {vs:List Value} (h:xn P E w fn.results.toList vs) (ha:ep n E a):(results fn a.tmps).run P w= .ok (uW vs) w:=by
 unfold results;rw [Array.mapM_eq_mapM_toList];simp only [aSc,Sem.run_map];rw [h.run ha _ (fun _=>rfl) (fun _ _=>rfl)]
 match vs with
 | []=>rfl
 | [v]=>rfl
 | _::_::_=>simp [uW]
theorem bd {fn:Func} {R:Ending→World→Prop} {vs:List Value} (h:xn P E w fn.results.toList vs) (hR:R (.returned (uW vs)) w):T n (bodyPost P fn R) E w :=
 fun a ha=>⟨ha.d,_,Zh h ha,hR⟩
def O0 (n:Nat) (kY:Nat→List (Nat×Value)→World→Prop) (m:Nat):Act→World→Prop:=fun a w=>∃ m',m'<m∧∃ cU,kY m' cU w∧ep n cU a
theorem eL {c:Code} (kY:Nat→List (Nat×Value)→World→Prop) (m:Nat) (cU:List (Nat×Value)) (aG:kY m cU w) (hs:Sub cU E)
  (round:∀ m E w,kY m E w→W P n c (Exit.then (O0 n kY m) Q) E w):W P n (.loop c) Q E w:=fun a ha=>by
 intro b k cs;have key:∀ m a w,(∃ E,kY m E w∧ep n E a)→∃ e a' w',Q e a' w'∧Arrives P (lone (b.at a (.code c:: .inLoop c::k)) cs w) b k cs e a' w':=by
  intro m;induction m using Nat.strongRecOn with
  | _ m bx =>
   intro a w ⟨E,qU,ha⟩;obtain ⟨e,ck,aT,I,p5⟩:=round m E w qU a ha b (.inLoop c::k) cs;cases e with
   | normal =>
    obtain ⟨m',bz,Wm⟩:=I;obtain ⟨bh,a2,cB,xU,WQ⟩:=bx m' bz ck aT Wm;exact ⟨bh,a2,cB,xU, .of_steps (Steps.trans p5 (.one step_inLoop)) WQ⟩
   | exit id=>exact ⟨_,ck,aT,I, .pass (x:= .inLoop c) rfl (fun _ _=> .inl (by simp)) p5⟩
   | goto l=>exact ⟨_,ck,aT,I, .pass (x:= .inLoop c) rfl (fun _ _=> .inl (by simp)) p5⟩
   | ret=>exact ⟨_,ck,aT,I, .pass (x:= .inLoop c) rfl (fun _ _=> .inl (by simp)) p5⟩
   | panic aq6=>exact ⟨_,ck,aT,I, .pass (x:= .inLoop c) rfl (fun _ _=> .inl (by simp)) p5⟩
   | outgrown=>exact ⟨_,ck,aT,I, .pass (x:= .inLoop c) rfl (fun _ _=> .inl (by simp)) p5⟩
 obtain ⟨e,a',w',I,p5⟩:=key m a w ⟨cU,aG,ha.sub hs⟩;exact ⟨e,a',w',I, .of_steps (.one step_loop) p5⟩
theorem c9 {kY:Nat→List (Nat×Value)→World→Prop} {m:Nat} (m':Nat) (cU:List (Nat×Value)) (h:kY m' cU w) (hm:m'<m) (hs:Sub cU E):N n (Exit.then (O0 n kY m) Q) E w :=
 fun a ha=>⟨m',hm,cU,h,ha.sub hs⟩
variable {d:Option Nat} {ty:TypeId} {pos:String} {af:Array Edge} {g:Option (Nat×Bool)} {x y z:Operand} {t:TypeId} {rest:List Oper}
def cW (P:Program) (E:List (Nat×Value)) (o:Oper) (w:World) (v:Value) (w':World):Prop:=∀ n a,ep n E a→(execOp a.eval o).run P w= .ok (.value v) w'
def api (P:Program) (E:List (Nat×Value)) (o:Oper) (w w':World):Prop:=∀ n a,ep n E a→(execOp a.eval o).run P w= .ok .skip w'
theorem Hv {o:Oper} (aO:o.guard=none) {a:Act} (h:o.wp P a w (wpList P ops Q rest) Q):wpList P ops Q (o::rest) a w:=by
 unfold wpList;rw [aR8 (by simp [Region.wanted,aO])];exact .inl h
theorem iT {d:Nat} {op:Op} (hr:cW P E ⟨some d,op,ty,pos,af,none⟩ w v w') (hd:Nat.blt d n=true) (h:cK P n ops Q rest ((d,v)::E) w'):cK P n ops Q (⟨some d,op,ty,pos,af,none⟩::rest) E w:=fun a ha=>by
 refine Hv Z ?_;unfold Oper.wp;rw [hr n a ha];exact h _ (ha.put hd v)
theorem us {op:Op} (hr:api P E ⟨none,op,ty,pos,af,none⟩ w w') (h:cK P n ops Q rest E w'):cK P n ops Q (⟨none,op,ty,pos,af,none⟩::rest) E w:=fun a ha=>by
 refine Hv Z ?_;unfold Oper.wp;rw [hr n a ha];exact h _ ha
def Enters (P:Program) (f:FuncId):Prop:=∃ fn,P.funcs[f]? =some fn∧(fn.name == "runtime.NumGoroutine")=false∧fn.body.isNone=false
theorem Nu {f:FuncId} (hf:Enters P f) {xs:Array Operand} {ts:Array TypeId} {args:List Value} {a:Act} (ha:ep n E a) (he:hU E xs.toList=some args):
  (execOp a.eval ⟨d, .call {callee:= .value (.func f),args:=xs,argTypes:=ts},ty,pos,af,g⟩).run P w= .ok (.enter f args.toArray) w:=by
 obtain ⟨fn,κ,ab,aw⟩:=hf;have hm:xs.map a.eval=args.toArray:=by rw [← ha.hU he];apply aTq;simp
 exact alq f fn κ ab aw xs ts Z _ hm
theorem ca {d:Nat} {f:FuncId} (hf:Enters P f) {xs:Array Operand} {ts:Array TypeId} {args:List Value} (he:hU E xs.toList=some args) (hd:Nat.blt d n=true)
  (h:Calls P f args.toArray w fun e w'=>∃ v,e= .returned v∧cK P n ops Q rest ((d,v)::E) w'):cK P n ops Q (⟨some d, .call {callee:= .value (.func f),args:=xs,argTypes:=ts},ty,pos,af,none⟩::rest) E w:=fun a ha=>by
 refine Hv Z ?_;unfold Oper.wp;rw [Nu hf ha he];refine aVP h fun e w' fV=> ?_;obtain ⟨v,rfl,h⟩:=fV;exact h _ (ha.put hd v)
theorem aK (hx:ev E x=some v):cW P E ⟨d, .move x,ty,pos,af,g⟩ w v w:=fun n a ha=>by simp only [execOp,ha.ev hx];rfl
theorem fF (hx:ev E x=some v):cW P E ⟨d, .assign x,ty,pos,af,g⟩ w v w:=fun n a ha=>by simp only [execOp,ha.ev hx];rfl
theorem ex {l:List Value} {k:Nat} (hx:ev E x=some (.tuple l.toArray)) (ar:l[k]? =some v):cW P E ⟨d, .extract x k,ty,pos,af,g⟩ w v w:=fun n a ha=>by
 simp only [execOp,ha.ev hx,Instr.extract,aVe,ar];rfl
theorem b0 {p:Addr} (hx:ev E x=some (.pointer (some p))):cW P E ⟨d, .nilCheck x,ty,pos,af,g⟩ w (.pointer (some p)) w:=fun n a ha=>by simp only [execOp,ha.ev hx];rfl
theorem dV {b:Bool} (hx:ev E x=some (.bool b)):cW P E ⟨d, .unOp .not t x,ty,pos,af,g⟩ w (.bool !b) w:=fun n a ha=>by
 simp only [execOp,ha.ev hx];cases b<;>rfl
theorem ra {v:Value} (hx:ev E x=some (.bool true)) (aI:ev E y=some v):cW P E ⟨d, .pick x y z,ty,pos,af,g⟩ w v w:=fun n a ha=>by
 simp only [execOp,ha.ev hx,ha.ev aI];rfl
theorem sw {v:Value} (hx:ev E x=some (.bool false)) (bC:ev E z=some v):cW P E ⟨d, .pick x y z,ty,pos,af,g⟩ w v w:=fun n a ha=>by
 simp only [execOp,ha.ev hx,ha.ev bC];rfl
def ix (c:Bool) (v:Value):Value:=if c=true then v else undef
theorem gt {c:Bool} (hc:c=true) (h:ev E x=some (ix c v)):ev E x=some v:=by rw [h,hc];rfl
theorem fB {b c q:Bool} (hx:ev E x=some (.bool b)) (aI:ev E y=some (.bool true)) (I:(b == false)=q) (bC:ev E z=some (ix q (.bool c))):cW P E ⟨d, .pick x y z,ty,pos,af,g⟩ w (.bool (b || c)) w:=fun n a ha=>by
 subst I;simp only [execOp,ha.ev hx,ha.ev aI,ha.ev bC];cases b<;>rfl
theorem eN {b c q:Bool} (hx:ev E x=some (.bool b)) (bC:ev E z=some (.bool false)) (I:(b == true)=q) (aI:ev E y=some (ix q (.bool c))):cW P E ⟨d, .pick x y z,ty,pos,af,g⟩ w (.bool (b && c)) w:=fun n a ha=>by
 subst I;simp only [execOp,ha.ev hx,ha.ev aI,ha.ev bC];cases b<;>rfl
section
variable {k k':IntKind} {i j:Int} {u:TypeId}
theorem pz {op:BinOp} {s:Sem Value} (hx:ev E x=some (.int k i)) (aI:ev E y=some (.int k' j)) (h:binOp op t (.int k i) (.int k' j)=s) (hr:s.run P w= .ok v w):cW P E ⟨d, .binOp op t x y u,ty,pos,af,g⟩ w v w:=fun n a ha=>by
 simp only [execOp,ha.ev hx,ha.ev aI,eqGuard_at_int,h,aSc,aSe,aR3,hr]
theorem bad (hx:ev E x=some (.int k i)) (aI:ev E y=some (.int k j)) (h:k.wrap (i+j)=i+j):cW P E ⟨d, .binOp .add t x y u,ty,pos,af,g⟩ w (.int k (i+j)) w:=pz hx aI (binOp_add t k i j) (by simp [Op.intArith,h])
theorem mJ (hx:ev E x=some (.int k i)) (aI:ev E y=some (.int k j)) (h:k.wrap (i - j)=i - j):cW P E ⟨d, .binOp .sub t x y u,ty,pos,af,g⟩ w (.int k (i - j)) w:=pz hx aI (binOp_sub t k i j) (by simp [Op.intArith,h])
theorem C8 (hx:ev E x=some (.int k i)) (aI:ev E y=some (.int k j)) (h:k.wrap (i * j)=i * j):cW P E ⟨d, .binOp .mul t x y u,ty,pos,af,g⟩ w (.int k (i * j)) w:=pz hx aI (binOp_mul t k i j) (by simp [Op.intArith,h])
theorem aql (hx:ev E x=some (.int k i)) (aI:ev E y=some (.int k j)):cW P E ⟨d, .binOp .sub t x y u,ty,pos,af,g⟩ w (.int k (k.wrap (i - j))) w:=pz hx aI (binOp_sub t k i j) (by simp [Op.intArith])
theorem blt (hx:ev E x=some (.int k i)) (aI:ev E y=some (.int k j)):cW P E ⟨d, .binOp .lss t x y u,ty,pos,af,g⟩ w (.bool (decide (i<j))) w:=pz hx aI (binOp_lss t k i j) rfl
theorem ble (hx:ev E x=some (.int k i)) (aI:ev E y=some (.int k j)):cW P E ⟨d, .binOp .leq t x y u,ty,pos,af,g⟩ w (.bool (decide (i≤j))) w:=pz hx aI (binOp_leq t k i j) rfl
theorem iJ (hx:ev E x=some (.int k i)) (aI:ev E y=some (.int k j)):cW P E ⟨d, .binOp .gtr t x y u,ty,pos,af,g⟩ w (.bool (decide (j<i))) w:=pz hx aI (binOp_gtr t k i j) rfl
theorem ks (hx:ev E x=some (.int k i)) (aI:ev E y=some (.int k j)):cW P E ⟨d, .binOp .geq t x y u,ty,pos,af,g⟩ w (.bool (decide (j≤i))) w:=pz hx aI (binOp_geq t k i j) rfl
theorem beq (hx:ev E x=some (.int k i)) (aI:ev E y=some (.int k j)):cW P E ⟨d, .binOp .eql t x y u,ty,pos,af,g⟩ w (.bool (i == j)) w:=pz hx aI (binOp_eql t k i j) rfl
theorem bne (hx:ev E x=some (.int k i)) (aI:ev E y=some (.int k j)):cW P E ⟨d, .binOp .neq t x y u,ty,pos,af,g⟩ w (.bool (i != j)) w:=pz hx aI (binOp_neq t k i j) rfl
end
def eI (P:Program) (t:TypeId) (k:Nat):Prop:=∀ w,(sizeOf t).run P w= .ok k w
def eB (P:Program) (t:TypeId) (b:Bool):Prop:=∀ w,(isAgg t).run P w= .ok b w
def mH (P:Program) (t:TypeId) (v:Value):Prop:=∀ w,(zeroValue t).run P w= .ok v w
def Fd (P:Program) (t:TypeId) (i off:Nat):Prop:=∀ w g o,(Instr.fieldAt t (.pointer (some ⟨g,o,none⟩)) i).run P w= .ok (.pointer (some ⟨g,o+off,none⟩)) w
section
variable {b o k:Nat} {cs:List Value}
theorem av {i off:Nat} (hf:Fd P t i off) (hx:ev E x=some (.pointer (some ⟨b,o,none⟩))):cW P E ⟨d, .fieldAddr t x i,ty,pos,af,g⟩ w (.pointer (some ⟨b,o+off,none⟩)) w:=fun n a ha=>by
 simp only [execOp,ha.ev hx,aSc,hf w b o,aR3,aSe]
theorem Mp {e:TypeId} {size len cap:Nat} {XV:IntKind} {i:Int} (j:Nat) (aC:P.underlying t=some (.slice e)) (hs:eI P e size) (hx:ev E x=some (.slice (some ⟨b,o,none⟩) len cap)) (aq:ev E y=some (.int XV i)) (az:i=(j:Int)) (bz:j<len):
  cW P E ⟨d, .indexAddr t x y,ty,pos,af,g⟩ w (.pointer (some ⟨b,o+j * size,none⟩)) w:=fun n a ha=>by
 subst az;simp only [execOp,ha.ev hx,ha.ev aq,Instr.indexAt,asIntOf,aSc,aSe,aR3,aTa aC];rw [aR8 ⟨by omega,by omega⟩];simp only [aSc,hs w,aR3,aSe,aSR,Hy]
def lK (P:Program) (w:World) (t:TypeId) (p:Addr) (v:Value):Prop:=(loadVar t p).run P w= .ok v w
theorem lK.one {p:Addr} (aC:eB P t false) (h:w.cell? p=some v):lK P w t p v:=by
 unfold lK loadVar;simp only [aSc,aC w,aR3,aSG,aTm,run_load,h]
theorem lK.agg (aC:eB P t true) (hs:eI P t cs.length) (h:∀ j v,cs[j]? =some v→w.cell? ⟨b,o+j,none⟩=some v):lK P w t ⟨b,o,none⟩ (.agg cs.toArray):=by
 unfold lK loadVar;simp only [aSc,aC w,aR3,aTG,hs w,run_loadCells_list w ⟨b,o,none⟩ cs (fun j v az=>by rw [Hy];exact h j v az),aSe]
theorem ao {p:Addr} (hx:ev E x=some (.pointer (some p))) (h:lK P w t p v):cW P E ⟨d, .load t x,ty,pos,af,g⟩ w v w:=fun n a ha=>by
 unfold lK at h;simp only [execOp,ha.ev hx,Instr.loadAt,Instr.sureAddr,aSc,aSe,aR3,h]
theorem aP.one {p:Nat} {cur:List Value} {e:TypeId} {aB:Nat×Nat} (h:aP w b cur e aB) (aC:eB P t false) (hv:cur[p]? =some v):lK P w t ⟨b,p,none⟩ v:=lK.one aC (by rw [h.cell,hv])
theorem aP.agg {p:Nat} {cur:List Value} {e:TypeId} {aB:Nat×Nat} (h:aP w b cur e aB) (aC:eB P t true) (hs:eI P t cs.length) (hv:(cur.drop p).take cs.length=cs):lK P w t ⟨b,p,none⟩ (.agg cs.toArray):=
 lK.agg aC hs fun j v az=>by
  rw [h.cell,← az];have ay:=(aRW.1 az).1
  conv=>rhs;rw [← hv]
  rw [aWj ay,aS0]
theorem cA {op:Op} {d:Nat} {cs:List Value} (wj:op= .box t x) (hx:ev E x=some v) (hc:v.cells=cs.toArray) (hd:Nat.blt d n=true)
  (h:∀ aT b,Ext w aT→w.heap.size≤b→aP aT b cs t (0,0)→cK P n ops Q rest ((d, .pointer (some ⟨b,0,none⟩))::E) aT):cK P n ops Q (⟨some d,op,ty,pos,af,none⟩::rest) E w:=by
 subst wj;refine iT (w':=w.alloc (.cells v.cells t)) (v:= .pointer (some ⟨w.heap.size,0,none⟩)) (fun n a ha=> ?_) hd (h _ _ ((aSr _ w).alloc (aR7 _) _) (aR7 _) (by rw [hc];exact aP.new w cs t (0,0)));simp only [execOp,ha.ev hx,Instr.box,newVar,newRow,aSc,run_newObj_alloc,aR3,aSe]
theorem al {op:Op} {d:Nat} {cs:List Value} (wj:op= .alloc t) (bC:mH P t v) (hc:v.cells=cs.toArray) (hd:Nat.blt d n=true)
  (h:∀ aT b,Ext w aT→w.heap.size≤b→aP aT b cs t (0,0)→cK P n ops Q rest ((d, .pointer (some ⟨b,0,none⟩))::E) aT):cK P n ops Q (⟨some d,op,ty,pos,af,none⟩::rest) E w:=by
 subst wj;refine iT (w':=w.alloc (.cells v.cells t)) (v:= .pointer (some ⟨w.heap.size,0,none⟩)) (fun n a ha=> ?_) hd (h _ _ ((aSr _ w).alloc (aR7 _) _) (aR7 _) (by rw [hc];exact aP.new w cs t (0,0)));simp only [execOp,Instr.alloc,aSc,bC w,newVar,newRow,run_newObj_alloc,aR3,aSe]
end
end
section
variable {P:Program} {n:Nat} {E cU:List (Nat×Value)} {a:Act} {w w' w0 aT:World} {Q:Exit→Act→World→Prop} {ops:Array Oper} {v:Value} {a7:Nat→Nat}
variable {d:Option Nat} {ty:TypeId} {pos:String} {af:Array Edge} {g:Option (Nat×Bool)} {x y z:Operand} {t:TypeId} {rest:List Oper} {b1:List Nat} {i:Nat}
def kq (P:Program) (n:Nat) (ops:Array Oper) (Q:Exit→Act→World→Prop) (a7:Nat→Nat) (b1:List Nat) (E:List (Nat×Value)) (w0:World):Prop:=∀ a,ep n E a→vg P ops (hC (Q .normal)) a7 b1 a w0
def pk (l:List (Nat×Nat)) (i:Nat):Nat:=match l with
 | []=>1
 | (j,k)::r=>match Nat.beq j i with | true=>k | false=>pk r i
theorem rd {id:Nat} (na:List (Nat×Nat)) (b1:List Nat) (hm:P.follows .mixedOrders=true) (bf:(Region.noSelect ops && (b1.length == ops.size) && kI ops (pk na) b1 (Array.replicate ops.size false))=true)
  (h:kq P n ops Q (pk na) b1 E w):W P n (.region id ops true) Q E w:=fun a ha=>aCo b1 hm bf (h a ha)
theorem fn (h:∀ w,Ext w0 w→N n Q E w):kq P n ops Q a7 [] E w0:=fun a ha w hw=>h w hw a ha
theorem Ck {o:Oper} (aO:o.guard=none):Region.wanted o (yielded ops a.tmps)=true:=by simp [Region.wanted,aO]
theorem afq {d:Nat} {op:Op} (aq:ops[i]? =some ⟨some d,op,ty,pos,af,none⟩) (ar:a7 i=0) (hr:∀ w,Ext w0 w→cW P E ⟨some d,op,ty,pos,af,none⟩ w v w) (hd:Nat.blt d n=true)
  (h:kq P n ops Q a7 b1 ((d,v)::E) w0):kq P n ops Q a7 (i::b1) E w0:=fun a ha =>
 ⟨_,aq, .inl ⟨ar,v, .inl ⟨Ck rfl,fun w hw=>by rw [hr w hw n a ha];exact ⟨rfl,rfl⟩⟩,h _ (ha.put hd v)⟩⟩
theorem rT {d:Nat} {op:Op} (aq:ops[i]? =some ⟨some d,op,ty,pos,af,none⟩) (ar:a7 i=1) (hr:∀ w,cW P E ⟨some d,op,ty,pos,af,none⟩ w v w) (hd:Nat.blt d n=true)
  (h:kq P n ops Q a7 b1 ((d,v)::E) w0):kq P n ops Q a7 (i::b1) E w0:=fun a ha =>
 ⟨_,aq, .inr (.inl ⟨ar,v, .inl ⟨Ck rfl,fun w=>hr w n a ha⟩,h _ (ha.put hd v)⟩)⟩
theorem p2 {d:Nat} {f:FuncId} {xs:Array Operand} {ts:Array TypeId} {args:List Value} (aq:ops[i]? =some ⟨some d, .call {callee:= .value (.func f),args:=xs,argTypes:=ts},ty,pos,af,none⟩) (ar:a7 i=0) (hf:Enters P f) (he:hU E xs.toList=some args)
  (hr:∀ w,Ext w0 w→Calls P f args.toArray w fun e w'=>e= .returned v∧Ext w w') (hd:Nat.blt d n=true)
  (h:kq P n ops Q a7 b1 ((d,v)::E) w0):kq P n ops Q a7 (i::b1) E w0:=fun a ha =>
 ⟨_,aq, .inl ⟨ar,v, .inl ⟨Ck rfl,fun w hw=>by rw [Nu hf ha he];exact ⟨rfl,hr w hw⟩⟩,h _ (ha.put hd v)⟩⟩
theorem Et {o:Oper} {j:Nat} {q b:Bool} {dg:Oper} {kb:Nat} (aO:o.guard=some (j,q)) (az:ops[j]? =some dg) (nM:dg.dst=some kb) (Φ:look E kb=some (.bool b)) (ha:ep n E a):Region.wanted o (yielded ops a.tmps)=(b == q):=by
 have:=ha.g _ _ Φ;cases b<;>cases q<;>simp [Region.wanted,aO,yielded,az,nM,this]
theorem cx {d:Nat} {op:Op} {j:Nat} {q b c:Bool} {dg:Oper} {kb:Nat} (aq:ops[i]? =some ⟨some d,op,ty,pos,af,some (j,q)⟩) (ar:a7 i=0) (az:ops[j]? =some dg) (nM:dg.dst=some kb) (Φ:look E kb=some (.bool b)) (hc:(b == q)=c)
  (hr:c=true→∀ w,Ext w0 w→cW P E ⟨some d,op,ty,pos,af,some (j,q)⟩ w v w) (hd:Nat.blt d n=true)
  (h:kq P n ops Q a7 b1 ((d,ix c v)::E) w0):kq P n ops Q a7 (i::b1) E w0:=fun a ha=>by
 have hw:=Et (o:=⟨some d,op,ty,pos,af,some (j,q)⟩) rfl az nM Φ ha;rw [hc] at hw;refine ⟨_,aq, .inl ⟨ar,ix c v, ?_,h _ (ha.put hd _)⟩⟩;cases c with
 | true=>exact .inl ⟨hw,fun w hx=>by rw [hr rfl w hx n a ha];exact ⟨rfl,rfl⟩⟩
 | false=>exact .inr ⟨hw,rfl⟩
theorem a1 {d:Nat} {op:Op} {j:Nat} {q b c:Bool} {dg:Oper} {kb:Nat} (aq:ops[i]? =some ⟨some d,op,ty,pos,af,some (j,q)⟩) (ar:a7 i=1) (az:ops[j]? =some dg) (nM:dg.dst=some kb) (Φ:look E kb=some (.bool b)) (hc:(b == q)=c)
  (hr:c=true→∀ w,cW P E ⟨some d,op,ty,pos,af,some (j,q)⟩ w v w) (hd:Nat.blt d n=true)
  (h:kq P n ops Q a7 b1 ((d,ix c v)::E) w0):kq P n ops Q a7 (i::b1) E w0:=fun a ha=>by
 have hw:=Et (o:=⟨some d,op,ty,pos,af,some (j,q)⟩) rfl az nM Φ ha;rw [hc] at hw;refine ⟨_,aq, .inr (.inl ⟨ar,ix c v, ?_,h _ (ha.put hd _)⟩)⟩;cases c with
 | true=>exact .inl ⟨hw,fun w=>hr rfl w n a ha⟩
 | false=>exact .inr ⟨hw,rfl⟩
theorem fj {d:Nat} {f:FuncId} {xs:Array Operand} {ts:Array TypeId} {args:List Value} {j:Nat} {q b c:Bool} {dg:Oper} {kb:Nat} (aq:ops[i]? =some ⟨some d, .call {callee:= .value (.func f),args:=xs,argTypes:=ts},ty,pos,af,some (j,q)⟩) (ar:a7 i=0) (az:ops[j]? =some dg) (nM:dg.dst=some kb) (Φ:look E kb=some (.bool b)) (hc:(b == q)=c)
  (hf:Enters P f) (he:c=true→hU E xs.toList=some args)
  (hr:c=true→∀ w,Ext w0 w→Calls P f args.toArray w fun e w'=>e= .returned v∧Ext w w') (hd:Nat.blt d n=true)
  (h:kq P n ops Q a7 b1 ((d,ix c v)::E) w0):kq P n ops Q a7 (i::b1) E w0:=fun a ha=>by
 have hw:=Et (o:=⟨some d, .call {callee:= .value (.func f),args:=xs,argTypes:=ts},ty,pos,af,some (j,q)⟩) rfl az nM Φ ha;rw [hc] at hw;refine ⟨_,aq, .inl ⟨ar,ix c v, ?_,h _ (ha.put hd _)⟩⟩;cases c with
 | true=>exact .inl ⟨hw,fun w hx=>by rw [Nu hf ha (he rfl)];exact ⟨rfl,hr rfl w hx⟩⟩
 | false=>exact .inr ⟨hw,rfl⟩
def Fj (P:Program) (n:Nat) (ops:Array Oper) (o:Oper) (E:List (Nat×Value)) (w:World) (K:List (Nat×Value)→World→Prop):Prop :=
 ∀ (Q:Exit→Act→World→Prop),(∀ cU w',K cU w'→cK P n ops Q [] cU w')→cK P n ops Q [o] E w
theorem aFn {Ug apg:Exit→Act→World→Prop} {o:Oper} {K:Act→World→Prop} (hp:∀ c a w,¬ Ug (.panic c) a w) (b4:¬ LetsOut Ug) (h:o.wp P a w K Ug):o.wp P a w K apg:=by
 unfold Oper.wp at *
 generalize (execOp a.eval o).run P w=r at *
 cases r with
 | ok m w' =>
  cases m<;>simp only [Oper.upon] at h ⊢ <;>
   first
    | exact h
    | exact aVP h (fun e lZ he=>by cases e<;>first | exact he | exact (hp _ _ _ he).elim | exact (b4 he).elim)
 | halt x w'=>cases x<;>simp only [Oper.upon] at h ⊢<;>first | exact h | exact (hp _ _ _ h).elim
theorem Jg {o:Oper} (aO:o.guard=none) (aq:ops[i]? =some o) {K:Act→World→Prop} {E:List (Nat×Value)} {w:World} {abK:List (Nat×Value)→World→Prop} (h:Fj P n ops o E w abK) (hK:∀ cU w' a',abK cU w'→ep n cU a'→K a' w') (ha:ep n E a):
  wpOp P ops (hC (Q .normal)) i K a w:=by
 have:=h (hC K) (fun cU w' ar a' r3=>hK cU w' a' ar r3) a ha;unfold wpList at this;unfold wpOp;simp only [aq];rw [aR8 (Ck aO)] at this ⊢;rcases this with h | ⟨h,a,w,ab⟩
 ·exact .inl (aFn (fun _ _ _ h=>h) (fun ⟨_,_,h⟩=>h) h)
 ·exact ab.elim
theorem gv {o:Oper} (aO:o.guard=none) (aq:ops[i]? =some o) (ar:a7 i=2) (h:∀ w,Ext w0 w→Fj P n ops o E w fun cU w'=>Ext w0 w'∧kq P n ops Q a7 b1 cU w'):kq P n ops Q a7 (i::b1) E w0:=fun a ha =>
 ⟨_,aq, .inr (.inr ⟨by omega,fun w hw=>Jg aO aq (h w hw) (fun cU w' a' ar r3=>⟨fun _=>ar.1,ar.2 a' r3⟩) ha⟩)⟩
theorem eK {o:Oper} (aO:o.guard=none) (aq:ops[i]? =some o) (ar:a7 i=3) (h:∀ w,Ext w0 w→Fj P n ops o E w fun cU w'=>kq P n ops Q a7 b1 cU w'):kq P n ops Q a7 (i::b1) E w0:=fun a ha =>
 ⟨_,aq, .inr (.inr ⟨by omega,fun w hw=>Jg aO aq (h w hw) (fun cU w' a' ar r3=>⟨fun ab=>by omega,ar a' r3⟩) ha⟩)⟩
end
structure Mod (S:List Nat) (w w':World):Prop where
 os:w'.os=w.os
 tape:w'.tape=w.tape
 output:w'.output=w.output
 size:w.heap.size≤w'.heap.size
 block:∀ k,k<w.heap.size→k∉S→w'.heap[k]? =w.heap[k]?
section
variable {S o3:List Nat} {w w' w0 aT cB:World} {B:Nat}
theorem Mod.bE (h:Ext w w'):Mod S w w':=⟨h.os,h.tape,h.output,h.size,fun k ar _=>h.block k ar⟩
theorem Mod.below {aD:Nat} (h:Mod S w w') (hS:∀ x∈S,aD≤x) (s8:aD≤w.heap.size):Below aD w w' :=
 ⟨h.os,h.tape,h.output,h.size,fun k ar=>h.block k (by omega) fun hm=>by have:=hS k hm;omega⟩
theorem Ext.mod (h:Ext w0 w) (hm:Mod S w w') (hS:∀ x∈S,w0.heap.size≤x):Ext w0 w':=Below.trans h (hm.below hS h.size)
theorem Mod.bN (S:List Nat) (w:World):Mod S w w:=⟨rfl,rfl,rfl,aR7 _,fun _ _ _=>rfl⟩
theorem Mod.md (h:Mod S w aT) (c6:Mod o3 aT cB) (hs:∀ q∈o3,q∈S∨w.heap.size≤q):Mod S w cB :=
 ⟨c6.os.trans h.os,c6.tape.trans h.tape,c6.output.trans h.output,aSs h.size c6.size,fun k ar hn=>(c6.block k (aTC ar h.size) fun hm=>(hs k hm).elim hn (fun h=>by omega)).trans (h.block k ar hn)⟩
theorem Mod.trans (h:Mod S w aT) (c6:Mod S aT cB):Mod S w cB :=
 ⟨c6.os.trans h.os,c6.tape.trans h.tape,c6.output.trans h.output,aSs h.size c6.size,fun k ar hn=>(c6.block k (aTC ar h.size) hn).trans (h.block k ar hn)⟩
theorem Mod.grown {row:Option Nat} (h:w.grownBy w' row):Mod row.toList w w' :=
 ⟨h.os,h.tape,h.output,h.size,fun k ar hn=>h.block k ar fun e=>hn (by rw [← e];simp)⟩
theorem Mod.setRow (w:World) (b:Nat) (cs:Array Value):Mod [b] w (w.setRow b cs):=by
 refine ⟨Z,Z,Z,by simp [World.setRow],fun k ar hn=> ?_⟩;simp only [World.setRow,aVh];rw [aR5 (by simp at hn;omega)]
theorem Mod.setCell (w:World) (p:Addr) (u:Value):Mod [p.block] w (w.setCell p u):=by
 refine ⟨Z,Z,Z,by simp [World.setCell],fun k ar hn=> ?_⟩;exact Below.heap_setCell _ _ _ _ (by simpa using hn)
theorem aP.mod {g:Nat} {cur:List Value} {e:TypeId} {aB:Nat×Nat} (h:aP w g cur e aB) (hm:Mod S w w') (aO:g∉S):aP w' g cur e aB:=by
 unfold aP at *
 rw [hm.block g (aSy.1 h).1 aO];exact h
theorem τ.aF.mod {α:Type} {R:τ α} {E by_:Nat} {f:List Nat} {A:Option Addr} {c:Nat} {l:List α} (h:R.aF E by_ w B f A c l) (hm:Mod S w w') (hd:∀ x∈f,x∉S):R.aF E by_ w' B f A c l :=
 h.keep fun g aO=>hm.block g (h.lt g aO).2 (hd g aO)
end
section
variable {P:Program} {n:Nat} {E cU:List (Nat×Value)} {a:Act} {w w' w0 aT:World} {Q:Exit→Act→World→Prop} {ops:Array Oper} {v:Value}
variable {d:Option Nat} {ty:TypeId} {pos:String} {af:Array Edge} {g:Option (Nat×Bool)} {x y z:Operand} {t:TypeId} {rest:List Oper}
theorem Zi {b p:Nat} {cur cs:List Value} {e:TypeId} (bf:aP w b cur e (0,0)) (hc:v.cells=cs.toArray) (hs:eI P t cs.length) (κ:cs.all (·.oneCell')=true) (ay:p+cs.length≤cur.length):
  (storeVar t ⟨b,p,none⟩ v).run P w= .ok () (w.setRow b (cur.take p++cs++cur.drop (p+cs.length)).toArray):=by
 unfold storeVar;simp only [hc,aSc,hs w,aR3,aTs,ne_eq,aWO,aTm];have:=run_storeCells_at P b p e cs 0 cur.toArray w bf (by simpa using ay) (fun v hv=>aSO.1 κ v hv);simpa using this
theorem st {b p:Nat} {cur cs new:List Value} {e:TypeId} (hx:ev E x=some (.pointer (some ⟨b,p,none⟩))) (aI:ev E y=some v) (bf:aP w b cur e (0,0)) (hc:v.cells=cs.toArray) (hs:eI P t cs.length) (κ:cs.all (·.oneCell')=true) (ay:Nat.ble (p+cs.length) cur.length=true)
  (hn:cur.take p++cs++cur.drop (p+cs.length)=new)
  (h:∀ aT,Mod [b] w aT→aP aT b new e (0,0)→cK P n ops Q rest E aT):cK P n ops Q (⟨none, .store t x y,ty,pos,af,none⟩::rest) E w:=by
 refine us (w':=w.setRow b new.toArray) (fun n a ha=> ?_) (h _ (Mod.setRow w b _) (by rw [← hn];exact bf.setRow _));have:=Zi (P:=P) bf hc hs κ (aTZ ay);rw [hn] at this;simp only [execOp,ha.ev hx,ha.ev aI,Instr.storeAt,Instr.sureAddr,aSc,aSe,aR3,this]
theorem bi {ac5:Builtin} {xs:Array Operand} {ts:Array TypeId} {vs:List Value} (he:hU E xs.toList=some vs) (h:∀ cs,(builtin ac5 ts ty cs vs.toArray).run P w= .ok (.value v) w'):
  cW P E ⟨d, .call {callee:= .builtin ac5,args:=xs,argTypes:=ts},ty,pos,af,g⟩ w v w':=fun n a ha=>by
 have hm:xs.map a.eval=vs.toArray:=by rw [← ha.hU he];apply aTq;simp
 simp only [execOp,resolve,invoke,hm,aSc,aSe,aR3,h]
theorem cG {A:Option Addr} {len cap e:Nat} (aC:P.underlying t=some (.slice e)) (hx:ev E x=some (.slice A len cap)):cW P E ⟨d, .call {callee:= .builtin .len,args:=#[x],argTypes:=#[t]},ty,pos,af,g⟩ w (.int .i64 (len:Int)) w :=
 bi (vs:= [.slice A len cap]) (by simp only [hU,hx]) fun cs=>by
  have κ:P.underlying t=some (.slice (P.elem t)):=by simp [Program.elem,aC]
  have:=run_len_slice (P:=P) w t ty A len cap κ;simp only [builtin,aSc,this,aR3,aSe];rfl
theorem b8 {f:FuncId} {fn:Func} (h:P.funcs[f]? =some fn) (κ:(fn.name == "runtime.NumGoroutine")=false:=by kernel_rfl) (ab:fn.body.isNone=false:=by kernel_rfl):Enters P f:=⟨fn,h,κ,ab⟩
theorem Ta {o:Oper} {c:Bool} (hw:∀ a,ep n E a→Region.wanted o (yielded ops a.tmps)=c) (κ:c=true→∀ a,ep n E a→o.wp P a w (wpList P ops Q rest) Q) (ab:c=false→∀ a,ep n E a→wpList P ops Q rest (a.put o.dst undef) w):cK P n ops Q (o::rest) E w:=fun a ha=>by
 unfold wpList;rw [hw a ha];cases c with
 | true=>rw [aR8 rfl];exact .inl (κ Z a ha)
 | false=>rw [aR5 (by decide)];exact ab Z a ha
theorem bs {d:Nat} {op:Op} {j:Nat} {q b c:Bool} {dg:Oper} {kb:Nat} (az:ops[j]? =some dg) (nM:dg.dst=some kb) (Φ:look E kb=some (.bool b)) (hc:(b == q)=c)
  (hr:c=true→cW P E ⟨some d,op,ty,pos,af,some (j,q)⟩ w v w) (hd:Nat.blt d n=true) (h:cK P n ops Q rest ((d,ix c v)::E) w):cK P n ops Q (⟨some d,op,ty,pos,af,some (j,q)⟩::rest) E w :=
 Ta (c:=c) (fun a ha=>by rw [Et (o:=⟨some d,op,ty,pos,af,some (j,q)⟩) rfl az nM Φ ha,hc])
  (fun hc a ha=>by unfold Oper.wp;rw [hr hc n a ha];subst hc;exact h _ (ha.put hd v)) (fun hc a ha=>by subst hc;exact h _ (ha.put hd undef))
theorem Ah {d:Nat} {f:FuncId} {xs:Array Operand} {ts:Array TypeId} {args:List Value} {j:Nat} {q b c:Bool} {dg:Oper} {kb:Nat} (az:ops[j]? =some dg) (nM:dg.dst=some kb) (Φ:look E kb=some (.bool b)) (hc:(b == q)=c)
  (hf:Enters P f) (he:c=true→hU E xs.toList=some args) (hr:c=true→Calls P f args.toArray w fun e w'=>e= .returned v∧Ext w w') (hd:Nat.blt d n=true)
  (h:∀ w',Ext w w'→cK P n ops Q rest ((d,ix c v)::E) w'):cK P n ops Q (⟨some d, .call {callee:= .value (.func f),args:=xs,argTypes:=ts},ty,pos,af,some (j,q)⟩::rest) E w :=
 Ta (c:=c) (fun a ha=>by rw [Et (o:=⟨some d,_,ty,pos,af,some (j,q)⟩) rfl az nM Φ ha,hc])
  (fun hc a ha=>by unfold Oper.wp;rw [Nu hf ha (he hc)];exact (hr hc).mono fun e w' ⟨κ,hx⟩=>by subst κ;subst hc;exact h w' hx _ (ha.put hd v)) (fun hc a ha=>by subst hc;exact h w (Ext.bN w) _ (ha.put hd undef))
theorem mS {d:Option Nat} {op:Op} {j:Nat} {q:Bool} {dg:Oper} {kb:Nat} (az:ops[j]? =some dg) (nM:dg.dst=some kb) (Φ:look E kb=some (.bool q)) (h:cK P n ops Q (⟨d,op,ty,pos,af,none⟩::rest) E w):cK P n ops Q (⟨d,op,ty,pos,af,some (j,q)⟩::rest) E w:=fun a ha=>by
 have h:=h a ha;have hw:=Et (o:=⟨d,op,ty,pos,af,some (j,q)⟩) (q:=q) rfl az nM Φ ha;unfold wpList at h ⊢;rw [aR8 (Ck rfl)] at h;rw [hw,aR8 (by cases q<;>rfl)];exact h
theorem gD {x:Operand} {b c:Bool} (h:ev E x=some (.bool b)) (e:b=c):ev E x=some (.bool c):=by rw [h,e]
theorem M_ {afe:Fn} {fs cs:Array Operand} {l m:List Value} (κ:hU E fs.toList=some l) (ab:hU E cs.toList=some m):cW P E ⟨d, .makeFunc afe fs cs,ty,pos,af,g⟩ w (.func afe l.toArray m.toArray) w:=fun n a ha=>by
 have aZ:fs.map a.eval=l.toArray:=by rw [← ha.hU κ];apply aTq;simp
 have bh:cs.map a.eval=m.toArray:=by rw [← ha.hU ab];apply aTq;simp
 simp only [execOp,aZ,bh,Instr.makeFunc,aSc,aSe,aR3]
def xJ (E:List (Nat×Value)):List (Nat×Operand)→Option (List (Nat×Value))
 | []=>some []
 | (i,x)::r=>match ev E x with
  | some v=>match xJ E r with
   | some l=>some ((i,v)::l)
   | none=>none
  | none=>none
theorem ep.xJ (h:ep n E a):∀ {l:List (Nat×Operand)} {vs:List (Nat×Value)},xJ E l=some vs→l.map (fun (i,x)=>(i,a.eval x))=vs
 | [],vs,e=>by simp only [Proofs.YtmeeljmapailnaaGreat.xJ] at e;exact aRV e
 | (i,x)::r,vs,e=>by
  simp only [Proofs.YtmeeljmapailnaaGreat.xJ] at e;cases hx:Proofs.YtmeeljmapailnaaGreat.ev E x with
  | none=>rw [hx] at e;cases e
  | some v =>
   rw [hx] at e;simp only at e;cases hr:Proofs.YtmeeljmapailnaaGreat.xJ E r with
   | none=>rw [hr] at e;cases e
   | some l =>
    rw [hr] at e;simp only at e;obtain rfl:=aRV e;rw [aSB,ep.xJ h hr];simp only [h.ev hx]
theorem cI {ps:Array (Nat×Operand)} {l:List (Nat×Value)} (he:xJ E ps.toList=some l) (hr:(Instr.build t l.toArray).run P w= .ok v w):cW P E ⟨d, .build t ps,ty,pos,af,g⟩ w v w:=fun n a ha=>by
 have aZ:ps.map (fun (i,x)=>(i,a.eval x))=l.toArray:=by rw [← ha.xJ he];apply aTq;simp
 simp only [execOp,aZ,aSc,hr,aR3,aSe]
theorem cX {ps:Array (Nat×Operand)} {l:List (Nat×Value)} {d k e:Nat} {cs:List Value} (he:xJ E ps.toList=some l) (hr:∀ w,(Instr.buildSlice t k l.toArray).run P w= .ok (.slice (some ⟨w.heap.size,0,none⟩) k k) (w.alloc (.cells cs.toArray e))) (hd:Nat.blt d n=true)
  (h:∀ aT b,Ext w aT→w.heap.size≤b→aP aT b cs e (0,0)→cK P n ops Q rest ((d, .slice (some ⟨b,0,none⟩) k k)::E) aT):cK P n ops Q (⟨some d, .buildSlice t k ps,ty,pos,af,none⟩::rest) E w:=by
 refine iT (w':=w.alloc (.cells cs.toArray e)) (v:= .slice (some ⟨w.heap.size,0,none⟩) k k) (fun n a ha=> ?_) hd (h _ _ ((aSr _ w).alloc (aR7 _) _) (aR7 _) (aP.new w cs e (0,0)));have aZ:ps.map (fun (i,x)=>(i,a.eval x))=l.toArray:=by rw [← ha.xJ he];apply aTq;simp
 simp only [execOp,aZ,aSc,hr,aR3,aSe]
def eU (A:Option Addr):Nat:=match A with | some a=>a.block | none=>0
def la (A:Option Addr):Nat:=match A with | some a=>a.off | none=>0
theorem τ.aJ.bP {α:Type} {R:τ α} {by_ c:Nat} {A:Option Addr} {l:List α} (h:R.aJ by_ w A c l) (aG:0<l.length):A=some ⟨eU A,la A,none⟩:=by
 obtain ⟨b,o,rfl,_⟩:=h.at_ aG;rfl
theorem τ.aJ.cw {α:Type} {R:τ α} {by_ c:Nat} {A:Option Addr} {l:List α} (h:R.aJ by_ w A c l) (aG:0<l.length):R.aJ by_ w (some ⟨eU A,la A,none⟩) c l:=by
 rw [← h.bP aG];exact h
theorem b9 {e:TypeId} {size len cap b o:Nat} {XV:IntKind} {i:Int} {A:Option Addr} (j:Nat) (aC:P.underlying t=some (.slice e)) (hs:eI P e size) (hx:ev E x=some (.slice A len cap)) (aq:ev E y=some (.int XV i)) (hA:A=some ⟨b,o,none⟩) (az:i=(j:Int)) (bz:j<len):
  cW P E ⟨d, .indexAddr t x y,ty,pos,af,g⟩ w (.pointer (some ⟨b,o+j * size,none⟩)) w:=by subst hA;exact Mp j aC hs hx aq az bz
theorem c8 {α:Type} {l:List α} {j:Nat} {u:α} (h:j<l.length):l[j]? =some (l.getD j u):=by rw [aRU,aRX h];rfl
section
variable {α:Type} {R:τ α} {by_ c b o j:Nat} {l:List α} {cells:α→List Value} {q u:α}
theorem τ.aJ.kx (hc:∀ {w cs a},R.has w cs a→cs=cells a) (h:R.aJ by_ w (some ⟨b,o,none⟩) c l) (k:Nat) (az:l[j]? =some q) (hu:(cells q)[k]? =some v) (aC:eB P t false):lK P w t ⟨b,o+j * R.size+k,none⟩ v:=by
 obtain ⟨rJ,Nc,e,dK⟩:=h.at_ (by have:=(aRW.1 az).1;omega);injection e with e;injection e with aZ bh;subst aZ;subst bh
 obtain ⟨es,κ,ab⟩:=dK j q az;rw [hc κ] at ab;exact lK.one aC (by rw [aUy];exact ab k v hu)
theorem τ.aJ.fR (hc:∀ {w cs a},R.has w cs a→cs=cells a) (h:R.aJ by_ w (some ⟨b,o,none⟩) c l) (az:l[j]? =some q) (hu:(cells q)[0]? =some v) (aC:eB P t false):lK P w t ⟨b,o+j * R.size,none⟩ v:=h.kx hc 0 az hu aC
theorem τ.aJ.ik (hc:∀ {w cs a},R.has w cs a→cs=cells a) (h:R.aJ by_ w (some ⟨b,o,none⟩) c l) (az:l[j]? =some q) (aC:eB P t true) (hs:eI P t (cells q).length):lK P w t ⟨b,o+j * R.size,none⟩ (.agg (cells q).toArray):=by
 obtain ⟨rJ,Nc,e,dK⟩:=h.at_ (by have:=(aRW.1 az).1;omega);injection e with e;injection e with aZ bh;subst aZ;subst bh
 obtain ⟨es,κ,ab⟩:=dK j q az;rw [hc κ] at ab;exact lK.agg aC hs fun k v ar=>by rw [aUy];exact ab k v ar
theorem τ.aJ.part (hc:∀ {w cs a},R.has w cs a→cs=cells a) (h:R.aJ by_ w (some ⟨b,o,none⟩) c l) (k:Nat) {ds:List Value} (az:l[j]? =some q) (hd:((cells q).drop k).take ds.length=ds) (aC:eB P t true) (hs:eI P t ds.length):lK P w t ⟨b,o+j * R.size+k,none⟩ (.agg ds.toArray):=by
 obtain ⟨rJ,Nc,e,dK⟩:=h.at_ (by have:=(aRW.1 az).1;omega);injection e with e;injection e with aZ bh;subst aZ;subst bh
 obtain ⟨es,κ,ab⟩:=dK j q az;rw [hc κ] at ab;refine lK.agg aC hs fun i v aq=> ?_;rw [aUy,aUy];refine ab _ v ?_;rw [← hd] at aq;have ay:=(aRW.1 aq).1;rw [aRZ] at ay
 rwa [aWj (by omega),aS0] at aq
end
theorem aP.all {b:Nat} {cur:List Value} {e:TypeId} {aB:Nat×Nat} (h:aP w b cur e aB) (aC:eB P t true) (hs:eI P t cur.length):lK P w t ⟨b,0,none⟩ (.agg cur.toArray):=
 lK.agg aC hs fun j v az=>by rw [h.cell,aTd,az]
theorem aP.par {b p:Nat} {cur:List Value} {e:TypeId} {aB:Nat×Nat} (h:aP w b cur e aB) (cs:List Value) (aC:eB P t true) (hs:eI P t cs.length) (hv:(cur.drop p).take cs.length=cs):lK P w t ⟨b,p,none⟩ (.agg cs.toArray):=h.agg aC hs hv
end
open Tryz

section
variable {P:Program} {n:Nat} {E cU:List (Nat×Value)} {a:Act} {w w' w0 aT:World} {Q:Exit→Act→World→Prop} {ops:Array Oper} {v:Value}
theorem bD {x:Int} (h: -9223372036854775808≤x∧x≤9223372036854775807):IntKind.i64.wrap x=x:=IntWalk.i64_in x h
section
variable {d:Option Nat} {ty:TypeId} {pos:String} {af:Array Edge} {g:Option (Nat×Bool)} {x y:Operand} {t u:TypeId} {k:IntKind} {i j r:Int}
theorem oo (hx:ev E x=some (.int k i)) (aI:ev E y=some (.int k j)) (h:k.wrap (i+j)=i+j) (he:i+j=r):cW P E ⟨d, .binOp .add t x y u,ty,pos,af,g⟩ w (.int k r) w:=by subst he;exact bad hx aI h
end
theorem wu {p:Nat→Prop} {k:Nat} (h:∀ j,j<k→p j) (ar:p k):∀ j,j<k+1→p j:=fun j az=>(aUR.1 az).elim (h j) fun e=>e ▸ ar
theorem gw {w:World} {cs:List Value} {a:Int} (h:bQ.has w cs a):cs= [.int .i64 a]:=aTW (show cs= [.int .i64 a]∧fQ a from h)
theorem agr {w:World} {cs:List Value} {a:Bool} (h:yt.has w cs a):cs= [.bool a]:=aTW (show cs= [.bool a]∧True from h)
theorem ij {x:Operand} {r:List Operand} {l:List Value} (h:ev E x=some v) (hr:hU E r=some l):hU E (x::r)=some (v::l):=by simp only [hU,h,hr]
theorem wq {t:Nat} {k:IntKind} {i j:Int} (h:look E t=some (.int k i)) (e:i=j):look E t=some (.int k j):=by rw [h,e]
section
variable {c:Operand} {x y:Code} {i j:Int}
theorem dY (hc:ev E c=some (.bool (decide (i<j)))) (κ:i<j→W P n x Q E w) (ab:¬ i<j→W P n y Q E w):W P n (.cond c x y) Q E w:=ed hc (fun h=>κ (aS5 h)) (fun h=>ab (aUk h))
theorem HG (hc:ev E c=some (.bool (decide (i≤j)))) (κ:i≤j→W P n x Q E w) (ab:¬ i≤j→W P n y Q E w):W P n (.cond c x y) Q E w:=ed hc (fun h=>κ (aS5 h)) (fun h=>ab (aUk h))
theorem ka (hc:ev E c=some (.bool (i == j))) (κ:i=j→W P n x Q E w) (ab:¬ i=j→W P n y Q E w):W P n (.cond c x y) Q E w:=ed hc (fun h=>κ (by simpa using h)) (fun h=>ab (by simpa using h))
theorem eV (hc:ev E c=some (.bool (i != j))) (κ:¬ i=j→W P n x Q E w) (ab:i=j→W P n y Q E w):W P n (.cond c x y) Q E w:=ed hc (fun h=>κ (by simpa using h)) (fun h=>ab (by simpa using h))
end
end
def eX (P:Program) {α:Type} (R:τ α) (t e:TypeId) (by_:Nat):Prop :=
 ∃ (i:TypeInfo) (z:Value),P.underlying t=some (.slice e)∧P.info? e=some i∧i.zero=some z∧i.size=R.size∧i.bytes=by_∧z.cells.size=R.size∧0<R.size∧∀ (j:Nat) u,z.cells[j]? =some u→R.raw j u
section
variable {P:Program} {n:Nat} {E cU:List (Nat×Value)} {a:Act} {w w' w0 aT:World} {Q:Exit→Act→World→Prop} {ops:Array Oper} {v:Value}
variable {d:Option Nat} {ty:TypeId} {pos:String} {af:Array Edge} {g:Option (Nat×Bool)} {x y z:Operand} {t:TypeId} {rest:List Oper}
theorem eX.lV {α:Type} {R:τ α} {t e by_ k:Nat} {z:Value} (aC:P.underlying t=some (.slice e)) (aq:(P.info? e).map (fun i=>(i.zero,i.size,i.bytes))=some (some z,k,by_)) (ar:R.size=k) (κ:z.cells.size=k) (ab:0<k) (aw:∀ (j:Nat) u,z.cells[j]? =some u→R.raw j u):eX P R t e by_:=by
 cases I:P.info? e with
 | none=>rw [I] at aq;cases aq
 | some i =>
  rw [I] at aq;simp only [aTv,aUO,aWg] at aq;exact ⟨i,z,aC,I,aq.1,by rw [aq.2.1,ar],aq.2.2,by rw [κ,ar],by rw [ar];exact ab,aw⟩
theorem Jc:∀ (j:Nat) u,(Value.int .i64 0).cells[j]? =some u→bQ.raw j u:=by
 intro j u hu;have hu:(#[(.int .i64 0:Value)]:Array Value)[j]? =some u:=hu
 match j,hu with
 | 0,hu=>exact ⟨0,(aRV hu).symm⟩
 | j+1,hu=>simp at hu
theorem ald:∀ (j:Nat) u,(Value.bool false).cells[j]? =some u→yt.raw j u:=by
 intro j u hu;have hu:(#[(.bool false:Value)]:Array Value)[j]? =some u:=hu
 match j,hu with
 | 0,hu=>exact ⟨false,(aRV hu).symm⟩
 | j+1,hu=>simp at hu
def Uh (P:Program) (n:Nat) (c:Code) (Q:Exit→Act→World→Prop) (k:Nat) (E:List (Nat×Value)) (w:World):Prop:=∀ a,ep n E a→Code.rounds P c Q k a w
theorem Gf {c:Code} (k:Nat) (h:Uh P n c Q k E w):W P n (.loop c) Q E w:=fun a ha=>wp_loop_rounds k (h a ha)
theorem k8 {c:Code} {k:Nat} (h:W P n c (Exit.then (Code.rounds P c Q k) Q) E w):Uh P n c Q (k+1) E w:=fun a ha=>h a ha
theorem oG {c:Code} {k:Nat} (h:Uh P n c Q k E w):N n (Exit.then (Code.rounds P c Q k) Q) E w:=h
theorem aP.gS {α:Type} {R:τ α} {by_ b:Nat} {cs:List Value} {e:TypeId} {aB:Nat×Nat} {q:α} (Φ:aP w b cs e aB) (h:R.has w cs q) (p8:by_≤140737488355328):R.aJ by_ w (some ⟨b,0,none⟩) 1 [q]:=by
 refine ⟨aR7 _,by decide,by simpa using p8,(fun h=>by cases h), [cs],⟨h,trivial⟩, ?_⟩;have ay:=R.len h;refine ⟨by simp [ay],fun _=>⟨b,0,rfl,fun j u hu=> ?_⟩⟩;rw [aTd,Φ.cell];simpa using hu
theorem aP.LI {α:Type} {R:τ α} {by_ b:Nat} {cs:List Value} {e:TypeId} {aB:Nat×Nat} {k:List α} (Φ:aP w b cs e aB) (ess:List (List Value)) (zG:ess.flatten=cs) (h:de (fun es a=>R.has w es a) ess k) (rU:k.length≤9223372036854775807) (p8:k.length * by_≤140737488355328):R.aJ by_ w (some ⟨b,0,none⟩) k.length k:=by
 refine ⟨aR7 _,rU,p8,(fun h=>by cases h),ess,h, ?_⟩;have ay:∀ x∈ess,x.length=R.size:=fun x hx=>by obtain ⟨a,ha⟩:=h.left x hx;exact R.len ha
 refine ⟨by rw [Bm ay,h.length],fun _=>⟨b,0,rfl,fun j u hu=> ?_⟩⟩;rw [aTd,Φ.cell,← zG];exact hu
theorem aP.wI {α:Type} {R:τ α} {by_ b B:Nat} {cs:List Value} {e:TypeId} {k:List α} (Φ:aP w b cs e (0,0)) (ess:List (List Value)) (zG:ess.flatten=cs) (h:de (fun es a=>R.has w es a) ess k) (rU:k.length≤9223372036854775807) (p8:k.length * by_≤140737488355328) (aG:0<R.size) (bf:B≤b) (hR:R.Plain:=by exact τ.o'):
  R.aF e by_ w B (τ.ah (some ⟨b,0,none⟩)) (some ⟨b,0,none⟩) k.length k:=by
 have ay:∀ x∈ess,x.length=R.size:=fun x hx=>by obtain ⟨a,ha⟩:=h.left x hx;exact R.len ha
 have hlen:cs.length=k.length * R.size:=by rw [← zG,Bm ay,h.length]
 refine τ.aF.B6 hR h p8 ⟨by rw [zG,hlen], .inr ⟨b,k.length,cs.toArray,rfl,bf,Φ,aR7 _,rU,by simpa using hlen, ?_,fun j u hu=> ?_⟩⟩
 ·rw [zG];exact aSk (by simp [hlen])
 ·exact HZ h aG (by rw [zG];simpa using hu)
theorem ap {α:Type} {R:τ α} {e by_ base:Nat} {A cZ:Option Addr} {c c2 d:Nat} {l k:List α} (nL:eX P R t e by_) (hR:R.xe) (h:R.aF e by_ w base (τ.ah A) A c l) (ab:R.aJ by_ w cZ c2 k)
  (hs:ev E x=some (.slice A l.length c)) (hx:ev E y=some (.slice cZ k.length c2)) (hlen:l.length+k.length≤9223372036854775807) (r7:(l.length+k.length) * by_≤140737488355328) (p6:base≤w.heap.size) (hd:Nat.blt d n=true)
  (ar:∀ aT bK b5,Mod (τ.ah A) w aT→R.aF e by_ aT base (τ.ah bK) bK b5 (l++k)→(∀ q∈τ.ah bK,q∈τ.ah A∨w.heap.size≤q)→(bK=none↔A=none∧k= [])→cK P n ops Q rest ((d, .slice bK (l++k).length b5)::E) aT):
  cK P n ops Q (⟨some d, .call {callee:= .builtin .append,args:=#[x,y],argTypes:=#[t,t]},ty,pos,af,none⟩::rest) E w:=fun a ha=>by
 obtain ⟨i,z,aZ,bh,cF,jd,KV,KW,aey,aez⟩:=nL;obtain ⟨s1,s2,Nv,als,ess,Nw,Gz⟩:=ab;obtain ⟨eM,ft⟩:=τ.akK ess;refine τ.aFm Z x y base t e i z aZ bh cF jd KV KW aey aez (τ.ah A) A c l h cZ k.length c2 k (ess.map fun es=>(([]:List Nat),es)) (τ.de.plain hR.1 Nw) Z (by rw [ft];exact Gz) (by rw [eM,aSz];exact h.nodup) hlen r7 p6 Z (ha.ev hs) (ha.ev hx) ?_;rintro bK b5 f' aT ⟨lX,nj,yo,I',YZ,akZ⟩;obtain rfl:=lX.auH hR.2;have hm:Mod (τ.ah A) w aT:=by
  have:=Mod.grown nj
  rwa [τ.R0] at this
 have:=ar aT bK b5 hm lX (fun q I=>by
  rcases I' q I with h | h | h
  ·exact .inl h
  ·rw [eM] at h;cases h
  ·exact .inr (by omega)) (by rw [YZ];exact and_congr_right fun _=>List.length_eq_zero_iff)
 rw [aR1] at this;exact this _ (ha.put hd _)
theorem Own.adq {base e size:Nat} {G:Nat→Value→Prop} {b c n:Nat} {xs:List Value} (h:Own w base e size G (.slice (some ⟨b,0,none⟩) n c) n xs):∃ cur:Array Value,w.heap[b]? =some (.cells cur e (0,0))∧cur.size=c * size∧cur.toList.take (n * size)=xs:=by
 obtain ⟨κ,ab⟩:=h;rcases ab with ⟨ab,_⟩ | ⟨g',cap,cur,hv,rJ,fV,d,hm,hs,aC,br⟩
 ·cases ab
 ·injection hv with hv _ hc
  injection hv with hv
  injection hv with hv
  subst hv;subst hc;exact ⟨cur,fV,hs,aC⟩
theorem so {α:Type} {R:τ α} {e by_ B j i:Nat} {A:Option Addr} {c:Nat} {l:List α} {q q':α} {p:Addr} {u:Value} (h:R.aF e by_ w B (τ.ah A) A c l) (hR:R.xe) (aq:l[i]? =some q) (az:Nat.blt j R.size=true) (hx:ev E x=some (.pointer (some p))) (hp:p=⟨eU A,la A+i * R.size+j,none⟩) (aI:ev E y=some u)
  (hu:∀ (aT:World) cs,R.has w cs q→R.has aT (cs.set j u) q') (κ:u.oneCell'=true) (zG:u.cells=#[u]) (hs:eI P t 1)
  (ar:∀ aT,Mod (τ.ah A) w aT→R.aF e by_ aT B (τ.ah A) A c (l.set i q')→cK P n ops Q rest E aT):cK P n ops Q (⟨none, .store t x y,ty,pos,af,none⟩::rest) E w:=by
 obtain ⟨b,rfl⟩:=h.block (by have:=(aRW.1 aq).1;omega);rw [aVw] at az;have Ma:p=⟨b,i * R.size+j,none⟩:=by rw [hp];simp [eU,la]
 subst Ma;have wk:=h.aCZ hR aq az (fun cs hc=>hu _ cs hc);have bz:=(aRW.1 aq).1;have j1:∃ ami,w.cell? ⟨b,i * R.size+j,none⟩=some ami:=by
  obtain ⟨_,ps,_,_,b4,dK⟩:=h;have ay:=b4.1;rw [b4.cell _ (by rw [aTe i];exact aTC (by rw [aTe];exact (by omega:i * R.size+j<i * R.size+R.size)) (by rw [← aTx];exact aSI _ bz))];exact ⟨_,aRX (by rw [ay];exact aTC (by omega:i * R.size+j<i * R.size+R.size) (by rw [← aTx];exact aSI _ bz))⟩
 obtain ⟨ami,axZ⟩:=j1;have hf:=h.free (i * R.size+j);refine us (w':=w.setCell ⟨b,i * R.size+j,none⟩ u) (fun n a ha=> ?_) (ar _ (Mod.setCell w ⟨b,i * R.size+j,none⟩ u) wk);have iO:(storeVar t ⟨b,i * R.size+j,none⟩ u).run P w= .ok () (w.setCell ⟨b,i * R.size+j,none⟩ u):=by
  unfold storeVar;simp only [zG,aSc,hs w,aR3,aTs,aR0,aR6,ne_eq,aTd,aWO,aTm,storeCells];have:(⟨b,i * R.size+j,none⟩:Addr).add 0=⟨b,i * R.size+j,none⟩:=rfl;rw [this,run_store P w _ u _ κ,axZ];simp only [hf,aSG,aTm,aR3,aSe]
 simp only [execOp,ha.ev hx,ha.ev aI,Instr.storeAt,Instr.sureAddr,aSc,aSe,aR3,iO]
theorem Px {e u:TypeId} {q:Option Addr} (aC:P.underlying t=some (.pointer e)) (hx:ev E x=some (.pointer q)) (aI:ev E y=some (.pointer none)):cW P E ⟨d, .binOp .eql t x y u,ty,pos,af,g⟩ w (.bool q.isNone) w:=fun n a ha=>by
 have κ:P.underlying t=some (.pointer (P.pointee t)):=by simp [Program.pointee,aC]
 have:(eqGuard .eql t x y (.pointer q) (.pointer none)).run P w= .ok () w:=by cases x<;>cases y<;>rfl
 simp only [execOp,ha.ev hx,ha.ev aI,aSc,this,run_eql_pointer_nil w t q κ,aR3,aSe]
def TP (P:Program) {α:Type} [DecidableEq α] (cells:α→List Value) (t:TypeId):Prop:=∀ (a b:α) (w:World),(binOp .eql t (.agg (cells a).toArray) (.agg (cells b).toArray)).run P w= .ok (.bool (decide (a=b))) w∧(binOp .neq t (.agg (cells a).toArray) (.agg (cells b).toArray)).run P w= .ok (.bool (!decide (a=b))) w
theorem auf {o:BinOp} {xs ys:Array Value} (h:P.eqGuardType P.depth t=false):(eqGuard o t x y (.agg xs) (.agg ys)).run P w= .ok () w:=by
 cases o<;>simp [eqGuard,h]
theorem ac4 {α:Type} [DecidableEq α] {cells:α→List Value} {u:TypeId} {p q:α} (nL:TP P cells t) (br:P.eqGuardType P.depth t=false) (hx:ev E x=some (.agg (cells p).toArray)) (aI:ev E y=some (.agg (cells q).toArray)):cW P E ⟨d, .binOp .neq t x y u,ty,pos,af,g⟩ w (.bool (!decide (p=q))) w:=fun n a ha=>by
 simp only [execOp,ha.ev hx,ha.ev aI,aSc,auf br,(nL p q w).2,aR3,aSe]
theorem run_equalIn_bool (d:Nat) {p q:Bool} (aC:P.underlying t=some .bool):(Op.equalIn (d+1) t (.bool p) (.bool q)).run P w= .ok (p == q) w:=by simp [Op.equalIn,aTa aC]
theorem run_equal_bool {p q:Bool} (aC:P.underlying t=some .bool):(Op.equal t (.bool p) (.bool q)).run P w= .ok (p == q) w:=run_equalIn_bool 9999 aC
theorem aqf {u:TypeId} {p q:Bool} (aC:P.underlying t=some .bool) (hx:ev E x=some (.bool p)) (aI:ev E y=some (.bool q)):cW P E ⟨d, .binOp .neq t x y u,ty,pos,af,g⟩ w (.bool (p != q)) w:=fun n a ha=>by
 have:(eqGuard .neq t x y (.bool p) (.bool q)).run P w= .ok () w:=by cases x<;>cases y<;>rfl
 have ab:(binOp .neq t (.bool p) (.bool q)).run P w= .ok (.bool (p != q)) w:=by
  simp only [binOp,aSc,run_equal_bool aC,aR3,aSe];rfl
 simp only [execOp,ha.ev hx,ha.ev aI,aSc,this,ab,aR3,aSe]
theorem BL {u i:Value} (hx:ev E x=some u) (aI:ev E y=some i) (hr:(Instr.index t u i).run P w= .ok v w):cW P E ⟨d, .index t x y,ty,pos,af,g⟩ w v w:=fun n a ha=>by
 simp only [execOp,ha.ev hx,ha.ev aI,aSc,hr,aR3,aSe]
theorem oF {k:IntKind} {i j:Int} {ts:Array TypeId} (hx:ev E x=some (.int k i)) (aI:ev E y=some (.int k j)):cW P E ⟨d, .call {callee:= .builtin .min,args:=#[x,y],argTypes:=ts},ty,pos,af,g⟩ w (.int k (min i j)) w :=
 bi (vs:= [.int k i, .int k j]) (by simp only [hU,hx,aI]) fun cs=>by
  have:=run_min_int2 (P:=P) (w:=w) ts ty k k i j;simp only [builtin,aSc,this,aR3,aSe];congr 3;rw [Int.min_def];split<;>split<;>omega
theorem mx {k:IntKind} {i j:Int} {ts:Array TypeId} (hx:ev E x=some (.int k i)) (aI:ev E y=some (.int k j)):cW P E ⟨d, .call {callee:= .builtin .max,args:=#[x,y],argTypes:=ts},ty,pos,af,g⟩ w (.int k (max i j)) w :=
 bi (vs:= [.int k i, .int k j]) (by simp only [hU,hx,aI]) fun cs=>by
  have:=run_max_int2 (P:=P) (w:=w) ts ty k k i j;simp only [builtin,aSc,this,aR3,aSe];congr 3;rw [Int.max_def];split<;>split<;>omega
end
open Tryz

section
variable {P:Program} {n:Nat} {E:List (Nat×Value)} {a:Act} {w w0:World} {Q:Exit→Act→World→Prop} {ops:Array Oper} {a7:Nat→Nat}
def z6 (r:List Nat) (l:Array Bool):Array Bool:=match r with | []=>l | i::r=>z6 r (l.setIfInBounds i true)
def FG (ops:Array Oper) (a7:Nat→Nat):List Nat→Array Bool→Bool
 | [],_=>true
 | i::r,l=>(match a7 i with
   | 0=>Region.free .any ops l i && (Region.ready .any ops l).contains i && Pp ops a7 l i
   | 1=>Region.free .any ops l i && (Region.ready .any ops l).contains i
   | _=>false) && FG ops a7 r (l.setIfInBounds i true)
def acW (ops:Array Oper) (a7:Nat→Nat) (r:List Nat):Nat→List Nat→Array Bool→Bool
 | 0,R,l=>R.isEmpty && kI ops a7 r l
 | f+1,R,l=> !(Region.ready .any ops l).isEmpty && (Region.ready .any ops l).all fun j=>R.contains j && Nat.beq (a7 j) 2 && acW ops a7 r f (R.erase j) (l.setIfInBounds j true)
theorem Us (hs:Region.noSelect ops=true) (iy:∀ c a w,¬ Q (.panic c) a w) {qN:Exit→Act→World→Prop} {m:Nat}:∀ (r:List Nat) (l:Array Bool) (a:Act) (w0:World),l.size=ops.size→FG ops a7 r l=true→vg P ops qN a7 r a w0→
  (∀ a w0,(∀ w,Ext w0 w→qN .normal a w)→C4 P ops Q a7 m (z6 r l) a w0)→C4 P ops Q a7 (r.length+m) l a w0
 | [],l,a,w0,_,_,h,d_=>by rw [aR6,aTd];exact d_ a w0 h
 | i::r,l,a,w0,ay,bf,h,d_=>by
  rw [aR0,Nat.succ_add];obtain ⟨o,b4,h⟩:=h;have nO:=aUC hs;rcases h with ⟨ar,v,I,hK⟩ | ⟨ar,v,I,hK⟩ | ⟨ar,h⟩
  ·simp only [FG,ar,aR2] at bf;obtain ⟨⟨⟨hf,hr⟩,Φ⟩,bf⟩:=bf;obtain ⟨R,r1,r2,yr⟩:=Pq ay Φ;exact Ql b4 (by omega) nO iy (fun w0 a=>uh P ops w0 o v a) (fun _ _ h=>h) (fun _ _ _ h he hw=>h.of_same he hw) (fun _ _ _ hx h=>h.on hx) R l r1 (.inr yr) _ _ _ _ r2 (fun _ h=>h) (aTH b4 hf) (by simpa using hr) I
    (Us hs iy r _ _ _ (by simpa using ay) bf hK d_)
  ·simp only [FG,ar,aR2] at bf;obtain ⟨⟨hf,hr⟩,bf⟩:=bf;exact Ql b4 (by omega) nO iy (fun _ a=>Yields P ops o v a) (fun _ _ h=>Yields.ala h) (fun _ _ _ h he hw=>h.of_same he hw) (fun _ _ _ _ h=>h) (fun _=>true) l (fun _ _ _ _ _=>Z) (.inl fun _ _ _ h=>h) _ _ _ _ (fun _ _=>Z) (fun _ h=>h) (aTH b4 hf) (by simpa using hr) I
    (Us hs iy r _ _ _ (by simpa using ay) bf hK d_)
  ·obtain ⟨k,iA⟩:∃ k,a7 i=k+2:=⟨a7 i - 2,by omega⟩;simp only [FG,iA,Bool.false_and,aSG] at bf
theorem ep.kA {d:Nat} (h:ep n E a) (hf:look E d=Option.none) (v:Value):ep n E (a.put (some d) v):=by
 refine ⟨h.d,by simp [Act.put,h.s],fun t u hu=> ?_⟩;have fl:d≠t:=fun e=>by rw [e,hu] at hf;cases hf
 simp only [Act.put];rw [aTP fl];exact h.g t u hu
structure aHL (P:Program) (n:Nat) (ops:Array Oper) (Q:Exit→Act→World→Prop) (E:List (Nat×Value)) (w0:World) (i d:Nat) (aaA:Value→List Nat→World→Prop):Prop where
 mono:∀ v f w w',aaA v f w→Ext w w'→aaA v f w'
 free:look E d=none
 cI:Nat.blt d n=true
 run:∀ (a:Act) (w:World) (K:Act→World→Prop),ep n E a→Ext w0 w→(∀ v w' f,Ext w w'→(∀ q∈f,w.heap.size≤q∧q<w'.heap.size)→aaA v f w'→K (a.put (some d) v) w')→wpOp P ops (hC (Q .normal)) i K a w
abbrev Made:=Nat×Nat×(Value→List Nat→World→Prop)
def aGI (P:Program) (ops:Array Oper) (Q:Exit→Act→World→Prop) (a7:Nat→Nat) (B b1:List Nat) (l:Array Bool):Exit→Act→World→Prop
 | .normal,a,w=>Region.noSelect ops=true→l.size=ops.size→acW ops a7 b1 B.length B l=true→C4 P ops (hC (Q .normal)) a7 (B.length+b1.length) l a w
 | _,_,_=>False
theorem Zq:∀ (r:List Nat) (l:Array Bool),(z6 r l).size=l.size
 | [],_=>rfl
 | i::r,l=>by unfold z6;rw [Zq r];simp
def aAv:List Nat→Bool
 | []=>true
 | x::r=> !r.elem x && aAv r
variable {d i:Nat} {ty:TypeId} {pos:String} {af:Array Edge} {x y z:Operand} {t:TypeId} {v:Value}
def aHM (cs:List Value) (t:TypeId) (v:Value) (f:List Nat) (w:World):Prop:=∃ b,v= .pointer (some ⟨b,0,none⟩)∧f= [b]∧aP w b cs t (0,0)
end
open Tryz

section
variable {P:Program} {n:Nat} {E cU:List (Nat×Value)} {a:Act} {w w' w0 aT:World} {Q:Exit→Act→World→Prop} {ops:Array Oper}
variable {d:Option Nat} {ty:TypeId} {pos:String} {af:Array Edge} {g:Option (Nat×Bool)} {x y z u:Operand} {t:TypeId} {rest:List Oper} {v:Value}
theorem YF {i:Int} (hx:ev E x=some (.int .i64 i)) (h:IntKind.i64.wrap (-i)= -i):cW P E ⟨d, .unOp .neg t x,ty,pos,af,g⟩ w (.int .i64 (-i)) w:=fun n a ha=>by
 have:(execOp a.eval ⟨d, .unOp .neg t x,ty,pos,af,g⟩).run P w= .ok (.value (.int .i64 (IntKind.i64.wrap (-i)))) w:=by
  have aG:(0:Int) - i= -i:=Int.zero_sub i;have hu:(Op.unary .neg (.int .i64 i)).run P w= .ok (.int .i64 (IntKind.i64.wrap (-i))) w:=by
   show (Op.intArith .sub .i64 0 i).run P w=_;simp [Op.intArith,aG]
  simp only [execOp,ha.ev hx,aSc,hu,aR3,aSe]
 rw [this,h]
theorem azT {k:IntKind} {i j l m:Int} {ts:Array TypeId} (hx:ev E x=some (.int k i)) (aI:ev E y=some (.int k j)) (bC:ev E z=some (.int k l)) (hu:ev E u=some (.int k m)):cW P E ⟨d, .call {callee:= .builtin .max,args:=#[x,y,z,u],argTypes:=ts},ty,pos,af,g⟩ w (.int k (max (max (max i j) l) m)) w :=
 bi (vs:= [.int k i, .int k j, .int k l, .int k m]) (by simp only [hU,hx,aI,bC,hu]) fun cs=>by
  have e:∀ a b:Int,(if b > a then b else a)=max a b:=fun a b=>by rw [Int.max_def];split<;>split<;>omega
  have:(Builtin.max_ ts ty #[.int k i, .int k j, .int k l, .int k m]).run P w= .ok (.int k (max (max (max i j) l) m)) w:=by
   rw [← e,← e,← e];simp [Builtin.max_,Builtin.max2]
  simp only [builtin,aSc,this,aR3,aSe]
end
def abJ (e:MapEntry) (p:Int×Int):Prop:=e.key= .int .i64 p.1∧e.val= .int .i64 p.2
def pR (w:World) (r:Nat) (l:List (Int×Int)):Prop:=∃ (es:Array MapEntry) (clock:Nat),w.heap[r]? =some (.map es clock)∧de abJ es.toList l
def cM (l:List (Int×Int)) (k:Int):Option Int:=(l.find? fun p=>p.1 == k).map (·.2)
section
variable {w w':World} {r:Nat} {l:List (Int×Int)} {S:List Nat}
theorem pR.lt (h:pR w r l):r<w.heap.size:=by
 obtain ⟨es,c,κ,_⟩:=h;exact (aSy.1 κ).1
theorem pR.later (h:pR w r l) (x:Ext w w'):pR w' r l:=by
 have ay:=h.lt;obtain ⟨es,c,κ,ab⟩:=h;exact ⟨es,c,by rw [x.block r ay];exact κ,ab⟩
theorem pR.mod (h:pR w r l) (m:Mod S w w') (hs:r∉S):pR w' r l:=by
 have ay:=h.lt;obtain ⟨es,c,κ,ab⟩:=h;exact ⟨es,c,by rw [m.block r ay hs];exact κ,ab⟩
theorem VO (k:Int):∀ {es:List MapEntry} {l:List (Int×Int)} (i:Nat),de abJ es l→(cM l k=none→Instr.findNow (.int .i64) (.int .i64 k) es i=some none)∧(∀ v,cM l k=some v→∃ j,Instr.findNow (.int .i64) (.int .i64 k) es i=some (some (j, .int .i64 v)))
 | [], [],i,_=>⟨fun _=>rfl,fun v h=>by simp [cM] at h⟩
 | e::es,p::l,i,h=>by
  obtain ⟨⟨ar,hv⟩,ab⟩:=h;have bx:=VO k (i+1) ab;have F5:Instr.sameNow (.int .i64) (.int .i64 k) e.key=some (decide (k=p.1)):=by
   rw [ar];obtain ⟨q,I,aq⟩:=MapKept.sameNow_of_keys (d:= .int .i64) (a:= .int .i64 k) (b:= .int .i64 p.1) rfl rfl;rw [I];cases q with
   | true=>have:=aq.1 rfl;injection this with _ this;rw [aSw this]
   | false=>rw [aSF fun e=>by have:=aq.2 (by rw [e]);cases this]
  by_cases he:k=p.1
  ·have Φ:(p.1 == k)=true:=by simp [he]
   rw [aSw he] at F5;refine ⟨fun aG=>by simp [cM,List.find?,Φ] at aG,fun v aG=>⟨i, ?_⟩⟩;have:p.2=v:=by simpa [cM,List.find?,Φ] using aG
   simp [Instr.findNow,F5,hv,this]
  ·have Φ:(p.1 == k)=false:=by simpa using fun e=>he e.symm
   rw [aSF he] at F5;have aO:cM (p::l) k=cM l k:=by simp [cM,List.find?,Φ]
   rw [aO];simpa [Instr.findNow,F5] using bx
end
section
variable {P:Program} {n:Nat} {E cU:List (Nat×Value)} {a:Act} {w w' w0 aT:World} {Q:Exit→Act→World→Prop} {ops:Array Oper}
variable {d:Option Nat} {ty:TypeId} {pos:String} {af:Array Edge} {g:Option (Nat×Bool)} {x y z u:Operand} {t:TypeId} {rest:List Oper} {v:Value}
theorem YC {d:Nat} (hd:Nat.blt d n=true) (h:∀ aT r,Ext w aT→w.heap.size≤r→pR aT r []→cK P n ops Q rest ((d, .map (some r))::E) aT):cK P n ops Q (⟨some d, .makeMap t none,ty,pos,af,none⟩::rest) E w:=by
 refine iT (w':=w.alloc (.map #[] 0)) (v:= .map (some w.heap.size)) (fun n a ha=> ?_) hd (h _ _ ((aSr _ w).alloc (aR7 _) _) (aR7 _) ⟨#[],0,(MapKept.heap_alloc w _).1,trivial⟩);simp only [execOp,Option.map,aSc,run_makeMap_plain,aR3,aSe]
theorem lk {MP Qi:TypeId} {r:Nat} {l:List (Int×Int)} {k:Int} (hm:P.underlying t=some (.map MP Qi)) (ar:P.underlying MP=some (.int .i64)) (he:mH P Qi (.int .i64 0)) (h:pR w r l) (hx:ev E x=some (.map (some r))) (aI:ev E y=some (.int .i64 k)):
  cW P E ⟨d, .lookup t x y true,ty,pos,af,g⟩ w (.tuple #[.int .i64 ((cM l k).getD 0), .bool (cM l k).isSome]) w:=fun n a ha=>by
 obtain ⟨es,c,κ,ab⟩:=h;have hf:=VO k 0 ab;have QU:=aWS (P:=P) (w:=w) ar (show MapKept.IsKey (.int .i64) (.int .i64 k) from rfl) es.isEmpty 9999;have lR:(Instr.lookup t (.map (some r)) (.int .i64 k) true).run P w= .ok (.tuple #[.int .i64 ((cM l k).getD 0), .bool (cM l k).isSome]) w:=by
  cases aO:cM l k with
  | none =>
   have:=aVB (P:=P) (w:=w) ar (hf.1 aO);simp [Instr.lookup,aSc,aTa hm,aSQ κ,QU,this,he w,Result.andThen]
  | some v =>
   obtain ⟨j,az⟩:=hf.2 v aO;have:=aVB (P:=P) (w:=w) ar az;simp [Instr.lookup,aSc,aTa hm,aSQ κ,QU,this,Result.andThen]
 simp only [execOp,ha.ev hx,ha.ev aI,aSc,lR,aR3,aSe]
theorem mu {MP Qi:TypeId} {r:Nat} {l:List (Int×Int)} {k v:Int} (hm:P.underlying t=some (.map MP Qi)) (ar:P.underlying MP=some (.int .i64)) (h:pR w r l) (aO:cM l k=none) (hx:ev E x=some (.map (some r))) (aI:ev E y=some (.int .i64 k)) (bC:ev E z=some (.int .i64 v))
  (hK:∀ aT,Mod [r] w aT→pR aT r (l++ [(k,v)])→cK P n ops Q rest E aT):cK P n ops Q (⟨none, .mapUpdate t x y z,ty,pos,af,none⟩::rest) E w:=by
 have bz:=h.lt;obtain ⟨es,c,κ,ab⟩:=h;have hf:=(VO k 0 ab).1 aO;have QU:=aWS (P:=P) (w:=w) ar (show MapKept.IsKey (.int .i64) (.int .i64 k) from rfl) false 9999;have awv:=aVB (P:=P) (w:=w) ar hf;have wk:=aTi (P:=P) (.map (es.push {key:= .int .i64 k,val:= .int .i64 v,born:=c}) (c+1)) κ;refine us (w':= {w with heap:=w.heap.setIfInBounds r (.map (es.push {key:= .int .i64 k,val:= .int .i64 v,born:=c}) (c+1))}) (fun n a ha=> ?_) (hK _ ⟨Z,Z,Z,by simp,fun q I hn=> ?_⟩ ⟨es.push {key:= .int .i64 k,val:= .int .i64 v,born:=c},c+1,(MapKept.heap_set κ).1, ?_⟩)
 ·have lR:(Instr.mapUpdate t (.map (some r)) (.int .i64 k) (.int .i64 v)).run P w= .ok () {w with heap:=w.heap.setIfInBounds r (.map (es.push {key:= .int .i64 k,val:= .int .i64 v,born:=c}) (c+1))}:=by
   simp [Instr.mapUpdate,aSc,aTa hm,aSQ κ,QU,awv,wk,Result.andThen]
  simp only [execOp,ha.ev hx,ha.ev aI,ha.ev bC,aSc,lR,aR3,aSe]
 ·exact (MapKept.heap_set κ).2 q (by simpa using hn)
 ·rw [Array.toList_push];exact ab.app ⟨⟨Z,Z⟩,trivial⟩
end
theorem azU {w:World} {B e size c m:Nat} {G:Nat→Value→Prop} {z:Array Value} (bC:z.size=size) (aG:0<size) (br:∀ (j:Nat) u,z[j]? =some u→G j u) (bf:B≤w.heap.size) (hm:m≤c) (hc:c≤maxLen):
  Own (w.alloc (.cells (madeCells z (c * size)) e)) B e size G (.slice (some ⟨w.heap.size,0,none⟩) m c) m ((madeCells z (c * size)).toList.take (m * size)):=by
 have axe:m * size≤c * size:=aSI _ hm;refine ⟨by rw [aRZ,aUf,aVs];omega, .inr ⟨w.heap.size,c,_,rfl,bf,(MapKept.heap_alloc w _).1,hm,hc,aVs _ _,rfl,fun j u hu=> ?_⟩⟩;have bz:=(aSy.1 hu).1;simp only [madeCells,aVA] at hu;rw [aVs] at bz;rw [aVn,aR8 bz] at hu;have az:j % size<z.size:=by rw [bC];exact aT6 _ aG
 have e:z[j % z.size]! =z[j % size]:=by rw [bC];exact getElem!_pos z (j % size) az
 rw [aTv,e] at hu;exact br _ _ (by rw [Array.getElem?_eq_getElem az];exact hu)
section
variable {P:Program} {n:Nat} {E cU:List (Nat×Value)} {a:Act} {w w' w0 aT:World} {Q:Exit→Act→World→Prop} {ops:Array Oper}
variable {d:Nat} {ty:TypeId} {pos:String} {af:Array Edge} {g:Option (Nat×Bool)} {x y z:Operand} {t:TypeId} {rest:List Oper}
theorem Yu {α:Type} {R:τ α} {e by_ B m c:Nat} {zv:Value} {l:List α} (cj:R.Plain) (aC:P.underlying t=some (.slice e)) (aq:(P.info? e).map (fun i=>(i.zero,i.size,i.bytes))=some (some zv,R.size,by_)) (κ:zv.cells.size=R.size) (ab:0<R.size) (aw:∀ (j:Nat) u,zv.cells[j]? =some u→R.raw j u)
  (hx:ev E x=some (.int .i64 (m:Int))) (aI:ev E y=some (.int .i64 (c:Int))) (hd:Nat.blt d n=true) (hm:m≤c) (Φ:c * by_≤140737488355328) (hc:c≤9223372036854775807) (bf:B≤w.heap.size) (ay:l.length=m) {ess:List (List Value)} (awu:∀ w,de (fun es a=>R.has w es a) ess l) (qY:ess.flatten=(madeCells zv.cells (c * R.size)).toList.take (m * R.size))
  (h:∀ aT b,Ext w aT→w.heap.size≤b→R.aF e by_ aT B (τ.ah (some ⟨b,0,none⟩)) (some ⟨b,0,none⟩) c l→cK P n ops Q rest ((d, .slice (some ⟨b,0,none⟩) m c)::E) aT):cK P n ops Q (⟨some d, .makeSlice t x y,ty,pos,af,none⟩::rest) E w:=by
 cases I:P.info? e with
 | none=>rw [I] at aq;cases aq
 | some i =>
  rw [I] at aq;simp only [aTv,aUO,aWg] at aq;obtain ⟨i1,i2,i3⟩:=aq;have bw:(i.bytes:Int) * (c:Int)≤281474976710656:=by
   have:i.bytes * c≤281474976710656:=by rw [i3,aTe];omega
   have h:((i.bytes * c:Nat):Int)≤281474976710656:=by omega
   rwa [Int.natCast_mul] at h
  have hr:=run_make (P:=P) w t e i zv aC I i1 .i64 .i64 (m:Int) (c:Int) (by omega) (by omega) bw (by omega);simp only [aSR] at hr;have b4:=azU (w:=w) (e:=e) (c:=c) (m:=m) κ ab aw bf hm (by simp [maxLen];omega);rw [← qY] at b4;subst ay;rw [i2] at hr;refine iT (fun n a ha=> ?_) hd (h _ w.heap.size ((aSr _ w).alloc (aR7 _) _) (aR7 _) (τ.aF.B6 (R:=R) cj (awu _) (aSs (aSI _ hm) Φ) b4));simp only [execOp,ha.ev hx,ha.ev aI,aSc,hr,aR3,aSe]
theorem RF {α:Type} {R:τ α} {e by_ B c:Nat} {zv:Value} (cj:R.Plain) (aC:P.underlying t=some (.slice e)) (aq:(P.info? e).map (fun i=>(i.zero,i.size,i.bytes))=some (some zv,R.size,by_)) (κ:zv.cells.size=R.size) (ab:0<R.size) (aw:∀ (j:Nat) u,zv.cells[j]? =some u→R.raw j u)
  (hx:ev E x=some (.int .i64 0)) (aI:ev E y=some (.int .i64 (c:Int))) (hd:Nat.blt d n=true) (Φ:c * by_≤140737488355328) (hc:c≤9223372036854775807) (bf:B≤w.heap.size)
  (h:∀ aT b,Ext w aT→w.heap.size≤b→R.aF e by_ aT B (τ.ah (some ⟨b,0,none⟩)) (some ⟨b,0,none⟩) c ([]:List α)→cK P n ops Q rest ((d, .slice (some ⟨b,0,none⟩) 0 c)::E) aT):cK P n ops Q (⟨some d, .makeSlice t x y,ty,pos,af,none⟩::rest) E w :=
 Yu (m:=0) (l:=([]:List α)) (ess:= []) cj aC aq κ ab aw hx aI hd (aSM _) Φ hc bf rfl (fun _=>trivial) (by simp) h
theorem M0 {α:Type} {R:τ α} {e by_ B c:Nat} {zv:Value} {q:α} (cj:R.Plain) (aC:P.underlying t=some (.slice e)) (aq:(P.info? e).map (fun i=>(i.zero,i.size,i.bytes))=some (some zv,R.size,by_)) (hs:R.size=1) (κ:zv.cells=#[zv]) (aw:∀ (j:Nat) u,zv.cells[j]? =some u→R.raw j u) (I:∀ w,R.has w [zv] q)
  (hx:ev E x=some (.int .i64 (c:Int))) (aI:ev E y=some (.int .i64 (c:Int))) (hd:Nat.blt d n=true) (Φ:c * by_≤140737488355328) (hc:c≤9223372036854775807) (bf:B≤w.heap.size)
  (h:∀ aT b,Ext w aT→w.heap.size≤b→R.aF e by_ aT B (τ.ah (some ⟨b,0,none⟩)) (some ⟨b,0,none⟩) c (List.replicate c q)→cK P n ops Q rest ((d, .slice (some ⟨b,0,none⟩) c c)::E) aT):cK P n ops Q (⟨some d, .makeSlice t x y,ty,pos,af,none⟩::rest) E w:=by
 refine Yu (m:=c) (ess:=List.replicate c [zv]) cj aC aq (by rw [κ,hs];rfl) (by omega) aw hx aI hd (aR7 _) Φ hc bf (by simp) (fun w=> ?_) ?_ h
 ·clear h Φ hc hx aI;induction c with
  | zero=>trivial
  | succ c bx=>exact ⟨I w,bx⟩
 ·rw [hs,aUP,κ];apply aTN;intro i;simp only [aSE,aS1,madeCells,aVA,aVn];have aZ:∀ k:Nat,(List.replicate k [zv]).flatten=List.replicate k zv:=fun k=>by
   induction k with
   | zero=>rfl
   | succ k bx=>simp [aWE,bx]
  rw [aZ,aS3];split
  ·simp [Nat.mod_one]
  ·rfl
end
def eW (A:Option Addr) (c lo s:Nat):Option Addr:=if c=lo then A else A.map (·.add (lo * s))
theorem VT {β:Type} {size:Nat}:∀ (lo:Nat) {ess:List (List β)},(∀ x∈ess,x.length=size)→(ess.drop lo).flatten=ess.flatten.drop (lo * size)
 | 0,ess,_=>by simp
 | lo+1, [],_=>by simp
 | lo+1,x::ess,h=>by
  have hx:=h x aSj;rw [aWH,VT lo fun y aI=>h y (aSa _ aI),aSP,aTx,aVG,← aV6];congr 1;rw [List.drop_append_of_le_length (by omega),aWt (by omega)];rfl
theorem Qm {β:Type} {size:Nat}:∀ (n:Nat) {ess:List (List β)},(∀ x∈ess,x.length=size)→(ess.take n).flatten=ess.flatten.take (n * size)
 | 0,ess,_=>by simp
 | n+1, [],_=>by simp
 | n+1,x::ess,h=>by
  have hx:=h x aSj;have e:(n+1) * size=size+n * size:=by rw [aTx,aVG]
  rw [aVp,aSP,Qm n fun y aI=>h y (aSa _ aI),aSP,e,aVR,hx,Nat.add_sub_cancel_left,aSk (by rw [hx];omega:x.length≤size+n * size)]
theorem de.drop {α β:Type} {P:β→α→Prop}:∀ (n:Nat) {l:List β} {m:List α},de P l m→de P (l.drop n) (m.drop n)
 | 0,_,_,h=>h
 | n+1, [], [],_=>trivial
 | n+1,_::_,_::_,h=>de.drop n h.2
theorem de.take {α β:Type} {P:β→α→Prop}:∀ (n:Nat) {l:List β} {m:List α},de P l m→de P (l.take n) (m.take n)
 | 0,_,_,_=>trivial
 | n+1, [], [],_=>trivial
 | n+1,_::_,_::_,h=>⟨h.1,de.take n h.2⟩
theorem τ.aJ.sub {α:Type} {R:τ α} {by_ c:Nat} {A:Option Addr} {l:List α} {w:World} (h:R.aJ by_ w A c l) (lo aq:Nat) (κ:lo≤aq) (ab:aq≤l.length):R.aJ by_ w (eW A c lo R.size) (c - lo) ((l.drop lo).take (aq - lo)):=by
 obtain ⟨g1,g2,g3,g4,ess,g5,g6⟩:=h;have hlen:((l.drop lo).take (aq - lo)).length=aq - lo:=by rw [aRZ,aSf];omega
 have hu:∀ x∈ess,x.length=R.size:=fun x hx=>by obtain ⟨a,ha⟩:=g5.left x hx;exact R.len ha
 refine ⟨by rw [hlen];omega,by omega,by rw [hlen];exact aSs (aSI _ (by omega)) g3,fun hn=> ?_,(ess.drop lo).take (aq - lo),(g5.drop lo).take _, ?_⟩
 ·unfold eW at hn;split at hn
  ·omega
  ·cases A with
   | none=>have:=g4 rfl;omega
   | some a=>cases hn
 ·have ax0:∀ x∈ess.drop lo,x.length=R.size:=fun x hx=>hu x (aVj hx);have Ip:ess.length=l.length:=g5.length;rw [Qm _ ax0,VT _ hu,hlen];have qY:=Bm hu;refine ⟨?_,fun aG=> ?_⟩
  ·rw [aRZ,aSf,qY,Ip,← Nat.sub_mul,aTM (aSI _ (by omega))]
  ·obtain ⟨b,o,rfl,hc⟩:=g6.2 (by omega);have fl:¬ c=lo:=by omega
   refine ⟨b,o+lo * R.size,by unfold eW;rw [aR5 fl];simp [Addr.add],fun j u az=> ?_⟩;rw [aSE] at az;split at az
   ·rw [aS0] at az;rw [aUy];exact hc _ u az
   ·cases az
section
variable {P:Program} {n:Nat} {E cU:List (Nat×Value)} {w:World} {d:Option Nat} {ty:TypeId} {pos:String} {af:Array Edge} {g:Option (Nat×Bool)} {x y z:Operand} {t:TypeId}
theorem aCH {A:Option Addr} {len cap e s:Nat} {k k':IntKind} (lo aq:Nat) {i j:Int} (aC:P.underlying t=some (.slice e)) (hs:eI P e s) (hx:ev E x=some (.slice A len cap)) (aI:ev E y=some (.int k i)) (bC:ev E z=some (.int k' j)) (BB:i=(lo:Int)) (F1:j=(aq:Int)) (κ:lo≤aq) (ab:aq≤cap):
  cW P E ⟨d, .slice t x (some y) (some z) none,ty,pos,af,g⟩ w (.slice (eW A cap lo s) (aq - lo) (cap - lo)) w:=fun n a ha=>by
 subst BB;subst F1;have lX:P.underlying t=some (.slice (P.elem t)):=by simp [Program.elem,aC]
 have nj:P.elem t=e:=by simp [Program.elem,aC]
 have aw:=run_slice_lh (P:=P) (w:=w) t A len cap lX k k' (lo:Int) (aq:Int) (by omega) (by omega) (by omega);have a6:=aUv (P:=P) (w:=w) t (.slice A len cap) (some (.int k (lo:Int))) (some (.int k' (aq:Int))) none lX;rw [nj,hs w] at aw;simp only [execOp,ha.ev hx,ha.ev aI,ha.ev bC,Option.map,a6,aw,aSc,aR3,aSe,sliced,aSR,eW]
end
open Tryz

section
variable {P:Program} {n:Nat} {E cU:List (Nat×Value)} {a:Act} {w w' w0 aT:World} {Q:Exit→Act→World→Prop} {ops:Array Oper}
variable {d:Option Nat} {ty:TypeId} {pos:String} {af:Array Edge} {g:Option (Nat×Bool)} {x y z:Operand} {t:TypeId} {rest:List Oper} {v:Value}
theorem aCA {f:FuncId} (hf:Enters P f) {xs:Array Operand} {ts:Array TypeId} {args KJ:List Value} {a:Act} (ha:ep n E a) (hx:ev E x=some (.func (.func f) #[] KJ.toArray)) (he:hU E xs.toList=some args):
  (execOp a.eval ⟨d, .call {callee:= .value x,args:=xs,argTypes:=ts},ty,pos,af,g⟩).run P w= .ok (.enter f (args++KJ).toArray) w:=by
 obtain ⟨fn,κ,ab,aw⟩:=hf;have hm:xs.map a.eval=args.toArray:=by rw [← ha.hU he];apply aTq;simp
 have hp:Sem.run P program w= .ok P w:=rfl;unfold execOp;simp only [resolve,invoke,Deferred.ofValue,ha.ev hx,callFunc,aSc,aSe,aR3,hm,hp,κ,ab,aw,aUJ,aSG,aTm];simp
theorem PM {d:Nat} {f:FuncId} (hf:Enters P f) {xs:Array Operand} {ts:Array TypeId} {args KJ:List Value} (hx:ev E x=some (.func (.func f) #[] KJ.toArray)) (he:hU E xs.toList=some args) (hd:Nat.blt d n=true)
  (h:Calls P f (args++KJ).toArray w fun e w'=>∃ v,e= .returned v∧cK P n ops Q rest ((d,v)::E) w'):cK P n ops Q (⟨some d, .call {callee:= .value x,args:=xs,argTypes:=ts},ty,pos,af,none⟩::rest) E w:=fun a ha=>by
 refine Hv Z ?_;unfold Oper.wp;rw [aCA hf ha hx he];refine aVP h fun e w' fV=> ?_;obtain ⟨v,rfl,h⟩:=fV;exact h _ (ha.put hd v)
theorem ne {fn:Func} {R:Ending→World→Prop} (h:T n (bodyPost P fn R) E w):N n (bodyPost P fn R) E w:=fun a ha=>h a ha
end
def Raw (aD size j:Nat) (w:World) (A:Option Addr) (c:Nat):Prop :=
 (A=none∧c=0)∨∃ (b:Nat) (cur:List Value) (e:TypeId),A=some ⟨b,0,none⟩∧aD≤b∧aP w b cur e (0,0)∧∀ i,i<c→∃ m:Int,cur[i * size+j]? =some (.int .i64 m)
section
variable {w w':World} {aD size j c i:Nat} {A:Option Addr} {S:List Nat}
theorem Raw.later (h:Raw aD size j w A c) (x:Ext w w'):Raw aD size j w' A c:=by
 rcases h with h | ⟨b,cur,e,κ,ab,aw,a6⟩
 ·exact .inl h
 ·exact .inr ⟨b,cur,e,κ,ab,aw.later x,a6⟩
theorem Raw.bP (h:Raw aD size j w A c) (aG:0<c):A=some ⟨eU A,la A,none⟩:=by
 rcases h with ⟨_,h⟩ | ⟨b,cur,e,rfl,_⟩
 ·omega
 ·rfl
theorem Raw.get (h:Raw aD size j w A c) (aq:i<c):∃ m:Int,w.cell? ⟨eU A,la A+i * size+j,none⟩=some (.int .i64 m):=by
 rcases h with ⟨_,h⟩ | ⟨b,cur,e,rfl,_,aw,a6⟩
 ·omega
 ·obtain ⟨m,hm⟩:=a6 i aq;exact ⟨m,by rw [show (⟨eU (some ⟨b,0,none⟩),la (some ⟨b,0,none⟩)+i * size+j,none⟩:Addr)=⟨b,i * size+j,none⟩ from by simp [eU,la],aw.cell,hm]⟩
end
open Tryz
end Go.Proofs.YtmeeljmapailnaaGreat
