import Derived.Test.YtlikikpgmmkjbaaGreatBas
import Derived.Test.YtlikikpgmmkjbaaGreatProg
import Derived.WideMake
set_option linter.unusedVariables false
set_option linter.unusedSimpArgs false
set_option maxRecDepth 100000
set_option maxHeartbeats 4000000
open Go.RowKit
namespace Go.Proofs.YtlikikpgmmkjbaaGreat
open Tryz
open Tryz
abbrev aRB:=@List.getD_eq_getElem?_getD
abbrev aRM:=@List.length_nil
abbrev aRZ:=@List.mem_cons_self
abbrev aSe:=@decide_eq_true
abbrev aSk:=@decide_eq_false
abbrev aSy:=@Int.toNat_natCast
abbrev aSH:=@List.getElem?_replicate
abbrev aTh:=@Nat.succ_mul
abbrev aTk:=@Nat.lt_of_lt_of_le
abbrev aTq:=@Nat.min_eq_left
abbrev aTI:=@And.left
abbrev aTK:=@Nat.le_of_ble_eq_true
abbrev aT5:=@of_decide_eq_false
abbrev aUe:=@Go.run_sliceAt_slice
abbrev aUj:=@Nat.add_assoc
abbrev aUv:=@Nat.mul_one
abbrev aUy:=@Nat.lt_succ_iff_lt_or_eq
abbrev aUR:=@Nat.eq_of_beq_eq_true
abbrev aUU:=@List.getElem?_toArray
abbrev aU1:=@List.mem_of_mem_drop
abbrev aVb:=@Go.size_madeCells
abbrev aVc:=@Prod.mk.injEq
abbrev aVj:=@Go.MapKept.run_findKey
abbrev aVn:=@Nat.add_comm
abbrev aVH:=@Array.getD_eq_getD_getElem?
abbrev aVP:=@Array.getElem?_append_left
abbrev aVX:=@List.getElem?_take_of_lt
abbrev aV1:=@getElem!_pos
abbrev aV5:=@Nat.ne_of_beq_eq_false
abbrev aV7:=@List.drop_of_length_le
abbrev aWi:=@Array.size_replicate
abbrev aWo:=@List.replicate_succ
abbrev aWr:=@List.drop_succ_cons
abbrev aWA:=@not_true_eq_false
abbrev aWF:=@Go.MapKept.run_checkKey

def fO (n:Int):Prop:=(Lit.int .i64 n).wf=true
theorem bI {n:Int}:fO n↔ -9223372036854775808≤n∧n≤9223372036854775807:=by
 unfold fO;simp [Lit.wf,IntKind.min,IntKind.max,IntKind.signed,IntKind.bits]
def bP:κ Int:=κ.flat 1 (fun n=> [.int .i64 n]) fO (fun _ u=>∃ n:Int,u= .int .i64 n) (fun _=>rfl) (by intro a u hu;simp at hu;subst hu;rfl) (by
 intro a j u hu;cases j with
 | zero=>simp at hu;exact ⟨a,hu.symm⟩
 | succ j=>simp at hu)
def zG:κ Bool:=κ.flat 1 (fun n=> [.bool n]) (fun _=>True) (fun _ u=>∃ n:Bool,u= .bool n) (fun _=>rfl) (by intro a u hu;simp at hu;subst hu;rfl) (by
 intro a j u hu;cases j with
 | zero=>simp at hu;exact ⟨a,hu.symm⟩
 | succ j=>simp at hu)
def u1:κ ByteArray:=κ.Vs 1 (fun n=> [.string n]) (fun s=>s.size≤140737488351232) (fun _ u=>∃ n:ByteArray,u= .string n∧n.size≤140737488351232) (fun _=>rfl) (by intro a u hu;simp at hu;subst hu;rfl) (by
 intro a ok j u hu;cases j with
 | zero=>simp at hu;exact ⟨a,hu.symm,ok⟩
 | succ j=>simp at hu)
theorem akt:bP.Plain:=κ.oU
theorem aCs:u1.sM:=κ.atX
section
variable {by_:Nat} {w:World} {A:Option Addr} {c:Nat}
theorem FU {l:List Int} (h:bP.aJ by_ w A c l) (aH:0<l.length):∃ b o,A=some ⟨b,o,none⟩∧∀ (i:Nat) (a:Int),l[i]? =some a→w.cell? ⟨b,o+i,none⟩=some (.int .i64 a):=by
 obtain ⟨b,o,e,hc⟩:=h.at_ aH;refine ⟨b,o,e,fun i a ha=> ?_⟩;obtain ⟨es,⟨rfl,_⟩,ay⟩:=hc i a ha;have:=ay 0 _ rfl;simpa [bP,κ.flat] using this
end
theorem YR (w:World) (cs:List Value) (h:(.int .i64:gK).i_ w cs):∃ a,bP.has w cs a:=by
 obtain ⟨n,rfl,hn⟩:=h;exact ⟨n,Z,hn⟩
theorem IN {by_:Nat} {w:World} {A:Option Addr} {c:Nat} {l:List Int} (h:bP.aJ by_ w A c l):∀ a∈l,fO a:=κ.aJ.y0 (R:=bP) (Q:=fO) (fun {w cs a} (h:bP.has w cs a)=>(show cs= [.int .i64 a]∧fO a from h).2) h
theorem C8:(prog.info? 3).map (fun i=>(i.zero,i.size,i.bytes))=some (some (.int .i64 0),1,8):=by kernel_rfl
theorem iN {α:Type} {l:List α} {i:Nat} (h:i<l.length):∃ a,l[i]? =some a:=⟨_,aRD h⟩
open Tryz
theorem aFB:∀ (j:Nat) u,(Value.int .i64 0).cells[j]? =some u→bP.raw j u:=by
 intro j u hu;have hu:(#[Value.int .i64 0]:Array Value)[j]? =some u:=hu
 match j,hu with
 | 0,hu=>exact ⟨0,(aRA hu).symm⟩
 | j+1,hu=>cases hu
open Tryz

abbrev Env:=List (Nat×Value)
def look:List (Nat×Value)→Nat→Option Value
 | [],_=>none
 | (k,v)::r,t=>match Nat.beq k t with | true=>some v | false=>look r t
structure er (n:Nat) (E:List (Nat×Value)) (a:Act):Prop where
 d:a.defers= []
 s:a.tmps.size=n
 g:∀ t v,look E t=some v→a.tmps[t]? =some v
def ev (E:List (Nat×Value)):Operand→Option Value
 | .tmp t=>look E t
 | .const v=>some v
 | .global g=>some (.pointer (some ⟨g,0,none⟩))
 | .func f=>some (.func (.func f) #[] #[])
def hq (E:List (Nat×Value)):List Operand→Option (List Value)
 | []=>some []
 | x::r=>match ev E x with
  | some v=>match hq E r with
   | some l=>some (v::l)
   | none=>none
  | none=>none
section
variable {P:Program} {n:Nat} {E cP:List (Nat×Value)} {a:Act} {w w' aP:World} {Q:Exit→Act→World→Prop} {ops:Array Oper} {v:Value}
theorem er.ev {x:Operand} (h:er n E a) (hx:ev E x=some v):a.eval x=v:=by
 cases x with
 | tmp t=>have:=h.g t v hx;simp [Act.eval,this]
 | const u=>exact aRA hx
 | global g=>exact aRA hx
 | func f=>exact aRA hx
theorem er.hq (h:er n E a):∀ {l:List Operand} {vs:List Value},hq E l=some vs→l.map a.eval=vs
 | [],_,e=>by simp only [Proofs.YtlikikpgmmkjbaaGreat.hq] at e;exact aRA e
 | x::r,vs,e=>by
  simp only [Proofs.YtlikikpgmmkjbaaGreat.hq] at e;cases hx:Proofs.YtlikikpgmmkjbaaGreat.ev E x with
  | none=>rw [hx] at e;cases e
  | some v =>
   rw [hx] at e;simp only at e;cases hr:Proofs.YtlikikpgmmkjbaaGreat.hq E r with
   | none=>rw [hr] at e;cases e
   | some l =>
    rw [hr] at e;simp only at e;obtain rfl:=aRA e;rw [aSs,h.ev hx,er.hq h hr]
theorem er.put {d:Nat} (h:er n E a) (hd:Nat.blt d n=true) (v:Value):er n ((d,v)::E) (a.put (some d) v):=by
 rw [aVe] at hd;refine ⟨h.d,by simp [Act.put,h.s],fun t u hu=> ?_⟩;simp only [look] at hu;cases Φ:Nat.beq d t with
 | true =>
  rw [Φ] at hu;obtain rfl:d=t:=aUR Φ;obtain rfl:=aRA hu;simp [Act.put,h.s,hd]
 | false =>
  rw [Φ] at hu;have fh:d≠t:=aV5 Φ;simp only [Act.put];rw [aTu fh];exact h.g t u hu
theorem er.none (h:er n E a) (v:Value):er n E (a.put none v):=h
def Sub (cP E:List (Nat×Value)):Prop:=∀ t v,look cP t=some v→look E t=some v
theorem Sub.nil:Sub [] E:=fun t v h=>by simp [look] at h
theorem Sub.cons {k:Nat} (h:look E k=some v) (hs:Sub cP E):Sub ((k,v)::cP) E:=fun t u hu=>by
 simp only [look] at hu;cases Φ:Nat.beq k t with
 | true=>rw [Φ] at hu;obtain rfl:k=t:=aUR Φ;obtain rfl:=aRA hu;exact h
 | false=>rw [Φ] at hu;exact hs t u hu
theorem er.sub (h:er n E a) (hs:Sub cP E):er n cP a:=⟨h.d,h.s,fun t v hv=>h.g t v (hs t v hv)⟩
def W (P:Program) (n:Nat) (c:Code) (Q:Exit→Act→World→Prop) (E:List (Nat×Value)) (w:World):Prop:=∀ a,er n E a→c.wp P Q a w
def N (n:Nat) (Q:Exit→Act→World→Prop) (E:List (Nat×Value)) (w:World):Prop:=∀ a,er n E a→Q .normal a w
def X (n:Nat) (Q:Exit→Act→World→Prop) (id:Nat) (E:List (Nat×Value)) (w:World):Prop:=∀ a,er n E a→Q (.exit id) a w
def T (n:Nat) (Q:Exit→Act→World→Prop) (E:List (Nat×Value)) (w:World):Prop:=∀ a,er n E a→Q .ret a w
def cE (P:Program) (n:Nat) (ops:Array Oper) (Q:Exit→Act→World→Prop) (l:List Oper) (E:List (Nat×Value)) (w:World):Prop:=∀ a,er n E a→wpList P ops Q l a w
abbrev rF (P:Program) (y:Code) (Q:Exit→Act→World→Prop):Exit→Act→World→Prop:=Exit.then (fun a w=>y.wp P Q a w) Q
theorem aA {x y:Code} (h:W P n x (rF P y Q) E w):W P n (.seq x y) Q E w:=fun a ha=>wp_seq (h a ha)
theorem e9 (h:N n Q E w):W P n .skip Q E w:=fun a ha=>wp_skip (h a ha)
theorem rt (h:T n Q E w):W P n .ret Q E w:=fun a ha=>wp_ret (h a ha)
theorem dH {id:Nat} (h:X n Q id E w):W P n (.exit id) Q E w:=fun a ha=>wp_exit (h a ha)
theorem bM {id:Nat} {c:Code} (h:W P n c (Exit.inBlock id Q) E w):W P n (.block id c) Q E w:=fun a ha=>wp_block (h a ha)
theorem rg {id:Nat} {l:List Oper} (h:cE P n l.toArray Q l E w):W P n (.region id l.toArray false) Q E w:=fun a ha=>wp_region_lit (h a ha)
theorem fA {c:Operand} {x y:Code} (hc:ev E c=some (.bool true)) (h:W P n x Q E w):W P n (.cond c x y) Q E w:=fun a ha=>wp_cond_true (ha.ev hc) (h a ha)
theorem hL {c:Operand} {x y:Code} (hc:ev E c=some (.bool false)) (h:W P n y Q E w):W P n (.cond c x y) Q E w:=fun a ha=>wp_cond_false (ha.ev hc) (h a ha)
theorem Ur {c:Operand} {x y:Code} (b:Bool) (hc:ev E c=some (.bool b)) (τ:b=true→W P n x Q E w) (aa:b=false→W P n y Q E w):W P n (.cond c x y) Q E w :=
 fun a ha=>wp_cond_split (ha.ev hc) (fun h=>τ h a ha) (fun h=>aa h a ha)
theorem dJ {c:Operand} {x y:Code} {b:Bool} (hc:ev E c=some (.bool b)) (τ:b=true→W P n x Q E w) (aa:b=false→W P n y Q E w):W P n (.cond c x y) Q E w:=Ur b hc τ aa
theorem nl (h:N n Q E w):cE P n ops Q [] E w:=h
theorem aV {y:Code} (h:W P n y Q E w):N n (rF P y Q) E w:=h
theorem b0 {id:Nat} (h:N n Q E w):N n (Exit.inBlock id Q) E w:=h
theorem dG {y:Code} {id:Nat} (h:X n Q id E w):X n (rF P y Q) id E w:=h
theorem ef {K:Act→World→Prop} {id:Nat} (h:X n Q id E w):X n (Exit.then K Q) id E w:=h
theorem dF {id:Nat} (h:N n Q E w):X n (Exit.inBlock id Q) id E w:=fun a ha=>by simp only [Exit.inBlock,aTm];exact h a ha
theorem Ny {id QZ:Nat} (fh:Nat.beq QZ id=false) (h:X n Q QZ E w):X n (Exit.inBlock id Q) QZ E w:=fun a ha=>by simp only [Exit.inBlock,aRL (aV5 fh)];exact h a ha
theorem bT {y:Code} (h:T n Q E w):T n (rF P y Q) E w:=h
theorem nR {K:Act→World→Prop} (h:T n Q E w):T n (Exit.then K Q) E w:=h
theorem e_ {id:Nat} (h:T n Q E w):T n (Exit.inBlock id Q) E w:=h
def Ct:Nat→List Value→List (Nat×Value)
 | _, []=> []
 | i,v::r=>(i,v)::Ct (i+1) r
theorem T5:∀ (l:List Value) (i t:Nat) (v:Value),look (Ct i l) t=some v→∃ j,t=i+j∧l[j]? =some v
 | [],_,_,_,h=>by simp [Ct,look] at h
 | u::r,i,t,v,h=>by
  simp only [Ct,look] at h;cases Φ:Nat.beq i t with
  | true=>rw [Φ] at h;exact ⟨0,by have:=aUR Φ;omega,by simpa using h⟩
  | false =>
   rw [Φ] at h;obtain ⟨j,e,ay⟩:=T5 r (i+1) t v h;exact ⟨j+1,by omega,by simpa using ay⟩
theorem ch {f:FuncId} {fn:Func} {c:Code} {l:List Value} {R:Ending→World→Prop} (hf:P.funcs[f]? =some fn) (Φ:fn.body=some c) (hn:fn.ntmps=n) (az:Nat.ble l.length n=true)
  (h:W P n c (bodyPost P fn R) (Ct 0 l) w):Calls P f l.toArray w R:=by
 refine calls_of_wp hf Φ (h _ ⟨Z, ?_,fun t v hv=> ?_⟩)
 ·have:=aTK az;simp only [aVu,aWi,hn,aTc];omega
 ·obtain ⟨j,e,ay⟩:=T5 l 0 t v hv;have bw:=(aRC.1 ay).1;rw [aVP (by simp;omega)];simpa [show t=j by omega] using ay
inductive xc (P:Program) (E:List (Nat×Value)) (w:World):List ResultVar→List Value→Prop
 | nil:xc P E w [] []
 | tmp {t:Nat} {v:Value} {r:List ResultVar} {vs:List Value} (h:look E t=some v) (hr:xc P E w r vs):xc P E w (.tmp t::r) (v::vs)
 | cell {t:Nat} {ty:TypeId} {p:Addr} {v:Value} {r:List ResultVar} {vs:List Value} (h:look E t=some (.pointer (some p))) (az:(loadVar ty p).run P w= .ok v w) (hr:xc P E w r vs):xc P E w (.cell t ty::r) (v::vs)
def u3:List Value→Value
 | [v]=>v
 | vs=> .tuple vs.toArray
theorem xc.run {l:List ResultVar} {vs:List Value} (h:xc P E w l vs) (ha:er n E a) (f:ResultVar→Sem Value) (f1:∀ t,f (.tmp t)=pure (a.tmps.getD t undef)) (f2:∀ c t,f (.cell c t)=(asAddr (a.tmps.getD c undef)>>= fun p=>loadVar t p)):
  (l.mapM f).run P w= .ok vs w:=by
 induction h with
 | nil=>rfl
 | @tmp t v r vs h hr bD =>
  have aa:a.tmps.getD t undef=v:=by rw [aVH,ha.g _ _ h];rfl
  simp only [List.mapM_cons,aRS,f1,aa,aRT,aRJ,bD]
 | @cell t ty p v r vs h az hr bD =>
  have aa:a.tmps.getD t undef= .pointer (some p):=by rw [aVH,ha.g _ _ h];rfl
  simp only [List.mapM_cons,aRS,f2,aa,asAddr,aRT,aRJ,az,bD]
theorem YV {fn:Func} {vs:List Value} (h:xc P E w fn.results.toList vs) (ha:er n E a):(results fn a.tmps).run P w= .ok (u3 vs) w:=by
 unfold results;rw [Array.mapM_eq_mapM_toList];simp only [aRS,Sem.run_map];rw [h.run ha _ (fun _=>rfl) (fun _ _=>rfl)]
 match vs with
 | []=>rfl
 | [v]=>rfl
 | _::_::_=>simp [u3]
theorem bb {fn:Func} {R:Ending→World→Prop} {vs:List Value} (h:xc P E w fn.results.toList vs) (hR:R (.returned (u3 vs)) w):T n (bodyPost P fn R) E w :=
 fun a ha=>⟨ha.d,_,YV h ha,hR⟩
def Ox (n:Nat) (kD:Nat→List (Nat×Value)→World→Prop) (m:Nat):Act→World→Prop:=fun a w=>∃ m',m'<m∧∃ cP,kD m' cP w∧er n cP a
theorem e8 {c:Code} (kD:Nat→List (Nat×Value)→World→Prop) (m:Nat) (cP:List (Nat×Value)) (aH:kD m cP w) (hs:Sub cP E)
  (round:∀ m E w,kD m E w→W P n c (Exit.then (Ox n kD m) Q) E w):W P n (.loop c) Q E w:=fun a ha=>by
 intro b k cs;have key:∀ m a w,(∃ E,kD m E w∧er n E a)→∃ e a' w',Q e a' w'∧Arrives P (lone (b.at a (.code c:: .inLoop c::k)) cs w) b k cs e a' w':=by
  intro m;induction m using Nat.strongRecOn with
  | _ m bD =>
   intro a w ⟨E,qO,ha⟩;obtain ⟨e,cd,aP,I,pY⟩:=round m E w qO a ha b (.inLoop c::k) cs;cases e with
   | normal =>
    obtain ⟨m',bw,VZ⟩:=I;obtain ⟨bj,a2,cH,xP,Wr⟩:=bD m' bw cd aP VZ;exact ⟨bj,a2,cH,xP, .of_steps (Steps.trans pY (.one step_inLoop)) Wr⟩
   | exit id=>exact ⟨_,cd,aP,I, .pass (x:= .inLoop c) rfl (fun _ _=> .inl (by simp)) pY⟩
   | goto l=>exact ⟨_,cd,aP,I, .pass (x:= .inLoop c) rfl (fun _ _=> .inl (by simp)) pY⟩
   | ret=>exact ⟨_,cd,aP,I, .pass (x:= .inLoop c) rfl (fun _ _=> .inl (by simp)) pY⟩
   | panic aqq=>exact ⟨_,cd,aP,I, .pass (x:= .inLoop c) rfl (fun _ _=> .inl (by simp)) pY⟩
   | outgrown=>exact ⟨_,cd,aP,I, .pass (x:= .inLoop c) rfl (fun _ _=> .inl (by simp)) pY⟩
 obtain ⟨e,a',w',I,pY⟩:=key m a w ⟨cP,aH,ha.sub hs⟩;exact ⟨e,a',w',I, .of_steps (.one step_loop) pY⟩
theorem c6 {kD:Nat→List (Nat×Value)→World→Prop} {m:Nat} (m':Nat) (cP:List (Nat×Value)) (h:kD m' cP w) (hm:m'<m) (hs:Sub cP E):N n (Exit.then (Ox n kD m) Q) E w :=
 fun a ha=>⟨m',hm,cP,h,ha.sub hs⟩
variable {d:Option Nat} {ty:TypeId} {pos:String} {af:Array Edge} {g:Option (Nat×Bool)} {x y z:Operand} {t:TypeId} {rest:List Oper}
def cS (P:Program) (E:List (Nat×Value)) (o:Oper) (w:World) (v:Value) (w':World):Prop:=∀ n a,er n E a→(execOp a.eval o).run P w= .ok (.value v) w'
def aoy (P:Program) (E:List (Nat×Value)) (o:Oper) (w w':World):Prop:=∀ n a,er n E a→(execOp a.eval o).run P w= .ok .skip w'
theorem Ev {o:Oper} (aK:o.guard=none) {a:Act} (h:o.wp P a w (wpList P ops Q rest) Q):wpList P ops Q (o::rest) a w:=by
 unfold wpList;rw [aRP (by simp [Region.wanted,aK])];exact .inl h
theorem iA {d:Nat} {op:Op} (hr:cS P E ⟨some d,op,ty,pos,af,none⟩ w v w') (hd:Nat.blt d n=true) (h:cE P n ops Q rest ((d,v)::E) w'):cE P n ops Q (⟨some d,op,ty,pos,af,none⟩::rest) E w:=fun a ha=>by
 refine Ev Z ?_;unfold Oper.wp;rw [hr n a ha];exact h _ (ha.put hd v)
theorem us {op:Op} (hr:aoy P E ⟨none,op,ty,pos,af,none⟩ w w') (h:cE P n ops Q rest E w'):cE P n ops Q (⟨none,op,ty,pos,af,none⟩::rest) E w:=fun a ha=>by
 refine Ev Z ?_;unfold Oper.wp;rw [hr n a ha];exact h _ ha
def Enters (P:Program) (f:FuncId):Prop:=∃ fn,P.funcs[f]? =some fn∧(fn.name == "runtime.NumGoroutine")=false∧fn.body.isNone=false
theorem MU {f:FuncId} (hf:Enters P f) {xs:Array Operand} {ts:Array TypeId} {args:List Value} {a:Act} (ha:er n E a) (he:hq E xs.toList=some args):
  (execOp a.eval ⟨d, .call {callee:= .value (.func f),args:=xs,argTypes:=ts},ty,pos,af,g⟩).run P w= .ok (.enter f args.toArray) w:=by
 obtain ⟨fn,τ,aa,aw⟩:=hf;have hm:xs.map a.eval=args.toArray:=by rw [← ha.hq he];apply aS8;simp
 exact akB f fn τ aa aw xs ts Z _ hm
theorem ca {d:Nat} {f:FuncId} (hf:Enters P f) {xs:Array Operand} {ts:Array TypeId} {args:List Value} (he:hq E xs.toList=some args) (hd:Nat.blt d n=true)
  (h:Calls P f args.toArray w fun e w'=>∃ v,e= .returned v∧cE P n ops Q rest ((d,v)::E) w'):cE P n ops Q (⟨some d, .call {callee:= .value (.func f),args:=xs,argTypes:=ts},ty,pos,af,none⟩::rest) E w:=fun a ha=>by
 refine Ev Z ?_;unfold Oper.wp;rw [MU hf ha he];refine aVw h fun e w' fC=> ?_;obtain ⟨v,rfl,h⟩:=fC;exact h _ (ha.put hd v)
theorem aM (hx:ev E x=some v):cS P E ⟨d, .move x,ty,pos,af,g⟩ w v w:=fun n a ha=>by simp only [execOp,ha.ev hx];rfl
theorem fg (hx:ev E x=some v):cS P E ⟨d, .assign x,ty,pos,af,g⟩ w v w:=fun n a ha=>by simp only [execOp,ha.ev hx];rfl
theorem ex {l:List Value} {k:Nat} (hx:ev E x=some (.tuple l.toArray)) (ar:l[k]? =some v):cS P E ⟨d, .extract x k,ty,pos,af,g⟩ w v w:=fun n a ha=>by
 simp only [execOp,ha.ev hx,Instr.extract,aUU,ar];rfl
theorem b3 {p:Addr} (hx:ev E x=some (.pointer (some p))):cS P E ⟨d, .nilCheck x,ty,pos,af,g⟩ w (.pointer (some p)) w:=fun n a ha=>by simp only [execOp,ha.ev hx];rfl
theorem dZ {b:Bool} (hx:ev E x=some (.bool b)):cS P E ⟨d, .unOp .not t x,ty,pos,af,g⟩ w (.bool !b) w:=fun n a ha=>by
 simp only [execOp,ha.ev hx];cases b<;>rfl
theorem q8 {v:Value} (hx:ev E x=some (.bool true)) (aL:ev E y=some v):cS P E ⟨d, .pick x y z,ty,pos,af,g⟩ w v w:=fun n a ha=>by
 simp only [execOp,ha.ev hx,ha.ev aL];rfl
theorem tC {v:Value} (hx:ev E x=some (.bool false)) (bs:ev E z=some v):cS P E ⟨d, .pick x y z,ty,pos,af,g⟩ w v w:=fun n a ha=>by
 simp only [execOp,ha.ev hx,ha.ev bs];rfl
def ia (c:Bool) (v:Value):Value:=if c=true then v else undef
theorem gt {c:Bool} (hc:c=true) (h:ev E x=some (ia c v)):ev E x=some v:=by rw [h,hc];rfl
theorem fv {b c q:Bool} (hx:ev E x=some (.bool b)) (aL:ev E y=some (.bool true)) (I:(b == false)=q) (bs:ev E z=some (ia q (.bool c))):cS P E ⟨d, .pick x y z,ty,pos,af,g⟩ w (.bool (b || c)) w:=fun n a ha=>by
 subst I;simp only [execOp,ha.ev hx,ha.ev aL,ha.ev bs];cases b<;>rfl
theorem e3 {b c q:Bool} (hx:ev E x=some (.bool b)) (bs:ev E z=some (.bool false)) (I:(b == true)=q) (aL:ev E y=some (ia q (.bool c))):cS P E ⟨d, .pick x y z,ty,pos,af,g⟩ w (.bool (b && c)) w:=fun n a ha=>by
 subst I;simp only [execOp,ha.ev hx,ha.ev aL,ha.ev bs];cases b<;>rfl
section
variable {k k':IntKind} {i j:Int} {u:TypeId}
theorem pa {op:BinOp} {s:Sem Value} (hx:ev E x=some (.int k i)) (aL:ev E y=some (.int k' j)) (h:binOp op t (.int k i) (.int k' j)=s) (hr:s.run P w= .ok v w):cS P E ⟨d, .binOp op t x y u,ty,pos,af,g⟩ w v w:=fun n a ha=>by
 simp only [execOp,ha.ev hx,ha.ev aL,eqGuard_at_int,h,aRS,aRT,aRJ,hr]
theorem bad (hx:ev E x=some (.int k i)) (aL:ev E y=some (.int k j)) (h:k.wrap (i+j)=i+j):cS P E ⟨d, .binOp .add t x y u,ty,pos,af,g⟩ w (.int k (i+j)) w:=pa hx aL (binOp_add t k i j) (by simp [Op.intArith,h])
theorem mm (hx:ev E x=some (.int k i)) (aL:ev E y=some (.int k j)) (h:k.wrap (i - j)=i - j):cS P E ⟨d, .binOp .sub t x y u,ty,pos,af,g⟩ w (.int k (i - j)) w:=pa hx aL (binOp_sub t k i j) (by simp [Op.intArith,h])
theorem Cx (hx:ev E x=some (.int k i)) (aL:ev E y=some (.int k j)) (h:k.wrap (i * j)=i * j):cS P E ⟨d, .binOp .mul t x y u,ty,pos,af,g⟩ w (.int k (i * j)) w:=pa hx aL (binOp_mul t k i j) (by simp [Op.intArith,h])
theorem apD (hx:ev E x=some (.int k i)) (aL:ev E y=some (.int k j)):cS P E ⟨d, .binOp .sub t x y u,ty,pos,af,g⟩ w (.int k (k.wrap (i - j))) w:=pa hx aL (binOp_sub t k i j) (by simp [Op.intArith])
theorem blt (hx:ev E x=some (.int k i)) (aL:ev E y=some (.int k j)):cS P E ⟨d, .binOp .lss t x y u,ty,pos,af,g⟩ w (.bool (decide (i<j))) w:=pa hx aL (binOp_lss t k i j) rfl
theorem ble (hx:ev E x=some (.int k i)) (aL:ev E y=some (.int k j)):cS P E ⟨d, .binOp .leq t x y u,ty,pos,af,g⟩ w (.bool (decide (i≤j))) w:=pa hx aL (binOp_leq t k i j) rfl
theorem iw (hx:ev E x=some (.int k i)) (aL:ev E y=some (.int k j)):cS P E ⟨d, .binOp .gtr t x y u,ty,pos,af,g⟩ w (.bool (decide (j<i))) w:=pa hx aL (binOp_gtr t k i j) rfl
theorem j4 (hx:ev E x=some (.int k i)) (aL:ev E y=some (.int k j)):cS P E ⟨d, .binOp .geq t x y u,ty,pos,af,g⟩ w (.bool (decide (j≤i))) w:=pa hx aL (binOp_geq t k i j) rfl
theorem beq (hx:ev E x=some (.int k i)) (aL:ev E y=some (.int k j)):cS P E ⟨d, .binOp .eql t x y u,ty,pos,af,g⟩ w (.bool (i == j)) w:=pa hx aL (binOp_eql t k i j) rfl
theorem bne (hx:ev E x=some (.int k i)) (aL:ev E y=some (.int k j)):cS P E ⟨d, .binOp .neq t x y u,ty,pos,af,g⟩ w (.bool (i != j)) w:=pa hx aL (binOp_neq t k i j) rfl
end
def eN (P:Program) (t:TypeId) (k:Nat):Prop:=∀ w,(sizeOf t).run P w= .ok k w
def eG (P:Program) (t:TypeId) (b:Bool):Prop:=∀ w,(isAgg t).run P w= .ok b w
def mi (P:Program) (t:TypeId) (v:Value):Prop:=∀ w,(zeroValue t).run P w= .ok v w
def Fd (P:Program) (t:TypeId) (i off:Nat):Prop:=∀ w g o,(Instr.fieldAt t (.pointer (some ⟨g,o,none⟩)) i).run P w= .ok (.pointer (some ⟨g,o+off,none⟩)) w
section
variable {b o k:Nat} {cs:List Value}
theorem av {i off:Nat} (hf:Fd P t i off) (hx:ev E x=some (.pointer (some ⟨b,o,none⟩))):cS P E ⟨d, .fieldAddr t x i,ty,pos,af,g⟩ w (.pointer (some ⟨b,o+off,none⟩)) w:=fun n a ha=>by
 simp only [execOp,ha.ev hx,aRS,hf w b o,aRJ,aRT]
theorem LU {e:TypeId} {size len cap:Nat} {Xy:IntKind} {i:Int} (j:Nat) (aG:P.underlying t=some (.slice e)) (hs:eN P e size) (hx:ev E x=some (.slice (some ⟨b,o,none⟩) len cap)) (aq:ev E y=some (.int Xy i)) (ay:i=(j:Int)) (bw:j<len):
  cS P E ⟨d, .indexAddr t x y,ty,pos,af,g⟩ w (.pointer (some ⟨b,o+j * size,none⟩)) w:=fun n a ha=>by
 subst ay;simp only [execOp,ha.ev hx,ha.ev aq,Instr.indexAt,asIntOf,aRS,aRT,aRJ,aSL aG];rw [aRP ⟨by omega,by omega⟩];simp only [aRS,hs w,aRJ,aRT,aSy,G0]
def lr (P:Program) (w:World) (t:TypeId) (p:Addr) (v:Value):Prop:=(loadVar t p).run P w= .ok v w
theorem lr.one {p:Addr} (aG:eG P t false) (h:w.cell? p=some v):lr P w t p v:=by
 unfold lr loadVar;simp only [aRS,aG w,aRJ,aSq,aS0,run_load,h]
theorem lr.agg (aG:eG P t true) (hs:eN P t cs.length) (h:∀ j v,cs[j]? =some v→w.cell? ⟨b,o+j,none⟩=some v):lr P w t ⟨b,o,none⟩ (.agg cs.toArray):=by
 unfold lr loadVar;simp only [aRS,aG w,aRJ,aTm,hs w,run_loadCells_list w ⟨b,o,none⟩ cs (fun j v ay=>by rw [G0];exact h j v ay),aRT]
theorem ao {p:Addr} (hx:ev E x=some (.pointer (some p))) (h:lr P w t p v):cS P E ⟨d, .load t x,ty,pos,af,g⟩ w v w:=fun n a ha=>by
 unfold lr at h;simp only [execOp,ha.ev hx,Instr.loadAt,Instr.sureAddr,aRS,aRT,aRJ,h]
theorem aR.one {p:Nat} {cur:List Value} {e:TypeId} {aB:Nat×Nat} (h:aR w b cur e aB) (aG:eG P t false) (hv:cur[p]? =some v):lr P w t ⟨b,p,none⟩ v:=lr.one aG (by rw [h.cell,hv])
theorem aR.agg {p:Nat} {cur:List Value} {e:TypeId} {aB:Nat×Nat} (h:aR w b cur e aB) (aG:eG P t true) (hs:eN P t cs.length) (hv:(cur.drop p).take cs.length=cs):lr P w t ⟨b,p,none⟩ (.agg cs.toArray):=
 lr.agg aG hs fun j v ay=>by
  rw [h.cell,← ay];have az:=(aRC.1 ay).1
  conv=>rhs;rw [← hv]
  rw [aVX az,aSJ]
theorem cB {op:Op} {d:Nat} {cs:List Value} (wg:op= .box t x) (hx:ev E x=some v) (hc:v.cells=cs.toArray) (hd:Nat.blt d n=true)
  (h:∀ aP b,Ext w aP→w.heap.size≤b→aR aP b cs t (0,0)→cE P n ops Q rest ((d, .pointer (some ⟨b,0,none⟩))::E) aP):cE P n ops Q (⟨some d,op,ty,pos,af,none⟩::rest) E w:=by
 subst wg;refine iA (w':=w.alloc (.cells v.cells t)) (v:= .pointer (some ⟨w.heap.size,0,none⟩)) (fun n a ha=> ?_) hd (h _ _ ((aR8 _ w).alloc (aRN _) _) (aRN _) (by rw [hc];exact aR.new w cs t (0,0)));simp only [execOp,ha.ev hx,Instr.box,newVar,newRow,aRS,run_newObj_alloc,aRJ,aRT]
theorem al {op:Op} {d:Nat} {cs:List Value} (wg:op= .alloc t) (bs:mi P t v) (hc:v.cells=cs.toArray) (hd:Nat.blt d n=true)
  (h:∀ aP b,Ext w aP→w.heap.size≤b→aR aP b cs t (0,0)→cE P n ops Q rest ((d, .pointer (some ⟨b,0,none⟩))::E) aP):cE P n ops Q (⟨some d,op,ty,pos,af,none⟩::rest) E w:=by
 subst wg;refine iA (w':=w.alloc (.cells v.cells t)) (v:= .pointer (some ⟨w.heap.size,0,none⟩)) (fun n a ha=> ?_) hd (h _ _ ((aR8 _ w).alloc (aRN _) _) (aRN _) (by rw [hc];exact aR.new w cs t (0,0)));simp only [execOp,Instr.alloc,aRS,bs w,newVar,newRow,run_newObj_alloc,aRJ,aRT]
end
end
section
variable {P:Program} {n:Nat} {E cP:List (Nat×Value)} {a:Act} {w w' w0 aP:World} {Q:Exit→Act→World→Prop} {ops:Array Oper} {v:Value} {aS:Nat→Nat}
variable {d:Option Nat} {ty:TypeId} {pos:String} {af:Array Edge} {g:Option (Nat×Bool)} {x y z:Operand} {t:TypeId} {rest:List Oper} {bO:List Nat} {i:Nat}
def j1 (P:Program) (n:Nat) (ops:Array Oper) (Q:Exit→Act→World→Prop) (aS:Nat→Nat) (bO:List Nat) (E:List (Nat×Value)) (w0:World):Prop:=∀ a,er n E a→vh P ops (gF (Q .normal)) aS bO a w0
def nD (l:List (Nat×Nat)) (i:Nat):Nat:=match l with
 | []=>1
 | (j,k)::r=>match Nat.beq j i with | true=>k | false=>nD r i
theorem rd {id:Nat} (lC:List (Nat×Nat)) (bO:List Nat) (hm:P.follows .mixedOrders=true) (aX:(Region.noSelect ops && (bO.length == ops.size) && h' ops (nD lC) bO (Array.replicate ops.size false))=true)
  (h:j1 P n ops Q (nD lC) bO E w):W P n (.region id ops true) Q E w:=fun a ha=>aCn bO hm aX (h a ha)
theorem fn (h:∀ w,Ext w0 w→N n Q E w):j1 P n ops Q aS [] E w0:=fun a ha w hw=>h w hw a ha
theorem ym {o:Oper} (aK:o.guard=none):Region.wanted o (yielded ops a.tmps)=true:=by simp [Region.wanted,aK]
theorem aeS {d:Nat} {op:Op} (aq:ops[i]? =some ⟨some d,op,ty,pos,af,none⟩) (ar:aS i=0) (hr:∀ w,Ext w0 w→cS P E ⟨some d,op,ty,pos,af,none⟩ w v w) (hd:Nat.blt d n=true)
  (h:j1 P n ops Q aS bO ((d,v)::E) w0):j1 P n ops Q aS (i::bO) E w0:=fun a ha =>
 ⟨_,aq, .inl ⟨ar,v, .inl ⟨ym rfl,fun w hw=>by rw [hr w hw n a ha];exact ⟨rfl,rfl⟩⟩,h _ (ha.put hd v)⟩⟩
theorem rS {d:Nat} {op:Op} (aq:ops[i]? =some ⟨some d,op,ty,pos,af,none⟩) (ar:aS i=1) (hr:∀ w,cS P E ⟨some d,op,ty,pos,af,none⟩ w v w) (hd:Nat.blt d n=true)
  (h:j1 P n ops Q aS bO ((d,v)::E) w0):j1 P n ops Q aS (i::bO) E w0:=fun a ha =>
 ⟨_,aq, .inr (.inl ⟨ar,v, .inl ⟨ym rfl,fun w=>hr w n a ha⟩,h _ (ha.put hd v)⟩)⟩
theorem pR {d:Nat} {f:FuncId} {xs:Array Operand} {ts:Array TypeId} {args:List Value} (aq:ops[i]? =some ⟨some d, .call {callee:= .value (.func f),args:=xs,argTypes:=ts},ty,pos,af,none⟩) (ar:aS i=0) (hf:Enters P f) (he:hq E xs.toList=some args)
  (hr:∀ w,Ext w0 w→Calls P f args.toArray w fun e w'=>e= .returned v∧Ext w w') (hd:Nat.blt d n=true)
  (h:j1 P n ops Q aS bO ((d,v)::E) w0):j1 P n ops Q aS (i::bO) E w0:=fun a ha =>
 ⟨_,aq, .inl ⟨ar,v, .inl ⟨ym rfl,fun w hw=>by rw [MU hf ha he];exact ⟨rfl,hr w hw⟩⟩,h _ (ha.put hd v)⟩⟩
theorem DH {o:Oper} {j:Nat} {q b:Bool} {cR:Oper} {jJ:Nat} (aK:o.guard=some (j,q)) (ay:ops[j]? =some cR) (nx:cR.dst=some jJ) (Φ:look E jJ=some (.bool b)) (ha:er n E a):Region.wanted o (yielded ops a.tmps)=(b == q):=by
 have:=ha.g _ _ Φ;cases b<;>cases q<;>simp [Region.wanted,aK,yielded,ay,nx,this]
theorem cy {d:Nat} {op:Op} {j:Nat} {q b c:Bool} {cR:Oper} {jJ:Nat} (aq:ops[i]? =some ⟨some d,op,ty,pos,af,some (j,q)⟩) (ar:aS i=0) (ay:ops[j]? =some cR) (nx:cR.dst=some jJ) (Φ:look E jJ=some (.bool b)) (hc:(b == q)=c)
  (hr:c=true→∀ w,Ext w0 w→cS P E ⟨some d,op,ty,pos,af,some (j,q)⟩ w v w) (hd:Nat.blt d n=true)
  (h:j1 P n ops Q aS bO ((d,ia c v)::E) w0):j1 P n ops Q aS (i::bO) E w0:=fun a ha=>by
 have hw:=DH (o:=⟨some d,op,ty,pos,af,some (j,q)⟩) rfl ay nx Φ ha;rw [hc] at hw;refine ⟨_,aq, .inl ⟨ar,ia c v, ?_,h _ (ha.put hd _)⟩⟩;cases c with
 | true=>exact .inl ⟨hw,fun w hx=>by rw [hr rfl w hx n a ha];exact ⟨rfl,rfl⟩⟩
 | false=>exact .inr ⟨hw,rfl⟩
theorem a6 {d:Nat} {op:Op} {j:Nat} {q b c:Bool} {cR:Oper} {jJ:Nat} (aq:ops[i]? =some ⟨some d,op,ty,pos,af,some (j,q)⟩) (ar:aS i=1) (ay:ops[j]? =some cR) (nx:cR.dst=some jJ) (Φ:look E jJ=some (.bool b)) (hc:(b == q)=c)
  (hr:c=true→∀ w,cS P E ⟨some d,op,ty,pos,af,some (j,q)⟩ w v w) (hd:Nat.blt d n=true)
  (h:j1 P n ops Q aS bO ((d,ia c v)::E) w0):j1 P n ops Q aS (i::bO) E w0:=fun a ha=>by
 have hw:=DH (o:=⟨some d,op,ty,pos,af,some (j,q)⟩) rfl ay nx Φ ha;rw [hc] at hw;refine ⟨_,aq, .inr (.inl ⟨ar,ia c v, ?_,h _ (ha.put hd _)⟩)⟩;cases c with
 | true=>exact .inl ⟨hw,fun w=>hr rfl w n a ha⟩
 | false=>exact .inr ⟨hw,rfl⟩
theorem eu {d:Nat} {f:FuncId} {xs:Array Operand} {ts:Array TypeId} {args:List Value} {j:Nat} {q b c:Bool} {cR:Oper} {jJ:Nat} (aq:ops[i]? =some ⟨some d, .call {callee:= .value (.func f),args:=xs,argTypes:=ts},ty,pos,af,some (j,q)⟩) (ar:aS i=0) (ay:ops[j]? =some cR) (nx:cR.dst=some jJ) (Φ:look E jJ=some (.bool b)) (hc:(b == q)=c)
  (hf:Enters P f) (he:c=true→hq E xs.toList=some args)
  (hr:c=true→∀ w,Ext w0 w→Calls P f args.toArray w fun e w'=>e= .returned v∧Ext w w') (hd:Nat.blt d n=true)
  (h:j1 P n ops Q aS bO ((d,ia c v)::E) w0):j1 P n ops Q aS (i::bO) E w0:=fun a ha=>by
 have hw:=DH (o:=⟨some d, .call {callee:= .value (.func f),args:=xs,argTypes:=ts},ty,pos,af,some (j,q)⟩) rfl ay nx Φ ha;rw [hc] at hw;refine ⟨_,aq, .inl ⟨ar,ia c v, ?_,h _ (ha.put hd _)⟩⟩;cases c with
 | true=>exact .inl ⟨hw,fun w hx=>by rw [MU hf ha (he rfl)];exact ⟨rfl,hr rfl w hx⟩⟩
 | false=>exact .inr ⟨hw,rfl⟩
def Cp (P:Program) (n:Nat) (ops:Array Oper) (o:Oper) (E:List (Nat×Value)) (w:World) (K:List (Nat×Value)→World→Prop):Prop :=
 ∀ (Q:Exit→Act→World→Prop),(∀ cP w',K cP w'→cE P n ops Q [] cP w')→cE P n ops Q [o] E w
theorem aE9 {TR aow:Exit→Act→World→Prop} {o:Oper} {K:Act→World→Prop} (hp:∀ c a w,¬ TR (.panic c) a w) (bS:¬ LetsOut TR) (h:o.wp P a w K TR):o.wp P a w K aow:=by
 unfold Oper.wp at *
 generalize (execOp a.eval o).run P w=r at *
 cases r with
 | ok m w' =>
  cases m<;>simp only [Oper.upon] at h ⊢ <;>
   first
    | exact h
    | exact aVw h (fun e ku he=>by cases e<;>first | exact he | exact (hp _ _ _ he).elim | exact (bS he).elim)
 | halt x w'=>cases x<;>simp only [Oper.upon] at h ⊢<;>first | exact h | exact (hp _ _ _ h).elim
theorem F1 {o:Oper} (aK:o.guard=none) (aq:ops[i]? =some o) {K:Act→World→Prop} {E:List (Nat×Value)} {w:World} {abd:List (Nat×Value)→World→Prop} (h:Cp P n ops o E w abd) (hK:∀ cP w' a',abd cP w'→er n cP a'→K a' w') (ha:er n E a):
  wpOp P ops (gF (Q .normal)) i K a w:=by
 have:=h (gF K) (fun cP w' ar a' pW=>hK cP w' a' ar pW) a ha;unfold wpList at this;unfold wpOp;simp only [aq];rw [aRP (ym aK)] at this ⊢;rcases this with h | ⟨h,a,w,aa⟩
 ·exact .inl (aE9 (fun _ _ _ h=>h) (fun ⟨_,_,h⟩=>h) h)
 ·exact aa.elim
theorem gm {o:Oper} (aK:o.guard=none) (aq:ops[i]? =some o) (ar:aS i=2) (h:∀ w,Ext w0 w→Cp P n ops o E w fun cP w'=>Ext w0 w'∧j1 P n ops Q aS bO cP w'):j1 P n ops Q aS (i::bO) E w0:=fun a ha =>
 ⟨_,aq, .inr (.inr ⟨by omega,fun w hw=>F1 aK aq (h w hw) (fun cP w' a' ar pW=>⟨fun _=>ar.1,ar.2 a' pW⟩) ha⟩)⟩
theorem eP {o:Oper} (aK:o.guard=none) (aq:ops[i]? =some o) (ar:aS i=3) (h:∀ w,Ext w0 w→Cp P n ops o E w fun cP w'=>j1 P n ops Q aS bO cP w'):j1 P n ops Q aS (i::bO) E w0:=fun a ha =>
 ⟨_,aq, .inr (.inr ⟨by omega,fun w hw=>F1 aK aq (h w hw) (fun cP w' a' ar pW=>⟨fun aa=>by omega,ar a' pW⟩) ha⟩)⟩
end
structure Mod (S:List Nat) (w w':World):Prop where
 os:w'.os=w.os
 tape:w'.tape=w.tape
 output:w'.output=w.output
 size:w.heap.size≤w'.heap.size
 block:∀ k,k<w.heap.size→k∉S→w'.heap[k]? =w.heap[k]?
section
variable {S oM:List Nat} {w w' w0 aP cH:World} {B:Nat}
theorem Mod.bC (h:Ext w w'):Mod S w w':=⟨h.os,h.tape,h.output,h.size,fun k ar _=>h.block k ar⟩
theorem Mod.below {aC:Nat} (h:Mod S w w') (hS:∀ x∈S,aC≤x) (s9:aC≤w.heap.size):Below aC w w' :=
 ⟨h.os,h.tape,h.output,h.size,fun k ar=>h.block k (by omega) fun hm=>by have:=hS k hm;omega⟩
theorem Ext.mod (h:Ext w0 w) (hm:Mod S w w') (hS:∀ x∈S,w0.heap.size≤x):Ext w0 w':=aWu h (hm.below hS h.size)
theorem Mod.bF (S:List Nat) (w:World):Mod S w w:=⟨rfl,rfl,rfl,aRN _,fun _ _ _=>rfl⟩
theorem Mod.md (h:Mod S w aP) (cI:Mod oM aP cH) (hs:∀ q∈oM,q∈S∨w.heap.size≤q):Mod S w cH :=
 ⟨cI.os.trans h.os,cI.tape.trans h.tape,cI.output.trans h.output,aR5 h.size cI.size,fun k ar hn=>(cI.block k (aTk ar h.size) fun hm=>(hs k hm).elim hn (fun h=>by omega)).trans (h.block k ar hn)⟩
theorem Mod.trans (h:Mod S w aP) (cI:Mod S aP cH):Mod S w cH :=
 ⟨cI.os.trans h.os,cI.tape.trans h.tape,cI.output.trans h.output,aR5 h.size cI.size,fun k ar hn=>(cI.block k (aTk ar h.size) hn).trans (h.block k ar hn)⟩
theorem Mod.grown {row:Option Nat} (h:w.grownBy w' row):Mod row.toList w w' :=
 ⟨h.os,h.tape,h.output,h.size,fun k ar hn=>h.block k ar fun e=>hn (by rw [← e];simp)⟩
theorem Mod.setRow (w:World) (b:Nat) (cs:Array Value):Mod [b] w (w.setRow b cs):=by
 refine ⟨Z,Z,Z,by simp [World.setRow],fun k ar hn=> ?_⟩;simp only [World.setRow,aUY];rw [aRL (by simp at hn;omega)]
theorem Mod.setCell (w:World) (p:Addr) (u:Value):Mod [p.block] w (w.setCell p u):=by
 refine ⟨Z,Z,Z,by simp [World.setCell],fun k ar hn=> ?_⟩;exact Below.heap_setCell _ _ _ _ (by simpa using hn)
theorem aR.mod {g:Nat} {cur:List Value} {e:TypeId} {aB:Nat×Nat} (h:aR w g cur e aB) (hm:Mod S w w') (aK:g∉S):aR w' g cur e aB:=by
 unfold aR at *
 rw [hm.block g (aSa.1 h).1 aK];exact h
theorem κ.aD.mod {α:Type} {R:κ α} {E by_:Nat} {f:List Nat} {A:Option Addr} {c:Nat} {l:List α} (h:R.aD E by_ w B f A c l) (hm:Mod S w w') (hd:∀ x∈f,x∉S):R.aD E by_ w' B f A c l :=
 h.keep fun g aK=>hm.block g (h.lt g aK).2 (hd g aK)
end
section
variable {P:Program} {n:Nat} {E cP:List (Nat×Value)} {a:Act} {w w' w0 aP:World} {Q:Exit→Act→World→Prop} {ops:Array Oper} {v:Value}
variable {d:Option Nat} {ty:TypeId} {pos:String} {af:Array Edge} {g:Option (Nat×Bool)} {x y z:Operand} {t:TypeId} {rest:List Oper}
theorem YW {b p:Nat} {cur cs:List Value} {e:TypeId} (aX:aR w b cur e (0,0)) (hc:v.cells=cs.toArray) (hs:eN P t cs.length) (τ:cs.all (·.oneCell')=true) (az:p+cs.length≤cur.length):
  (storeVar t ⟨b,p,none⟩ v).run P w= .ok () (w.setRow b (cur.take p++cs++cur.drop (p+cs.length)).toArray):=by
 unfold storeVar;simp only [hc,aRS,hs w,aRJ,aTc,ne_eq,aWA,aS0];have:=run_storeCells_at P b p e cs 0 cur.toArray w aX (by simpa using az) (fun v hv=>aSr.1 τ v hv);simpa using this
theorem st {b p:Nat} {cur cs new:List Value} {e:TypeId} (hx:ev E x=some (.pointer (some ⟨b,p,none⟩))) (aL:ev E y=some v) (aX:aR w b cur e (0,0)) (hc:v.cells=cs.toArray) (hs:eN P t cs.length) (τ:cs.all (·.oneCell')=true) (az:Nat.ble (p+cs.length) cur.length=true)
  (hn:cur.take p++cs++cur.drop (p+cs.length)=new)
  (h:∀ aP,Mod [b] w aP→aR aP b new e (0,0)→cE P n ops Q rest E aP):cE P n ops Q (⟨none, .store t x y,ty,pos,af,none⟩::rest) E w:=by
 refine us (w':=w.setRow b new.toArray) (fun n a ha=> ?_) (h _ (Mod.setRow w b _) (by rw [← hn];exact aX.setRow _));have:=YW (P:=P) aX hc hs τ (aTK az);rw [hn] at this;simp only [execOp,ha.ev hx,ha.ev aL,Instr.storeAt,Instr.sureAddr,aRS,aRT,aRJ,this]
theorem bi {acu:Builtin} {xs:Array Operand} {ts:Array TypeId} {vs:List Value} (he:hq E xs.toList=some vs) (h:∀ cs,(builtin acu ts ty cs vs.toArray).run P w= .ok (.value v) w'):
  cS P E ⟨d, .call {callee:= .builtin acu,args:=xs,argTypes:=ts},ty,pos,af,g⟩ w v w':=fun n a ha=>by
 have hm:xs.map a.eval=vs.toArray:=by rw [← ha.hq he];apply aS8;simp
 simp only [execOp,resolve,invoke,hm,aRS,aRT,aRJ,h]
theorem cA {A:Option Addr} {len cap e:Nat} (aG:P.underlying t=some (.slice e)) (hx:ev E x=some (.slice A len cap)):cS P E ⟨d, .call {callee:= .builtin .len,args:=#[x],argTypes:=#[t]},ty,pos,af,g⟩ w (.int .i64 (len:Int)) w :=
 bi (vs:= [.slice A len cap]) (by simp only [hq,hx]) fun cs=>by
  have τ:P.underlying t=some (.slice (P.elem t)):=by simp [Program.elem,aG]
  have:=run_len_slice (P:=P) w t ty A len cap τ;simp only [builtin,aRS,this,aRJ,aRT];rfl
theorem b7 {f:FuncId} {fn:Func} (h:P.funcs[f]? =some fn) (τ:(fn.name == "runtime.NumGoroutine")=false:=by kernel_rfl) (aa:fn.body.isNone=false:=by kernel_rfl):Enters P f:=⟨fn,h,τ,aa⟩
theorem SJ {o:Oper} {c:Bool} (hw:∀ a,er n E a→Region.wanted o (yielded ops a.tmps)=c) (τ:c=true→∀ a,er n E a→o.wp P a w (wpList P ops Q rest) Q) (aa:c=false→∀ a,er n E a→wpList P ops Q rest (a.put o.dst undef) w):cE P n ops Q (o::rest) E w:=fun a ha=>by
 unfold wpList;rw [hw a ha];cases c with
 | true=>rw [aRP rfl];exact .inl (τ Z a ha)
 | false=>rw [aRL (by decide)];exact aa Z a ha
theorem bp {d:Nat} {op:Op} {j:Nat} {q b c:Bool} {cR:Oper} {jJ:Nat} (ay:ops[j]? =some cR) (nx:cR.dst=some jJ) (Φ:look E jJ=some (.bool b)) (hc:(b == q)=c)
  (hr:c=true→cS P E ⟨some d,op,ty,pos,af,some (j,q)⟩ w v w) (hd:Nat.blt d n=true) (h:cE P n ops Q rest ((d,ia c v)::E) w):cE P n ops Q (⟨some d,op,ty,pos,af,some (j,q)⟩::rest) E w :=
 SJ (c:=c) (fun a ha=>by rw [DH (o:=⟨some d,op,ty,pos,af,some (j,q)⟩) rfl ay nx Φ ha,hc])
  (fun hc a ha=>by unfold Oper.wp;rw [hr hc n a ha];subst hc;exact h _ (ha.put hd v)) (fun hc a ha=>by subst hc;exact h _ (ha.put hd undef))
theorem zT {d:Nat} {f:FuncId} {xs:Array Operand} {ts:Array TypeId} {args:List Value} {j:Nat} {q b c:Bool} {cR:Oper} {jJ:Nat} (ay:ops[j]? =some cR) (nx:cR.dst=some jJ) (Φ:look E jJ=some (.bool b)) (hc:(b == q)=c)
  (hf:Enters P f) (he:c=true→hq E xs.toList=some args) (hr:c=true→Calls P f args.toArray w fun e w'=>e= .returned v∧Ext w w') (hd:Nat.blt d n=true)
  (h:∀ w',Ext w w'→cE P n ops Q rest ((d,ia c v)::E) w'):cE P n ops Q (⟨some d, .call {callee:= .value (.func f),args:=xs,argTypes:=ts},ty,pos,af,some (j,q)⟩::rest) E w :=
 SJ (c:=c) (fun a ha=>by rw [DH (o:=⟨some d,_,ty,pos,af,some (j,q)⟩) rfl ay nx Φ ha,hc])
  (fun hc a ha=>by unfold Oper.wp;rw [MU hf ha (he hc)];exact (hr hc).mono fun e w' ⟨τ,hx⟩=>by subst τ;subst hc;exact h w' hx _ (ha.put hd v)) (fun hc a ha=>by subst hc;exact h w (Ext.bF w) _ (ha.put hd undef))
theorem nT {d:Option Nat} {op:Op} {j:Nat} {q:Bool} {cR:Oper} {jJ:Nat} (ay:ops[j]? =some cR) (nx:cR.dst=some jJ) (Φ:look E jJ=some (.bool q)) (h:cE P n ops Q (⟨d,op,ty,pos,af,none⟩::rest) E w):cE P n ops Q (⟨d,op,ty,pos,af,some (j,q)⟩::rest) E w:=fun a ha=>by
 have h:=h a ha;have hw:=DH (o:=⟨d,op,ty,pos,af,some (j,q)⟩) (q:=q) rfl ay nx Φ ha;unfold wpList at h ⊢;rw [aRP (ym rfl)] at h;rw [hw,aRP (by cases q<;>rfl)];exact h
theorem gM {x:Operand} {b c:Bool} (h:ev E x=some (.bool b)) (e:b=c):ev E x=some (.bool c):=by rw [h,e]
theorem Iu {aeF:Fn} {fs cs:Array Operand} {l m:List Value} (τ:hq E fs.toList=some l) (aa:hq E cs.toList=some m):cS P E ⟨d, .makeFunc aeF fs cs,ty,pos,af,g⟩ w (.func aeF l.toArray m.toArray) w:=fun n a ha=>by
 have a_:fs.map a.eval=l.toArray:=by rw [← ha.hq τ];apply aS8;simp
 have bj:cs.map a.eval=m.toArray:=by rw [← ha.hq aa];apply aS8;simp
 simp only [execOp,a_,bj,Instr.makeFunc,aRS,aRT,aRJ]
def xz (E:List (Nat×Value)):List (Nat×Operand)→Option (List (Nat×Value))
 | []=>some []
 | (i,x)::r=>match ev E x with
  | some v=>match xz E r with
   | some l=>some ((i,v)::l)
   | none=>none
  | none=>none
theorem er.xz (h:er n E a):∀ {l:List (Nat×Operand)} {vs:List (Nat×Value)},xz E l=some vs→l.map (fun (i,x)=>(i,a.eval x))=vs
 | [],vs,e=>by simp only [Proofs.YtlikikpgmmkjbaaGreat.xz] at e;exact aRA e
 | (i,x)::r,vs,e=>by
  simp only [Proofs.YtlikikpgmmkjbaaGreat.xz] at e;cases hx:Proofs.YtlikikpgmmkjbaaGreat.ev E x with
  | none=>rw [hx] at e;cases e
  | some v =>
   rw [hx] at e;simp only at e;cases hr:Proofs.YtlikikpgmmkjbaaGreat.xz E r with
   | none=>rw [hr] at e;cases e
   | some l =>
    rw [hr] at e;simp only at e;obtain rfl:=aRA e;rw [aSs,er.xz h hr];simp only [h.ev hx]
theorem cK {ps:Array (Nat×Operand)} {l:List (Nat×Value)} (he:xz E ps.toList=some l) (hr:(Instr.build t l.toArray).run P w= .ok v w):cS P E ⟨d, .build t ps,ty,pos,af,g⟩ w v w:=fun n a ha=>by
 have a_:ps.map (fun (i,x)=>(i,a.eval x))=l.toArray:=by rw [← ha.xz he];apply aS8;simp
 simp only [execOp,a_,aRS,hr,aRJ,aRT]
theorem cX {ps:Array (Nat×Operand)} {l:List (Nat×Value)} {d k e:Nat} {cs:List Value} (he:xz E ps.toList=some l) (hr:∀ w,(Instr.buildSlice t k l.toArray).run P w= .ok (.slice (some ⟨w.heap.size,0,none⟩) k k) (w.alloc (.cells cs.toArray e))) (hd:Nat.blt d n=true)
  (h:∀ aP b,Ext w aP→w.heap.size≤b→aR aP b cs e (0,0)→cE P n ops Q rest ((d, .slice (some ⟨b,0,none⟩) k k)::E) aP):cE P n ops Q (⟨some d, .buildSlice t k ps,ty,pos,af,none⟩::rest) E w:=by
 refine iA (w':=w.alloc (.cells cs.toArray e)) (v:= .slice (some ⟨w.heap.size,0,none⟩) k k) (fun n a ha=> ?_) hd (h _ _ ((aR8 _ w).alloc (aRN _) _) (aRN _) (aR.new w cs e (0,0)));have a_:ps.map (fun (i,x)=>(i,a.eval x))=l.toArray:=by rw [← ha.xz he];apply aS8;simp
 simp only [execOp,a_,aRS,hr,aRJ,aRT]
def e7 (A:Option Addr):Nat:=match A with | some a=>a.block | none=>0
def ld (A:Option Addr):Nat:=match A with | some a=>a.off | none=>0
theorem κ.aJ.bR {α:Type} {R:κ α} {by_ c:Nat} {A:Option Addr} {l:List α} (h:R.aJ by_ w A c l) (aH:0<l.length):A=some ⟨e7 A,ld A,none⟩:=by
 obtain ⟨b,o,rfl,_⟩:=h.at_ aH;rfl
theorem κ.aJ.cu {α:Type} {R:κ α} {by_ c:Nat} {A:Option Addr} {l:List α} (h:R.aJ by_ w A c l) (aH:0<l.length):R.aJ by_ w (some ⟨e7 A,ld A,none⟩) c l:=by
 rw [← h.bR aH];exact h
theorem b' {e:TypeId} {size len cap b o:Nat} {Xy:IntKind} {i:Int} {A:Option Addr} (j:Nat) (aG:P.underlying t=some (.slice e)) (hs:eN P e size) (hx:ev E x=some (.slice A len cap)) (aq:ev E y=some (.int Xy i)) (hA:A=some ⟨b,o,none⟩) (ay:i=(j:Int)) (bw:j<len):
  cS P E ⟨d, .indexAddr t x y,ty,pos,af,g⟩ w (.pointer (some ⟨b,o+j * size,none⟩)) w:=by subst hA;exact LU j aG hs hx aq ay bw
theorem dv {α:Type} {l:List α} {j:Nat} {u:α} (h:j<l.length):l[j]? =some (l.getD j u):=by rw [aRB,aRD h];rfl
section
variable {α:Type} {R:κ α} {by_ c b o j:Nat} {l:List α} {cells:α→List Value} {q u:α}
theorem κ.aJ.j7 (hc:∀ {w cs a},R.has w cs a→cs=cells a) (h:R.aJ by_ w (some ⟨b,o,none⟩) c l) (k:Nat) (ay:l[j]? =some q) (hu:(cells q)[k]? =some v) (aG:eG P t false):lr P w t ⟨b,o+j * R.size+k,none⟩ v:=by
 obtain ⟨rH,MF,e,de⟩:=h.at_ (by have:=(aRC.1 ay).1;omega);injection e with e;injection e with a_ bj;subst a_;subst bj
 obtain ⟨es,τ,aa⟩:=de j q ay;rw [hc τ] at aa;exact lr.one aG (by rw [aUj];exact aa k v hu)
theorem κ.aJ.gi (hc:∀ {w cs a},R.has w cs a→cs=cells a) (h:R.aJ by_ w (some ⟨b,o,none⟩) c l) (ay:l[j]? =some q) (hu:(cells q)[0]? =some v) (aG:eG P t false):lr P w t ⟨b,o+j * R.size,none⟩ v:=h.j7 hc 0 ay hu aG
theorem κ.aJ.ho (hc:∀ {w cs a},R.has w cs a→cs=cells a) (h:R.aJ by_ w (some ⟨b,o,none⟩) c l) (ay:l[j]? =some q) (aG:eG P t true) (hs:eN P t (cells q).length):lr P w t ⟨b,o+j * R.size,none⟩ (.agg (cells q).toArray):=by
 obtain ⟨rH,MF,e,de⟩:=h.at_ (by have:=(aRC.1 ay).1;omega);injection e with e;injection e with a_ bj;subst a_;subst bj
 obtain ⟨es,τ,aa⟩:=de j q ay;rw [hc τ] at aa;exact lr.agg aG hs fun k v ar=>by rw [aUj];exact aa k v ar
theorem κ.aJ.part (hc:∀ {w cs a},R.has w cs a→cs=cells a) (h:R.aJ by_ w (some ⟨b,o,none⟩) c l) (k:Nat) {ds:List Value} (ay:l[j]? =some q) (hd:((cells q).drop k).take ds.length=ds) (aG:eG P t true) (hs:eN P t ds.length):lr P w t ⟨b,o+j * R.size+k,none⟩ (.agg ds.toArray):=by
 obtain ⟨rH,MF,e,de⟩:=h.at_ (by have:=(aRC.1 ay).1;omega);injection e with e;injection e with a_ bj;subst a_;subst bj
 obtain ⟨es,τ,aa⟩:=de j q ay;rw [hc τ] at aa;refine lr.agg aG hs fun i v aq=> ?_;rw [aUj,aUj];refine aa _ v ?_;rw [← hd] at aq;have az:=(aRC.1 aq).1;rw [aRE] at az
 rwa [aVX (by omega),aSJ] at aq
end
theorem aR.all {b:Nat} {cur:List Value} {e:TypeId} {aB:Nat×Nat} (h:aR w b cur e aB) (aG:eG P t true) (hs:eN P t cur.length):lr P w t ⟨b,0,none⟩ (.agg cur.toArray):=
 lr.agg aG hs fun j v ay=>by rw [h.cell,aSU,ay]
theorem aR.par {b p:Nat} {cur:List Value} {e:TypeId} {aB:Nat×Nat} (h:aR w b cur e aB) (cs:List Value) (aG:eG P t true) (hs:eN P t cs.length) (hv:(cur.drop p).take cs.length=cs):lr P w t ⟨b,p,none⟩ (.agg cs.toArray):=h.agg aG hs hv
end
open Tryz

section
variable {P:Program} {n:Nat} {E cP:List (Nat×Value)} {a:Act} {w w' w0 aP:World} {Q:Exit→Act→World→Prop} {ops:Array Oper} {v:Value}
theorem bE {x:Int} (h: -9223372036854775808≤x∧x≤9223372036854775807):IntKind.i64.wrap x=x:=IntWalk.i64_in x h
section
variable {d:Option Nat} {ty:TypeId} {pos:String} {af:Array Edge} {g:Option (Nat×Bool)} {x y:Operand} {t u:TypeId} {k:IntKind} {i j r:Int}
theorem pK (hx:ev E x=some (.int k i)) (aL:ev E y=some (.int k j)) (h:k.wrap (i+j)=i+j) (he:i+j=r):cS P E ⟨d, .binOp .add t x y u,ty,pos,af,g⟩ w (.int k r) w:=by subst he;exact bad hx aL h
end
theorem wk {p:Nat→Prop} {k:Nat} (h:∀ j,j<k→p j) (ar:p k):∀ j,j<k+1→p j:=fun j ay=>(aUy.1 ay).elim (h j) fun e=>e ▸ ar
theorem gN {w:World} {cs:List Value} {a:Int} (h:bP.has w cs a):cs= [.int .i64 a]:=aTI (show cs= [.int .i64 a]∧fO a from h)
theorem afR {w:World} {cs:List Value} {a:Bool} (h:zG.has w cs a):cs= [.bool a]:=aTI (show cs= [.bool a]∧True from h)
theorem h1 {x:Operand} {r:List Operand} {l:List Value} (h:ev E x=some v) (hr:hq E r=some l):hq E (x::r)=some (v::l):=by simp only [hq,h,hr]
theorem bZ {t:Nat} {k:IntKind} {i j:Int} (h:look E t=some (.int k i)) (e:i=j):look E t=some (.int k j):=by rw [h,e]
section
variable {c:Operand} {x y:Code} {i j:Int}
theorem eg (hc:ev E c=some (.bool (decide (i<j)))) (τ:i<j→W P n x Q E w) (aa:¬ i<j→W P n y Q E w):W P n (.cond c x y) Q E w:=dJ hc (fun h=>τ (aST h)) (fun h=>aa (aT5 h))
theorem G8 (hc:ev E c=some (.bool (decide (i≤j)))) (τ:i≤j→W P n x Q E w) (aa:¬ i≤j→W P n y Q E w):W P n (.cond c x y) Q E w:=dJ hc (fun h=>τ (aST h)) (fun h=>aa (aT5 h))
theorem i' (hc:ev E c=some (.bool (i == j))) (τ:i=j→W P n x Q E w) (aa:¬ i=j→W P n y Q E w):W P n (.cond c x y) Q E w:=dJ hc (fun h=>τ (by simpa using h)) (fun h=>aa (by simpa using h))
theorem e1 (hc:ev E c=some (.bool (i != j))) (τ:¬ i=j→W P n x Q E w) (aa:i=j→W P n y Q E w):W P n (.cond c x y) Q E w:=dJ hc (fun h=>τ (by simpa using h)) (fun h=>aa (by simpa using h))
end
end
def eC (P:Program) {α:Type} (R:κ α) (t e:TypeId) (by_:Nat):Prop :=
 ∃ (i:TypeInfo) (z:Value),P.underlying t=some (.slice e)∧P.info? e=some i∧i.zero=some z∧i.size=R.size∧i.bytes=by_∧z.cells.size=R.size∧0<R.size∧∀ (j:Nat) u,z.cells[j]? =some u→R.raw j u
section
variable {P:Program} {n:Nat} {E cP:List (Nat×Value)} {a:Act} {w w' w0 aP:World} {Q:Exit→Act→World→Prop} {ops:Array Oper} {v:Value}
variable {d:Option Nat} {ty:TypeId} {pos:String} {af:Array Edge} {g:Option (Nat×Bool)} {x y z:Operand} {t:TypeId} {rest:List Oper}
theorem eC.kT {α:Type} {R:κ α} {t e by_ k:Nat} {z:Value} (aG:P.underlying t=some (.slice e)) (aq:(P.info? e).map (fun i=>(i.zero,i.size,i.bytes))=some (some z,k,by_)) (ar:R.size=k) (τ:z.cells.size=k) (aa:0<k) (aw:∀ (j:Nat) u,z.cells[j]? =some u→R.raw j u):eC P R t e by_:=by
 cases I:P.info? e with
 | none=>rw [I] at aq;cases aq
 | some i =>
  rw [I] at aq;simp only [aS5,aUb,aVc] at aq;exact ⟨i,z,aG,I,aq.1,by rw [aq.2.1,ar],aq.2.2,by rw [τ,ar],by rw [ar];exact aa,aw⟩
theorem IL:∀ (j:Nat) u,(Value.int .i64 0).cells[j]? =some u→bP.raw j u:=by
 intro j u hu;have hu:(#[(.int .i64 0:Value)]:Array Value)[j]? =some u:=hu
 match j,hu with
 | 0,hu=>exact ⟨0,(aRA hu).symm⟩
 | j+1,hu=>simp at hu
theorem akn:∀ (j:Nat) u,(Value.bool false).cells[j]? =some u→zG.raw j u:=by
 intro j u hu;have hu:(#[(.bool false:Value)]:Array Value)[j]? =some u:=hu
 match j,hu with
 | 0,hu=>exact ⟨false,(aRA hu).symm⟩
 | j+1,hu=>simp at hu
def TS (P:Program) (n:Nat) (c:Code) (Q:Exit→Act→World→Prop) (k:Nat) (E:List (Nat×Value)) (w:World):Prop:=∀ a,er n E a→Code.rounds P c Q k a w
theorem Ie {c:Code} (k:Nat) (h:TS P n c Q k E w):W P n (.loop c) Q E w:=fun a ha=>wp_loop_rounds k (h a ha)
theorem l0 {c:Code} {k:Nat} (h:W P n c (Exit.then (Code.rounds P c Q k) Q) E w):TS P n c Q (k+1) E w:=fun a ha=>h a ha
theorem qb {c:Code} {k:Nat} (h:TS P n c Q k E w):N n (Exit.then (Code.rounds P c Q k) Q) E w:=h
theorem aR.gB {α:Type} {R:κ α} {by_ b:Nat} {cs:List Value} {e:TypeId} {aB:Nat×Nat} {q:α} (Φ:aR w b cs e aB) (h:R.has w cs q) (mN:by_≤140737488355328):R.aJ by_ w (some ⟨b,0,none⟩) 1 [q]:=by
 refine ⟨aRN _,by decide,by simpa using mN,(fun h=>by cases h), [cs],⟨h,trivial⟩, ?_⟩;have az:=R.len h;refine ⟨by simp [az],fun _=>⟨b,0,rfl,fun j u hu=> ?_⟩⟩;rw [aSU,Φ.cell];simpa using hu
theorem aR.Lc {α:Type} {R:κ α} {by_ b:Nat} {cs:List Value} {e:TypeId} {aB:Nat×Nat} {k:List α} (Φ:aR w b cs e aB) (ess:List (List Value)) (zm:ess.flatten=cs) (h:c9 (fun es a=>R.has w es a) ess k) (rT:k.length≤9223372036854775807) (mN:k.length * by_≤140737488355328):R.aJ by_ w (some ⟨b,0,none⟩) k.length k:=by
 refine ⟨aRN _,rT,mN,(fun h=>by cases h),ess,h, ?_⟩;have az:∀ x∈ess,x.length=R.size:=fun x hx=>by obtain ⟨a,ha⟩:=h.left x hx;exact R.len ha
 refine ⟨by rw [AU az,h.length],fun _=>⟨b,0,rfl,fun j u hu=> ?_⟩⟩;rw [aSU,Φ.cell,← zm];exact hu
theorem aR.wD {α:Type} {R:κ α} {by_ b B:Nat} {cs:List Value} {e:TypeId} {k:List α} (Φ:aR w b cs e (0,0)) (ess:List (List Value)) (zm:ess.flatten=cs) (h:c9 (fun es a=>R.has w es a) ess k) (rT:k.length≤9223372036854775807) (mN:k.length * by_≤140737488355328) (aH:0<R.size) (aX:B≤b) (hR:R.Plain:=by exact κ.oU):
  R.aD e by_ w B (κ.ae (some ⟨b,0,none⟩)) (some ⟨b,0,none⟩) k.length k:=by
 have az:∀ x∈ess,x.length=R.size:=fun x hx=>by obtain ⟨a,ha⟩:=h.left x hx;exact R.len ha
 have hlen:cs.length=k.length * R.size:=by rw [← zm,AU az,h.length]
 refine κ.aD.By hR h mN ⟨by rw [zm,hlen], .inr ⟨b,k.length,cs.toArray,rfl,aX,Φ,aRN _,rT,by simpa using hlen, ?_,fun j u hu=> ?_⟩⟩
 ·rw [zm];exact aR1 (by simp [hlen])
 ·exact Ht h aH (by rw [zm];simpa using hu)
theorem ap {α:Type} {R:κ α} {e by_ base:Nat} {A cZ:Option Addr} {c c2 d:Nat} {l k:List α} (lV:eC P R t e by_) (hR:R.sM) (h:R.aD e by_ w base (κ.ae A) A c l) (aa:R.aJ by_ w cZ c2 k)
  (hs:ev E x=some (.slice A l.length c)) (hx:ev E y=some (.slice cZ k.length c2)) (hlen:l.length+k.length≤9223372036854775807) (rY:(l.length+k.length) * by_≤140737488355328) (pZ:base≤w.heap.size) (hd:Nat.blt d n=true)
  (ar:∀ aP bG b4,Mod (κ.ae A) w aP→R.aD e by_ aP base (κ.ae bG) bG b4 (l++k)→(∀ q∈κ.ae bG,q∈κ.ae A∨w.heap.size≤q)→(bG=none↔A=none∧k= [])→cE P n ops Q rest ((d, .slice bG (l++k).length b4)::E) aP):
  cE P n ops Q (⟨some d, .call {callee:= .builtin .append,args:=#[x,y],argTypes:=#[t,t]},ty,pos,af,none⟩::rest) E w:=fun a ha=>by
 obtain ⟨i,z,a_,bj,cV,jK,Kv,Kw,adW,adX⟩:=lV;obtain ⟨s1,s2,MV,akD,ess,MW,FX⟩:=aa;obtain ⟨eQ,fo⟩:=κ.ajX ess;refine κ.aE8 Z x y base t e i z a_ bj cV jK Kv Kw adW adX (κ.ae A) A c l h cZ k.length c2 k (ess.map fun es=>(([]:List Nat),es)) (κ.c9.plain hR.1 MW) Z (by rw [fo];exact FX) (by rw [eQ,aR7];exact h.nodup) hlen rY pZ Z (ha.ev hs) (ha.ev hx) ?_;rintro bG b4 f' aP ⟨lH,mY,ya,II,RH,akb⟩;obtain rfl:=lH.aue hR.2;have hm:Mod (κ.ae A) w aP:=by
  have:=Mod.grown mY
  rwa [κ.Rz] at this
 have:=ar aP bG b4 hm lH (fun q I=>by
  rcases II q I with h | h | h
  ·exact .inl h
  ·rw [eQ] at h;cases h
  ·exact .inr (by omega)) (by rw [RH];exact and_congr_right fun _=>List.length_eq_zero_iff)
 rw [aRH] at this;exact this _ (ha.put hd _)
theorem Own.acN {base e size:Nat} {G:Nat→Value→Prop} {b c n:Nat} {xs:List Value} (h:Own w base e size G (.slice (some ⟨b,0,none⟩) n c) n xs):∃ cur:Array Value,w.heap[b]? =some (.cells cur e (0,0))∧cur.size=c * size∧cur.toList.take (n * size)=xs:=by
 obtain ⟨τ,aa⟩:=h;rcases aa with ⟨aa,_⟩ | ⟨g',cap,cur,hv,rH,fC,d,hm,hs,aG,bB⟩
 ·cases aa
 ·injection hv with hv _ hc
  injection hv with hv
  injection hv with hv
  subst hv;subst hc;exact ⟨cur,fC,hs,aG⟩
theorem so {α:Type} {R:κ α} {e by_ B j i:Nat} {A:Option Addr} {c:Nat} {l:List α} {q q':α} {p:Addr} {u:Value} (h:R.aD e by_ w B (κ.ae A) A c l) (hR:R.sM) (aq:l[i]? =some q) (ay:Nat.blt j R.size=true) (hx:ev E x=some (.pointer (some p))) (hp:p=⟨e7 A,ld A+i * R.size+j,none⟩) (aL:ev E y=some u)
  (hu:∀ (aP:World) cs,R.has w cs q→R.has aP (cs.set j u) q') (τ:u.oneCell'=true) (zm:u.cells=#[u]) (hs:eN P t 1)
  (ar:∀ aP,Mod (κ.ae A) w aP→R.aD e by_ aP B (κ.ae A) A c (l.set i q')→cE P n ops Q rest E aP):cE P n ops Q (⟨none, .store t x y,ty,pos,af,none⟩::rest) E w:=by
 obtain ⟨b,rfl⟩:=h.block (by have:=(aRC.1 aq).1;omega);rw [aVe] at ay;have LC:p=⟨b,i * R.size+j,none⟩:=by rw [hp];simp [e7,ld]
 subst LC;have wh:=h.aCZ hR aq ay (fun cs hc=>hu _ cs hc);have bw:=(aRC.1 aq).1;have jA:∃ alu,w.cell? ⟨b,i * R.size+j,none⟩=some alu:=by
  obtain ⟨_,ps,_,_,bS,de⟩:=h;have az:=bS.1;rw [bS.cell _ (by rw [aSM i];exact aTk (by rw [aSM];exact (by omega:i * R.size+j<i * R.size+R.size)) (by rw [← aTh];exact aSm _ bw))];exact ⟨_,aRD (by rw [az];exact aTk (by omega:i * R.size+j<i * R.size+R.size) (by rw [← aTh];exact aSm _ bw))⟩
 obtain ⟨alu,axE⟩:=jA;have hf:=h.free (i * R.size+j);refine us (w':=w.setCell ⟨b,i * R.size+j,none⟩ u) (fun n a ha=> ?_) (ar _ (Mod.setCell w ⟨b,i * R.size+j,none⟩ u) wh);have hP:(storeVar t ⟨b,i * R.size+j,none⟩ u).run P w= .ok () (w.setCell ⟨b,i * R.size+j,none⟩ u):=by
  unfold storeVar;simp only [zm,aRS,hs w,aRJ,aTc,aRG,aRM,ne_eq,aSU,aWA,aS0,storeCells];have:(⟨b,i * R.size+j,none⟩:Addr).add 0=⟨b,i * R.size+j,none⟩:=rfl;rw [this,run_store P w _ u _ τ,axE];simp only [hf,aSq,aS0,aRJ,aRT]
 simp only [execOp,ha.ev hx,ha.ev aL,Instr.storeAt,Instr.sureAddr,aRS,aRT,aRJ,hP]
theorem O7 {e u:TypeId} {q:Option Addr} (aG:P.underlying t=some (.pointer e)) (hx:ev E x=some (.pointer q)) (aL:ev E y=some (.pointer none)):cS P E ⟨d, .binOp .eql t x y u,ty,pos,af,g⟩ w (.bool q.isNone) w:=fun n a ha=>by
 have τ:P.underlying t=some (.pointer (P.pointee t)):=by simp [Program.pointee,aG]
 have:(eqGuard .eql t x y (.pointer q) (.pointer none)).run P w= .ok () w:=by cases x<;>cases y<;>rfl
 simp only [execOp,ha.ev hx,ha.ev aL,aRS,this,run_eql_pointer_nil w t q τ,aRJ,aRT]
def Oh (P:Program) {α:Type} [DecidableEq α] (cells:α→List Value) (t:TypeId):Prop:=∀ (a b:α) (w:World),(binOp .eql t (.agg (cells a).toArray) (.agg (cells b).toArray)).run P w= .ok (.bool (decide (a=b))) w∧(binOp .neq t (.agg (cells a).toArray) (.agg (cells b).toArray)).run P w= .ok (.bool (!decide (a=b))) w
theorem atI {o:BinOp} {xs ys:Array Value} (h:P.eqGuardType P.depth t=false):(eqGuard o t x y (.agg xs) (.agg ys)).run P w= .ok () w:=by
 cases o<;>simp [eqGuard,h]
theorem Uk {α:Type} [DecidableEq α] {cells:α→List Value} {u:TypeId} {p q:α} (lV:Oh P cells t) (bB:P.eqGuardType P.depth t=false) (hx:ev E x=some (.agg (cells p).toArray)) (aL:ev E y=some (.agg (cells q).toArray)):cS P E ⟨d, .binOp .neq t x y u,ty,pos,af,g⟩ w (.bool (!decide (p=q))) w:=fun n a ha=>by
 simp only [execOp,ha.ev hx,ha.ev aL,aRS,atI bB,(lV p q w).2,aRJ,aRT]
theorem run_equalIn_bool (d:Nat) {p q:Bool} (aG:P.underlying t=some .bool):(Op.equalIn (d+1) t (.bool p) (.bool q)).run P w= .ok (p == q) w:=by simp [Op.equalIn,aSL aG]
theorem run_equal_bool {p q:Bool} (aG:P.underlying t=some .bool):(Op.equal t (.bool p) (.bool q)).run P w= .ok (p == q) w:=run_equalIn_bool 9999 aG
theorem apx {u:TypeId} {p q:Bool} (aG:P.underlying t=some .bool) (hx:ev E x=some (.bool p)) (aL:ev E y=some (.bool q)):cS P E ⟨d, .binOp .neq t x y u,ty,pos,af,g⟩ w (.bool (p != q)) w:=fun n a ha=>by
 have:(eqGuard .neq t x y (.bool p) (.bool q)).run P w= .ok () w:=by cases x<;>cases y<;>rfl
 have aa:(binOp .neq t (.bool p) (.bool q)).run P w= .ok (.bool (p != q)) w:=by
  simp only [binOp,aRS,run_equal_bool aG,aRJ,aRT];rfl
 simp only [execOp,ha.ev hx,ha.ev aL,aRS,this,aa,aRJ,aRT]
theorem Fp {u i:Value} (hx:ev E x=some u) (aL:ev E y=some i) (hr:(Instr.index t u i).run P w= .ok v w):cS P E ⟨d, .index t x y,ty,pos,af,g⟩ w v w:=fun n a ha=>by
 simp only [execOp,ha.ev hx,ha.ev aL,aRS,hr,aRJ,aRT]
theorem nL {k:IntKind} {i j:Int} {ts:Array TypeId} (hx:ev E x=some (.int k i)) (aL:ev E y=some (.int k j)):cS P E ⟨d, .call {callee:= .builtin .min,args:=#[x,y],argTypes:=ts},ty,pos,af,g⟩ w (.int k (min i j)) w :=
 bi (vs:= [.int k i, .int k j]) (by simp only [hq,hx,aL]) fun cs=>by
  have:=run_min_int2 (P:=P) (w:=w) ts ty k k i j;simp only [builtin,aRS,this,aRJ,aRT];congr 3;rw [Int.min_def];split<;>split<;>omega
theorem mx {k:IntKind} {i j:Int} {ts:Array TypeId} (hx:ev E x=some (.int k i)) (aL:ev E y=some (.int k j)):cS P E ⟨d, .call {callee:= .builtin .max,args:=#[x,y],argTypes:=ts},ty,pos,af,g⟩ w (.int k (max i j)) w :=
 bi (vs:= [.int k i, .int k j]) (by simp only [hq,hx,aL]) fun cs=>by
  have:=run_max_int2 (P:=P) (w:=w) ts ty k k i j;simp only [builtin,aRS,this,aRJ,aRT];congr 3;rw [Int.max_def];split<;>split<;>omega
end
open Tryz

section
variable {P:Program} {n:Nat} {E:List (Nat×Value)} {a:Act} {w w0:World} {Q:Exit→Act→World→Prop} {ops:Array Oper} {aS:Nat→Nat}
def zH (r:List Nat) (l:Array Bool):Array Bool:=match r with | []=>l | i::r=>zH r (l.setIfInBounds i true)
def EM (ops:Array Oper) (aS:Nat→Nat):List Nat→Array Bool→Bool
 | [],_=>true
 | i::r,l=>(match aS i with
   | 0=>Region.free .any ops l i && (Region.ready .any ops l).contains i && O0 ops aS l i
   | 1=>Region.free .any ops l i && (Region.ready .any ops l).contains i
   | _=>false) && EM ops aS r (l.setIfInBounds i true)
def ack (ops:Array Oper) (aS:Nat→Nat) (r:List Nat):Nat→List Nat→Array Bool→Bool
 | 0,R,l=>R.isEmpty && h' ops aS r l
 | f+1,R,l=> !(Region.ready .any ops l).isEmpty && (Region.ready .any ops l).all fun j=>R.contains j && Nat.beq (aS j) 2 && ack ops aS r f (R.erase j) (l.setIfInBounds j true)
theorem T4 (hs:Region.noSelect ops=true) (gy:∀ c a w,¬ Q (.panic c) a w) {qF:Exit→Act→World→Prop} {m:Nat}:∀ (r:List Nat) (l:Array Bool) (a:Act) (w0:World),l.size=ops.size→EM ops aS r l=true→vh P ops qF aS r a w0→
  (∀ a w0,(∀ w,Ext w0 w→qF .normal a w)→Cr P ops Q aS m (zH r l) a w0)→Cr P ops Q aS (r.length+m) l a w0
 | [],l,a,w0,_,_,h,dM=>by rw [aRM,aSU];exact dM a w0 h
 | i::r,l,a,w0,az,aX,h,dM=>by
  rw [aRG,Nat.succ_add];obtain ⟨o,bS,h⟩:=h;have kN:=aTV hs;rcases h with ⟨ar,v,I,hK⟩ | ⟨ar,v,I,hK⟩ | ⟨ar,h⟩
  ·simp only [EM,ar,aRI] at aX;obtain ⟨⟨⟨hf,hr⟩,Φ⟩,aX⟩:=aX;obtain ⟨R,r1,r2,u0⟩:=Ki az Φ;exact PX bS (by omega) kN gy (fun w0 a=>uo P ops w0 o v a) (fun _ _ h=>h) (fun _ _ _ h he hw=>h.of_same he hw) (fun _ _ _ hx h=>h.on hx) R l r1 (.inr u0) _ _ _ _ r2 (fun _ h=>h) (aS4 bS hf) (by simpa using hr) I
    (T4 hs gy r _ _ _ (by simpa using az) aX hK dM)
  ·simp only [EM,ar,aRI] at aX;obtain ⟨⟨hf,hr⟩,aX⟩:=aX;exact PX bS (by omega) kN gy (fun _ a=>Yields P ops o v a) (fun _ _ h=>Yields.akk h) (fun _ _ _ h he hw=>h.of_same he hw) (fun _ _ _ _ h=>h) (fun _=>true) l (fun _ _ _ _ _=>Z) (.inl fun _ _ _ h=>h) _ _ _ _ (fun _ _=>Z) (fun _ h=>h) (aS4 bS hf) (by simpa using hr) I
    (T4 hs gy r _ _ _ (by simpa using az) aX hK dM)
  ·obtain ⟨k,gS⟩:∃ k,aS i=k+2:=⟨aS i - 2,by omega⟩;simp only [EM,gS,Bool.false_and,aSq] at aX
theorem er.ka {d:Nat} (h:er n E a) (hf:look E d=Option.none) (v:Value):er n E (a.put (some d) v):=by
 refine ⟨h.d,by simp [Act.put,h.s],fun t u hu=> ?_⟩;have fh:d≠t:=fun e=>by rw [e,hu] at hf;cases hf
 simp only [Act.put];rw [aTu fh];exact h.g t u hu
structure aHv (P:Program) (n:Nat) (ops:Array Oper) (Q:Exit→Act→World→Prop) (E:List (Nat×Value)) (w0:World) (i d:Nat) (Z5:Value→List Nat→World→Prop):Prop where
 mono:∀ v f w w',Z5 v f w→Ext w w'→Z5 v f w'
 free:look E d=none
 cK:Nat.blt d n=true
 run:∀ (a:Act) (w:World) (K:Act→World→Prop),er n E a→Ext w0 w→(∀ v w' f,Ext w w'→(∀ q∈f,w.heap.size≤q∧q<w'.heap.size)→Z5 v f w'→K (a.put (some d) v) w')→wpOp P ops (gF (Q .normal)) i K a w
abbrev Made:=Nat×Nat×(Value→List Nat→World→Prop)
def aGz (P:Program) (ops:Array Oper) (Q:Exit→Act→World→Prop) (aS:Nat→Nat) (B bO:List Nat) (l:Array Bool):Exit→Act→World→Prop
 | .normal,a,w=>Region.noSelect ops=true→l.size=ops.size→ack ops aS bO B.length B l=true→Cr P ops (gF (Q .normal)) aS (B.length+bO.length) l a w
 | _,_,_=>False
theorem Y2:∀ (r:List Nat) (l:Array Bool),(zH r l).size=l.size
 | [],_=>rfl
 | i::r,l=>by unfold zH;rw [Y2 r];simp
def aAj:List Nat→Bool
 | []=>true
 | x::r=> !r.elem x && aAj r
variable {d i:Nat} {ty:TypeId} {pos:String} {af:Array Edge} {x y z:Operand} {t:TypeId} {v:Value}
def aHw (cs:List Value) (t:TypeId) (v:Value) (f:List Nat) (w:World):Prop:=∃ b,v= .pointer (some ⟨b,0,none⟩)∧f= [b]∧aR w b cs t (0,0)
end
open Tryz

section
variable {P:Program} {n:Nat} {E cP:List (Nat×Value)} {a:Act} {w w' w0 aP:World} {Q:Exit→Act→World→Prop} {ops:Array Oper}
variable {d:Option Nat} {ty:TypeId} {pos:String} {af:Array Edge} {g:Option (Nat×Bool)} {x y z u:Operand} {t:TypeId} {rest:List Oper} {v:Value}
theorem Yk {i:Int} (hx:ev E x=some (.int .i64 i)) (h:IntKind.i64.wrap (-i)= -i):cS P E ⟨d, .unOp .neg t x,ty,pos,af,g⟩ w (.int .i64 (-i)) w:=fun n a ha=>by
 have:(execOp a.eval ⟨d, .unOp .neg t x,ty,pos,af,g⟩).run P w= .ok (.value (.int .i64 (IntKind.i64.wrap (-i)))) w:=by
  have aH:(0:Int) - i= -i:=Int.zero_sub i;have hu:(Op.unary .neg (.int .i64 i)).run P w= .ok (.int .i64 (IntKind.i64.wrap (-i))) w:=by
   show (Op.intArith .sub .i64 0 i).run P w=_;simp [Op.intArith,aH]
  simp only [execOp,ha.ev hx,aRS,hu,aRJ,aRT]
 rw [this,h]
theorem azC {k:IntKind} {i j l m:Int} {ts:Array TypeId} (hx:ev E x=some (.int k i)) (aL:ev E y=some (.int k j)) (bs:ev E z=some (.int k l)) (hu:ev E u=some (.int k m)):cS P E ⟨d, .call {callee:= .builtin .max,args:=#[x,y,z,u],argTypes:=ts},ty,pos,af,g⟩ w (.int k (max (max (max i j) l) m)) w :=
 bi (vs:= [.int k i, .int k j, .int k l, .int k m]) (by simp only [hq,hx,aL,bs,hu]) fun cs=>by
  have e:∀ a b:Int,(if b > a then b else a)=max a b:=fun a b=>by rw [Int.max_def];split<;>split<;>omega
  have:(Builtin.max_ ts ty #[.int k i, .int k j, .int k l, .int k m]).run P w= .ok (.int k (max (max (max i j) l) m)) w:=by
   rw [← e,← e,← e];simp [Builtin.max_,Builtin.max2]
  simp only [builtin,aRS,this,aRJ,aRT]
end
def abc (e:MapEntry) (p:Int×Int):Prop:=e.key= .int .i64 p.1∧e.val= .int .i64 p.2
def pD (w:World) (r:Nat) (l:List (Int×Int)):Prop:=∃ (es:Array MapEntry) (clock:Nat),w.heap[r]? =some (.map es clock)∧c9 abc es.toList l
def cN (l:List (Int×Int)) (k:Int):Option Int:=(l.find? fun p=>p.1 == k).map (·.2)
section
variable {w w':World} {r:Nat} {l:List (Int×Int)} {S:List Nat}
theorem pD.lt (h:pD w r l):r<w.heap.size:=by
 obtain ⟨es,c,τ,_⟩:=h;exact (aSa.1 τ).1
theorem pD.later (h:pD w r l) (x:Ext w w'):pD w' r l:=by
 have az:=h.lt;obtain ⟨es,c,τ,aa⟩:=h;exact ⟨es,c,by rw [x.block r az];exact τ,aa⟩
theorem pD.mod (h:pD w r l) (m:Mod S w w') (hs:r∉S):pD w' r l:=by
 have az:=h.lt;obtain ⟨es,c,τ,aa⟩:=h;exact ⟨es,c,by rw [m.block r az hs];exact τ,aa⟩
theorem Vo (k:Int):∀ {es:List MapEntry} {l:List (Int×Int)} (i:Nat),c9 abc es l→(cN l k=none→Instr.findNow (.int .i64) (.int .i64 k) es i=some none)∧(∀ v,cN l k=some v→∃ j,Instr.findNow (.int .i64) (.int .i64 k) es i=some (some (j, .int .i64 v)))
 | [], [],i,_=>⟨fun _=>rfl,fun v h=>by simp [cN] at h⟩
 | e::es,p::l,i,h=>by
  obtain ⟨⟨ar,hv⟩,aa⟩:=h;have bD:=Vo k (i+1) aa;have Fj:Instr.sameNow (.int .i64) (.int .i64 k) e.key=some (decide (k=p.1)):=by
   rw [ar];obtain ⟨q,I,aq⟩:=MapKept.sameNow_of_keys (d:= .int .i64) (a:= .int .i64 k) (b:= .int .i64 p.1) rfl rfl;rw [I];cases q with
   | true=>have:=aq.1 rfl;injection this with _ this;rw [aSe this]
   | false=>rw [aSk fun e=>by have:=aq.2 (by rw [e]);cases this]
  by_cases he:k=p.1
  ·have Φ:(p.1 == k)=true:=by simp [he]
   rw [aSe he] at Fj;refine ⟨fun aH=>by simp [cN,List.find?,Φ] at aH,fun v aH=>⟨i, ?_⟩⟩;have:p.2=v:=by simpa [cN,List.find?,Φ] using aH
   simp [Instr.findNow,Fj,hv,this]
  ·have Φ:(p.1 == k)=false:=by simpa using fun e=>he e.symm
   rw [aSk he] at Fj;have aK:cN (p::l) k=cN l k:=by simp [cN,List.find?,Φ]
   rw [aK];simpa [Instr.findNow,Fj] using bD
end
section
variable {P:Program} {n:Nat} {E cP:List (Nat×Value)} {a:Act} {w w' w0 aP:World} {Q:Exit→Act→World→Prop} {ops:Array Oper}
variable {d:Option Nat} {ty:TypeId} {pos:String} {af:Array Edge} {g:Option (Nat×Bool)} {x y z u:Operand} {t:TypeId} {rest:List Oper} {v:Value}
theorem Yi {d:Nat} (hd:Nat.blt d n=true) (h:∀ aP r,Ext w aP→w.heap.size≤r→pD aP r []→cE P n ops Q rest ((d, .map (some r))::E) aP):cE P n ops Q (⟨some d, .makeMap t none,ty,pos,af,none⟩::rest) E w:=by
 refine iA (w':=w.alloc (.map #[] 0)) (v:= .map (some w.heap.size)) (fun n a ha=> ?_) hd (h _ _ ((aR8 _ w).alloc (aRN _) _) (aRN _) ⟨#[],0,(MapKept.heap_alloc w _).1,trivial⟩);simp only [execOp,Option.map,aRS,run_makeMap_plain,aRJ,aRT]
theorem lk {Mk PU:TypeId} {r:Nat} {l:List (Int×Int)} {k:Int} (hm:P.underlying t=some (.map Mk PU)) (ar:P.underlying Mk=some (.int .i64)) (he:mi P PU (.int .i64 0)) (h:pD w r l) (hx:ev E x=some (.map (some r))) (aL:ev E y=some (.int .i64 k)):
  cS P E ⟨d, .lookup t x y true,ty,pos,af,g⟩ w (.tuple #[.int .i64 ((cN l k).getD 0), .bool (cN l k).isSome]) w:=fun n a ha=>by
 obtain ⟨es,c,τ,aa⟩:=h;have hf:=Vo k 0 aa;have Qt:=aWF (P:=P) (w:=w) ar (show MapKept.IsKey (.int .i64) (.int .i64 k) from rfl) es.isEmpty 9999;have kM:(Instr.lookup t (.map (some r)) (.int .i64 k) true).run P w= .ok (.tuple #[.int .i64 ((cN l k).getD 0), .bool (cN l k).isSome]) w:=by
  cases aK:cN l k with
  | none =>
   have:=aVj (P:=P) (w:=w) ar (hf.1 aK);simp [Instr.lookup,aRS,aSL hm,aSB τ,Qt,this,he w,Result.andThen]
  | some v =>
   obtain ⟨j,ay⟩:=hf.2 v aK;have:=aVj (P:=P) (w:=w) ar ay;simp [Instr.lookup,aRS,aSL hm,aSB τ,Qt,this,Result.andThen]
 simp only [execOp,ha.ev hx,ha.ev aL,aRS,kM,aRJ,aRT]
theorem mu {Mk PU:TypeId} {r:Nat} {l:List (Int×Int)} {k v:Int} (hm:P.underlying t=some (.map Mk PU)) (ar:P.underlying Mk=some (.int .i64)) (h:pD w r l) (aK:cN l k=none) (hx:ev E x=some (.map (some r))) (aL:ev E y=some (.int .i64 k)) (bs:ev E z=some (.int .i64 v))
  (hK:∀ aP,Mod [r] w aP→pD aP r (l++ [(k,v)])→cE P n ops Q rest E aP):cE P n ops Q (⟨none, .mapUpdate t x y z,ty,pos,af,none⟩::rest) E w:=by
 have bw:=h.lt;obtain ⟨es,c,τ,aa⟩:=h;have hf:=(Vo k 0 aa).1 aK;have Qt:=aWF (P:=P) (w:=w) ar (show MapKept.IsKey (.int .i64) (.int .i64 k) from rfl) false 9999;have av3:=aVj (P:=P) (w:=w) ar hf;have wh:=aSY (P:=P) (.map (es.push {key:= .int .i64 k,val:= .int .i64 v,born:=c}) (c+1)) τ;refine us (w':= {w with heap:=w.heap.setIfInBounds r (.map (es.push {key:= .int .i64 k,val:= .int .i64 v,born:=c}) (c+1))}) (fun n a ha=> ?_) (hK _ ⟨Z,Z,Z,by simp,fun q I hn=> ?_⟩ ⟨es.push {key:= .int .i64 k,val:= .int .i64 v,born:=c},c+1,(MapKept.heap_set τ).1, ?_⟩)
 ·have kM:(Instr.mapUpdate t (.map (some r)) (.int .i64 k) (.int .i64 v)).run P w= .ok () {w with heap:=w.heap.setIfInBounds r (.map (es.push {key:= .int .i64 k,val:= .int .i64 v,born:=c}) (c+1))}:=by
   simp [Instr.mapUpdate,aRS,aSL hm,aSB τ,Qt,av3,wh,Result.andThen]
  simp only [execOp,ha.ev hx,ha.ev aL,ha.ev bs,aRS,kM,aRJ,aRT]
 ·exact (MapKept.heap_set τ).2 q (by simpa using hn)
 ·rw [Array.toList_push];exact aa.app ⟨⟨Z,Z⟩,trivial⟩
end
theorem azE {w:World} {B e size c m:Nat} {G:Nat→Value→Prop} {z:Array Value} (bs:z.size=size) (aH:0<size) (bB:∀ (j:Nat) u,z[j]? =some u→G j u) (aX:B≤w.heap.size) (hm:m≤c) (hc:c≤maxLen):
  Own (w.alloc (.cells (madeCells z (c * size)) e)) B e size G (.slice (some ⟨w.heap.size,0,none⟩) m c) m ((madeCells z (c * size)).toList.take (m * size)):=by
 have awQ:m * size≤c * size:=aSm _ hm;refine ⟨by rw [aRE,aTy,aVb];omega, .inr ⟨w.heap.size,c,_,rfl,aX,(MapKept.heap_alloc w _).1,hm,hc,aVb _ _,rfl,fun j u hu=> ?_⟩⟩;have bw:=(aSa.1 hu).1;simp only [madeCells,aVi] at hu;rw [aVb] at bw;rw [aU6,aRP bw] at hu;have ay:j % size<z.size:=by rw [bs];exact aTD _ aH
 have e:z[j % z.size]! =z[j % size]:=by rw [bs];exact aV1 z (j % size) ay
 rw [aS5,e] at hu;exact bB _ _ (by rw [aTW ay];exact hu)
section
variable {P:Program} {n:Nat} {E cP:List (Nat×Value)} {a:Act} {w w' w0 aP:World} {Q:Exit→Act→World→Prop} {ops:Array Oper}
variable {d:Nat} {ty:TypeId} {pos:String} {af:Array Edge} {g:Option (Nat×Bool)} {x y z:Operand} {t:TypeId} {rest:List Oper}
theorem Yb {α:Type} {R:κ α} {e by_ B m c:Nat} {zv:Value} {l:List α} (ck:R.Plain) (aG:P.underlying t=some (.slice e)) (aq:(P.info? e).map (fun i=>(i.zero,i.size,i.bytes))=some (some zv,R.size,by_)) (τ:zv.cells.size=R.size) (aa:0<R.size) (aw:∀ (j:Nat) u,zv.cells[j]? =some u→R.raw j u)
  (hx:ev E x=some (.int .i64 (m:Int))) (aL:ev E y=some (.int .i64 (c:Int))) (hd:Nat.blt d n=true) (hm:m≤c) (Φ:c * by_≤140737488355328) (hc:c≤9223372036854775807) (aX:B≤w.heap.size) (az:l.length=m) {ess:List (List Value)} (av2:∀ w,c9 (fun es a=>R.has w es a) ess l) (ny:ess.flatten=(madeCells zv.cells (c * R.size)).toList.take (m * R.size))
  (h:∀ aP b,Ext w aP→w.heap.size≤b→R.aD e by_ aP B (κ.ae (some ⟨b,0,none⟩)) (some ⟨b,0,none⟩) c l→cE P n ops Q rest ((d, .slice (some ⟨b,0,none⟩) m c)::E) aP):cE P n ops Q (⟨some d, .makeSlice t x y,ty,pos,af,none⟩::rest) E w:=by
 cases I:P.info? e with
 | none=>rw [I] at aq;cases aq
 | some i =>
  rw [I] at aq;simp only [aS5,aUb,aVc] at aq;obtain ⟨i1,i2,i3⟩:=aq;have bx:(i.bytes:Int) * (c:Int)≤281474976710656:=by
   have:i.bytes * c≤281474976710656:=by rw [i3,aSM];omega
   have h:((i.bytes * c:Nat):Int)≤281474976710656:=by omega
   rwa [Int.natCast_mul] at h
  have hr:=run_make (P:=P) w t e i zv aG I i1 .i64 .i64 (m:Int) (c:Int) (by omega) (by omega) bx (by omega);simp only [aSy] at hr;have bS:=azE (w:=w) (e:=e) (c:=c) (m:=m) τ aa aw aX hm (by simp [maxLen];omega);rw [← ny] at bS;subst az;rw [i2] at hr;refine iA (fun n a ha=> ?_) hd (h _ w.heap.size ((aR8 _ w).alloc (aRN _) _) (aRN _) (κ.aD.By (R:=R) ck (av2 _) (aR5 (aSm _ hm) Φ) bS));simp only [execOp,ha.ev hx,ha.ev aL,aRS,hr,aRJ,aRT]
theorem Re {α:Type} {R:κ α} {e by_ B c:Nat} {zv:Value} (ck:R.Plain) (aG:P.underlying t=some (.slice e)) (aq:(P.info? e).map (fun i=>(i.zero,i.size,i.bytes))=some (some zv,R.size,by_)) (τ:zv.cells.size=R.size) (aa:0<R.size) (aw:∀ (j:Nat) u,zv.cells[j]? =some u→R.raw j u)
  (hx:ev E x=some (.int .i64 0)) (aL:ev E y=some (.int .i64 (c:Int))) (hd:Nat.blt d n=true) (Φ:c * by_≤140737488355328) (hc:c≤9223372036854775807) (aX:B≤w.heap.size)
  (h:∀ aP b,Ext w aP→w.heap.size≤b→R.aD e by_ aP B (κ.ae (some ⟨b,0,none⟩)) (some ⟨b,0,none⟩) c ([]:List α)→cE P n ops Q rest ((d, .slice (some ⟨b,0,none⟩) 0 c)::E) aP):cE P n ops Q (⟨some d, .makeSlice t x y,ty,pos,af,none⟩::rest) E w :=
 Yb (m:=0) (l:=([]:List α)) (ess:= []) ck aG aq τ aa aw hx aL hd (aSo _) Φ hc aX rfl (fun _=>trivial) (by simp) h
theorem Mw {α:Type} {R:κ α} {e by_ B c:Nat} {zv:Value} {q:α} (ck:R.Plain) (aG:P.underlying t=some (.slice e)) (aq:(P.info? e).map (fun i=>(i.zero,i.size,i.bytes))=some (some zv,R.size,by_)) (hs:R.size=1) (τ:zv.cells=#[zv]) (aw:∀ (j:Nat) u,zv.cells[j]? =some u→R.raw j u) (I:∀ w,R.has w [zv] q)
  (hx:ev E x=some (.int .i64 (c:Int))) (aL:ev E y=some (.int .i64 (c:Int))) (hd:Nat.blt d n=true) (Φ:c * by_≤140737488355328) (hc:c≤9223372036854775807) (aX:B≤w.heap.size)
  (h:∀ aP b,Ext w aP→w.heap.size≤b→R.aD e by_ aP B (κ.ae (some ⟨b,0,none⟩)) (some ⟨b,0,none⟩) c (List.replicate c q)→cE P n ops Q rest ((d, .slice (some ⟨b,0,none⟩) c c)::E) aP):cE P n ops Q (⟨some d, .makeSlice t x y,ty,pos,af,none⟩::rest) E w:=by
 refine Yb (m:=c) (ess:=List.replicate c [zv]) ck aG aq (by rw [τ,hs];rfl) (by omega) aw hx aL hd (aRN _) Φ hc aX (by simp) (fun w=> ?_) ?_ h
 ·clear h Φ hc hx aL;induction c with
  | zero=>trivial
  | succ c bD=>exact ⟨I w,bD⟩
 ·rw [hs,aUv,τ];apply aTf;intro i;simp only [aSl,aSG,madeCells,aVi,aU6];have a_:∀ k:Nat,(List.replicate k [zv]).flatten=List.replicate k zv:=fun k=>by
   induction k with
   | zero=>rfl
   | succ k bD=>simp [aWo,bD]
  rw [a_,aSH];split
  ·simp [Nat.mod_one]
  ·rfl
end
def eF (A:Option Addr) (c lo s:Nat):Option Addr:=if c=lo then A else A.map (·.add (lo * s))
theorem Vt {β:Type} {size:Nat}:∀ (lo:Nat) {ess:List (List β)},(∀ x∈ess,x.length=size)→(ess.drop lo).flatten=ess.flatten.drop (lo * size)
 | 0,ess,_=>by simp
 | lo+1, [],_=>by simp
 | lo+1,x::ess,h=>by
  have hx:=h x aRZ;rw [aWr,Vt lo fun y aL=>h y (aRQ _ aL),aSu,aTh,aVn,← aUo];congr 1;rw [List.drop_append_of_le_length (by omega),aV7 (by omega)];rfl
theorem PY {β:Type} {size:Nat}:∀ (n:Nat) {ess:List (List β)},(∀ x∈ess,x.length=size)→(ess.take n).flatten=ess.flatten.take (n * size)
 | 0,ess,_=>by simp
 | n+1, [],_=>by simp
 | n+1,x::ess,h=>by
  have hx:=h x aRZ;have e:(n+1) * size=size+n * size:=by rw [aTh,aVn]
  rw [aWm,aSu,PY n fun y aL=>h y (aRQ _ aL),aSu,e,aVy,hx,Nat.add_sub_cancel_left,aR1 (by rw [hx];omega:x.length≤size+n * size)]
theorem c9.drop {α β:Type} {P:β→α→Prop}:∀ (n:Nat) {l:List β} {m:List α},c9 P l m→c9 P (l.drop n) (m.drop n)
 | 0,_,_,h=>h
 | n+1, [], [],_=>trivial
 | n+1,_::_,_::_,h=>c9.drop n h.2
theorem c9.take {α β:Type} {P:β→α→Prop}:∀ (n:Nat) {l:List β} {m:List α},c9 P l m→c9 P (l.take n) (m.take n)
 | 0,_,_,_=>trivial
 | n+1, [], [],_=>trivial
 | n+1,_::_,_::_,h=>⟨h.1,c9.take n h.2⟩
theorem κ.aJ.sub {α:Type} {R:κ α} {by_ c:Nat} {A:Option Addr} {l:List α} {w:World} (h:R.aJ by_ w A c l) (lo aq:Nat) (τ:lo≤aq) (aa:aq≤l.length):R.aJ by_ w (eF A c lo R.size) (c - lo) ((l.drop lo).take (aq - lo)):=by
 obtain ⟨g1,g2,g3,g4,ess,g5,g6⟩:=h;have hlen:((l.drop lo).take (aq - lo)).length=aq - lo:=by rw [aRE,aRV];omega
 have hu:∀ x∈ess,x.length=R.size:=fun x hx=>by obtain ⟨a,ha⟩:=g5.left x hx;exact R.len ha
 refine ⟨by rw [hlen];omega,by omega,by rw [hlen];exact aR5 (aSm _ (by omega)) g3,fun hn=> ?_,(ess.drop lo).take (aq - lo),(g5.drop lo).take _, ?_⟩
 ·unfold eF at hn;split at hn
  ·omega
  ·cases A with
   | none=>have:=g4 rfl;omega
   | some a=>cases hn
 ·have axF:∀ x∈ess.drop lo,x.length=R.size:=fun x hx=>hu x (aU1 hx);have HS:ess.length=l.length:=g5.length;rw [PY _ axF,Vt _ hu,hlen];have ny:=AU hu;refine ⟨?_,fun aH=> ?_⟩
  ·rw [aRE,aRV,ny,HS,← Nat.sub_mul,aTq (aSm _ (by omega))]
  ·obtain ⟨b,o,rfl,hc⟩:=g6.2 (by omega);have fh:¬ c=lo:=by omega
   refine ⟨b,o+lo * R.size,by unfold eF;rw [aRL fh];simp [Addr.add],fun j u ay=> ?_⟩;rw [aSl] at ay;split at ay
   ·rw [aSJ] at ay;rw [aUj];exact hc _ u ay
   ·cases ay
section
variable {P:Program} {n:Nat} {E cP:List (Nat×Value)} {w:World} {d:Option Nat} {ty:TypeId} {pos:String} {af:Array Edge} {g:Option (Nat×Bool)} {x y z:Operand} {t:TypeId}
theorem aCH {A:Option Addr} {len cap e s:Nat} {k k':IntKind} (lo aq:Nat) {i j:Int} (aG:P.underlying t=some (.slice e)) (hs:eN P e s) (hx:ev E x=some (.slice A len cap)) (aL:ev E y=some (.int k i)) (bs:ev E z=some (.int k' j)) (A8:i=(lo:Int)) (Fa:j=(aq:Int)) (τ:lo≤aq) (aa:aq≤cap):
  cS P E ⟨d, .slice t x (some y) (some z) none,ty,pos,af,g⟩ w (.slice (eF A cap lo s) (aq - lo) (cap - lo)) w:=fun n a ha=>by
 subst A8;subst Fa;have lH:P.underlying t=some (.slice (P.elem t)):=by simp [Program.elem,aG]
 have mY:P.elem t=e:=by simp [Program.elem,aG]
 have aw:=run_slice_lh (P:=P) (w:=w) t A len cap lH k k' (lo:Int) (aq:Int) (by omega) (by omega) (by omega);have a1:=aUe (P:=P) (w:=w) t (.slice A len cap) (some (.int k (lo:Int))) (some (.int k' (aq:Int))) none lH;rw [mY,hs w] at aw;simp only [execOp,ha.ev hx,ha.ev aL,ha.ev bs,Option.map,a1,aw,aRS,aRJ,aRT,sliced,aSy,eF]
end
open Tryz

section
variable {P:Program} {n:Nat} {E cP:List (Nat×Value)} {a:Act} {w w' w0 aP:World} {Q:Exit→Act→World→Prop} {ops:Array Oper}
variable {d:Option Nat} {ty:TypeId} {pos:String} {af:Array Edge} {g:Option (Nat×Bool)} {x y z:Operand} {t:TypeId} {rest:List Oper} {v:Value}
theorem aCA {f:FuncId} (hf:Enters P f) {xs:Array Operand} {ts:Array TypeId} {args Kk:List Value} {a:Act} (ha:er n E a) (hx:ev E x=some (.func (.func f) #[] Kk.toArray)) (he:hq E xs.toList=some args):
  (execOp a.eval ⟨d, .call {callee:= .value x,args:=xs,argTypes:=ts},ty,pos,af,g⟩).run P w= .ok (.enter f (args++Kk).toArray) w:=by
 obtain ⟨fn,τ,aa,aw⟩:=hf;have hm:xs.map a.eval=args.toArray:=by rw [← ha.hq he];apply aS8;simp
 have hp:Sem.run P program w= .ok P w:=rfl;unfold execOp;simp only [resolve,invoke,Deferred.ofValue,ha.ev hx,callFunc,aRS,aRT,aRJ,hm,hp,τ,aa,aw,aUp,aSq,aS0];simp
theorem Km {d:Nat} {f:FuncId} (hf:Enters P f) {xs:Array Operand} {ts:Array TypeId} {args Kk:List Value} (hx:ev E x=some (.func (.func f) #[] Kk.toArray)) (he:hq E xs.toList=some args) (hd:Nat.blt d n=true)
  (h:Calls P f (args++Kk).toArray w fun e w'=>∃ v,e= .returned v∧cE P n ops Q rest ((d,v)::E) w'):cE P n ops Q (⟨some d, .call {callee:= .value x,args:=xs,argTypes:=ts},ty,pos,af,none⟩::rest) E w:=fun a ha=>by
 refine Ev Z ?_;unfold Oper.wp;rw [aCA hf ha hx he];refine aVw h fun e w' fC=> ?_;obtain ⟨v,rfl,h⟩:=fC;exact h _ (ha.put hd v)
theorem ne {fn:Func} {R:Ending→World→Prop} (h:T n (bodyPost P fn R) E w):N n (bodyPost P fn R) E w:=fun a ha=>h a ha
end
def Raw (aC size j:Nat) (w:World) (A:Option Addr) (c:Nat):Prop :=
 (A=none∧c=0)∨∃ (b:Nat) (cur:List Value) (e:TypeId),A=some ⟨b,0,none⟩∧aC≤b∧aR w b cur e (0,0)∧∀ i,i<c→∃ m:Int,cur[i * size+j]? =some (.int .i64 m)
section
variable {w w':World} {aC size j c i:Nat} {A:Option Addr} {S:List Nat}
theorem Raw.later (h:Raw aC size j w A c) (x:Ext w w'):Raw aC size j w' A c:=by
 rcases h with h | ⟨b,cur,e,τ,aa,aw,a1⟩
 ·exact .inl h
 ·exact .inr ⟨b,cur,e,τ,aa,aw.later x,a1⟩
theorem Raw.bR (h:Raw aC size j w A c) (aH:0<c):A=some ⟨e7 A,ld A,none⟩:=by
 rcases h with ⟨_,h⟩ | ⟨b,cur,e,rfl,_⟩
 ·omega
 ·rfl
theorem Raw.get (h:Raw aC size j w A c) (aq:i<c):∃ m:Int,w.cell? ⟨e7 A,ld A+i * size+j,none⟩=some (.int .i64 m):=by
 rcases h with ⟨_,h⟩ | ⟨b,cur,e,rfl,_,aw,a1⟩
 ·omega
 ·obtain ⟨m,hm⟩:=a1 i aq;exact ⟨m,by rw [show (⟨e7 (some ⟨b,0,none⟩),ld (some ⟨b,0,none⟩)+i * size+j,none⟩:Addr)=⟨b,i * size+j,none⟩ from by simp [e7,ld],aw.cell,hm]⟩
end
open Tryz
end Go.Proofs.YtlikikpgmmkjbaaGreat
