import Derived.Test.YtmeeljmapailnaaGreatBas
import Derived.Test.YtmeeljmapailnaaGreatProg
import Derived.WideMake
set_option linter.unusedVariables false
set_option linter.unusedSimpArgs false
set_option maxRecDepth 100000
set_option maxHeartbeats 4000000
open Go.RowKit
namespace Go.Proofs.YtmeeljmapailnaaGreat
open Tryz
open Tryz
abbrev aX7:=@List.getD_eq_getElem?_getD
abbrev aYf:=@List.mem_singleton
abbrev aYh:=@List.length_nil
abbrev aYD:=@decide_eq_true
abbrev aYE:=@List.mem_cons_self
abbrev aYL:=@decide_eq_false
abbrev aY2:=@Int.toNat_natCast
abbrev aZn:=@List.getElem?_replicate
abbrev aZw:=@List.mem_of_mem_drop
abbrev aZx:=@Nat.min_eq_left
abbrev aZG:=@Nat.lt_of_lt_of_le
abbrev aZ1:=@Nat.succ_mul
abbrev aZ4:=@Nat.le_of_ble_eq_true
abbrev bak:=@of_decide_eq_false
abbrev bas:=@And.left
abbrev bau:=@Nat.eq_of_beq_eq_true
abbrev bay:=@Go.run_sliceAt_slice
abbrev baS:=@List.set_eq_take_append_cons_drop
abbrev baW:=@List.drop_of_length_le
abbrev ba0:=@Nat.add_assoc
abbrev ba2:=@Nat.mul_one
abbrev bbh:=@Nat.lt_succ_iff_lt_or_eq
abbrev bbi:=@List.cons.inj
abbrev bbC:=@List.getElem?_toArray
abbrev bbO:=@List.drop_succ_cons
abbrev bbQ:=@Go.size_madeCells
abbrev bbR:=@Prod.mk.injEq
abbrev bb5:=@Go.MapKept.run_findKey
abbrev bca:=@Nat.add_comm
abbrev bcu:=@List.drop_append_of_le_length
abbrev bcw:=@Array.getD_eq_getD_getElem?
abbrev bcE:=@Array.getElem?_append_left
abbrev bcL:=@List.getElem?_take_of_lt
abbrev bcP:=@getElem!_pos
abbrev bcS:=@Nat.ne_of_beq_eq_false
abbrev bc8:=@Array.size_replicate
abbrev bdc:=@List.replicate_succ
abbrev bdj:=@Int.not_le
abbrev bdl:=@not_true_eq_false
abbrev bdq:=@Go.MapKept.run_checkKey

def ea (n:Int):Prop:=(Lit.int .i64 n).wf=true
theorem b8 {n:Int}:ea n↔ -9223372036854775808≤n∧n≤9223372036854775807:=by
 unfold ea;simp [Lit.wf,IntKind.min,IntKind.max,IntKind.signed,IntKind.bits]
def bu:J Int:=J.flat 1 (fun n=> [.int .i64 n]) ea (fun _ u=>∃ n:Int,u= .int .i64 n) (fun _=>rfl) (by intro a u hu;simp at hu;subst hu;rfl) (by
 intro a j u hu;cases j with
 | zero=>simp at hu;exact ⟨a,hu.symm⟩
 | succ j=>simp at hu)
def Bx:J Bool:=J.flat 1 (fun n=> [.bool n]) (fun _=>True) (fun _ u=>∃ n:Bool,u= .bool n) (fun _=>rfl) (by intro a u hu;simp at hu;subst hu;rfl) (by
 intro a j u hu;cases j with
 | zero=>simp at hu;exact ⟨a,hu.symm⟩
 | succ j=>simp at hu)
def gi:J ByteArray:=J.Zu 1 (fun n=> [.string n]) (fun s=>s.size≤140737488351232) (fun _ u=>∃ n:ByteArray,u= .string n∧n.size≤140737488351232) (fun _=>rfl) (by intro a u hu;simp at hu;subst hu;rfl) (by
 intro a ok j u hu;cases j with
 | zero=>simp at hu;exact ⟨a,hu.symm,ok⟩
 | succ j=>simp at hu)
theorem aow:bu.Plain:=J.qa
theorem aIL:gi.Plain:=J.aiK
theorem Vg:gi.rV:=J.azN
section
variable {by_:Nat} {w:World} {A:Option Addr} {c:Nat}
theorem F6 {l:List Int} (h:bu.aK by_ w A c l) (aG:0<l.length):∃ b o,A=some ⟨b,o,none⟩∧∀ (i:Nat) (a:Int),l[i]? =some a→w.cell? ⟨b,o+i,none⟩=some (.int .i64 a):=by
 obtain ⟨b,o,e,hc⟩:=h.at_ aG;refine ⟨b,o,e,fun i a ha=> ?_⟩;obtain ⟨es,⟨rfl,_⟩,ay⟩:=hc i a ha;have:=ay 0 _ rfl;simpa [bu,J.flat] using this
end
theorem ac5 (w:World) (cs:List Value) (h:(.int .i64:hl).j_ w cs):∃ a,bu.has w cs a:=by
 obtain ⟨n,rfl,hn⟩:=h;exact ⟨n,Z,hn⟩
theorem LH {by_:Nat} {w:World} {A:Option Addr} {c:Nat} {l:List Int} (h:bu.aK by_ w A c l):∀ a∈l,ea a:=J.aK.AB (R:=bu) (Q:=ea) (fun {w cs a} (h:bu.has w cs a)=>(show cs= [.int .i64 a]∧ea a from h).2) h
theorem xI:(prog.info? 3).map (fun i=>(i.zero,i.size,i.bytes))=some (some (.int .i64 0),1,8):=by kernel_rfl
theorem ic {α:Type} {l:List α} {i:Nat} (h:i<l.length):∃ a,l[i]? =some a:=⟨_,aYb h⟩
open Tryz
theorem aMt:∀ (j:Nat) u,(Value.int .i64 0).cells[j]? =some u→bu.raw j u:=by
 intro j u hu;have hu:(#[Value.int .i64 0]:Array Value)[j]? =some u:=hu
 match j,hu with
 | 0,hu=>exact ⟨0,(aYd hu).symm⟩
 | j+1,hu=>cases hu
open Tryz

abbrev Env:=List (Nat×Value)
def look:List (Nat×Value)→Nat→Option Value
 | [],_=>none
 | (k,v)::r,t=>match Nat.beq k t with | true=>some v | false=>look r t
structure fj (n:Nat) (E:List (Nat×Value)) (a:Act):Prop where
 d:a.defers= []
 s:a.tmps.size=n
 g:∀ t v,look E t=some v→a.tmps[t]? =some v
def ev (E:List (Nat×Value)):Operand→Option Value
 | .tmp t=>look E t
 | .const v=>some v
 | .global g=>some (.pointer (some ⟨g,0,none⟩))
 | .func f=>some (.func (.func f) #[] #[])
def hL (E:List (Nat×Value)):List Operand→Option (List Value)
 | []=>some []
 | x::r=>match ev E x with
  | some v=>match hL E r with
   | some l=>some (v::l)
   | none=>none
  | none=>none
section
variable {P:Program} {n:Nat} {E cW:List (Nat×Value)} {a:Act} {w w' w1:World} {Q:Exit→Act→World→Prop} {ops:Array Oper} {v:Value}
theorem fj.ev {x:Operand} (h:fj n E a) (hx:ev E x=some v):a.eval x=v:=by
 cases x with
 | tmp t=>have:=h.g t v hx;simp [Act.eval,this]
 | const u=>exact aYd hx
 | global g=>exact aYd hx
 | func f=>exact aYd hx
theorem fj.hL (h:fj n E a):∀ {l:List Operand} {vs:List Value},hL E l=some vs→l.map a.eval=vs
 | [],_,e=>by simp only [Proofs.YtmeeljmapailnaaGreat.hL] at e;exact aYd e
 | x::r,vs,e=>by
  simp only [Proofs.YtmeeljmapailnaaGreat.hL] at e;cases hx:Proofs.YtmeeljmapailnaaGreat.ev E x with
  | none=>rw [hx] at e;cases e
  | some v =>
   rw [hx] at e;simp only at e;cases hr:Proofs.YtmeeljmapailnaaGreat.hL E r with
   | none=>rw [hr] at e;cases e
   | some l =>
    rw [hr] at e;simp only at e;obtain rfl:=aYd e;rw [aY3,h.ev hx,fj.hL h hr]
theorem fj.put {d:Nat} (h:fj n E a) (hd:Nat.blt d n=true) (v:Value):fj n ((d,v)::E) (a.put (some d) v):=by
 rw [bbW] at hd;refine ⟨h.d,by simp [Act.put,h.s],fun t u hu=> ?_⟩;simp only [look] at hu;cases ag:Nat.beq d t with
 | true =>
  rw [ag] at hu;obtain rfl:d=t:=bau ag;obtain rfl:=aYd hu;simp [Act.put,h.s,hd]
 | false =>
  rw [ag] at hu;have fZ:d≠t:=bcS ag;simp only [Act.put];rw [baf fZ];exact h.g t u hu
theorem fj.none (h:fj n E a) (v:Value):fj n E (a.put none v):=h
def Sub (cW E:List (Nat×Value)):Prop:=∀ t v,look cW t=some v→look E t=some v
theorem Sub.nil:Sub [] E:=fun t v h=>by simp [look] at h
theorem Sub.cons {k:Nat} (h:look E k=some v) (hs:Sub cW E):Sub ((k,v)::cW) E:=fun t u hu=>by
 simp only [look] at hu;cases ag:Nat.beq k t with
 | true=>rw [ag] at hu;obtain rfl:k=t:=bau ag;obtain rfl:=aYd hu;exact h
 | false=>rw [ag] at hu;exact hs t u hu
theorem fj.sub (h:fj n E a) (hs:Sub cW E):fj n cW a:=⟨h.d,h.s,fun t v hv=>h.g t v (hs t v hv)⟩
def W (P:Program) (n:Nat) (c:Code) (Q:Exit→Act→World→Prop) (E:List (Nat×Value)) (w:World):Prop:=∀ a,fj n E a→c.wp P Q a w
def N (n:Nat) (Q:Exit→Act→World→Prop) (E:List (Nat×Value)) (w:World):Prop:=∀ a,fj n E a→Q .normal a w
def X (n:Nat) (Q:Exit→Act→World→Prop) (id:Nat) (E:List (Nat×Value)) (w:World):Prop:=∀ a,fj n E a→Q (.exit id) a w
def T (n:Nat) (Q:Exit→Act→World→Prop) (E:List (Nat×Value)) (w:World):Prop:=∀ a,fj n E a→Q .ret a w
def cg (P:Program) (n:Nat) (ops:Array Oper) (Q:Exit→Act→World→Prop) (l:List Oper) (E:List (Nat×Value)) (w:World):Prop:=∀ a,fj n E a→wpList P ops Q l a w
abbrev n4 (P:Program) (y:Code) (Q:Exit→Act→World→Prop):Exit→Act→World→Prop:=Exit.then (fun a w=>y.wp P Q a w) Q
theorem av {x y:Code} (h:W P n x (n4 P y Q) E w):W P n (.seq x y) Q E w:=fun a ha=>wp_seq (h a ha)
theorem fu (h:N n Q E w):W P n .skip Q E w:=fun a ha=>wp_skip (h a ha)
theorem rt (h:T n Q E w):W P n .ret Q E w:=fun a ha=>wp_ret (h a ha)
theorem dn {id:Nat} (h:X n Q id E w):W P n (.exit id) Q E w:=fun a ha=>wp_exit (h a ha)
theorem bJ {id:Nat} {c:Code} (h:W P n c (Exit.inBlock id Q) E w):W P n (.block id c) Q E w:=fun a ha=>wp_block (h a ha)
theorem rg {id:Nat} {l:List Oper} (h:cg P n l.toArray Q l E w):W P n (.region id l.toArray false) Q E w:=fun a ha=>wp_region_lit (h a ha)
theorem eT {c:Operand} {x y:Code} (hc:ev E c=some (.bool true)) (h:W P n x Q E w):W P n (.cond c x y) Q E w:=fun a ha=>wp_cond_true (ha.ev hc) (h a ha)
theorem gj {c:Operand} {x y:Code} (hc:ev E c=some (.bool false)) (h:W P n y Q E w):W P n (.cond c x y) Q E w:=fun a ha=>wp_cond_false (ha.ev hc) (h a ha)
theorem Yi {c:Operand} {x y:Code} (b:Bool) (hc:ev E c=some (.bool b)) (κ:b=true→W P n x Q E w) (τ:b=false→W P n y Q E w):W P n (.cond c x y) Q E w :=
 fun a ha=>wp_cond_split (ha.ev hc) (fun h=>κ h a ha) (fun h=>τ h a ha)
theorem du {c:Operand} {x y:Code} {b:Bool} (hc:ev E c=some (.bool b)) (κ:b=true→W P n x Q E w) (τ:b=false→W P n y Q E w):W P n (.cond c x y) Q E w:=Yi b hc κ τ
theorem nl (h:N n Q E w):cg P n ops Q [] E w:=h
theorem aX {y:Code} (h:W P n y Q E w):N n (n4 P y Q) E w:=h
theorem b1 {id:Nat} (h:N n Q E w):N n (Exit.inBlock id Q) E w:=h
theorem dk {y:Code} {id:Nat} (h:X n Q id E w):X n (n4 P y Q) id E w:=h
theorem dG {K:Act→World→Prop} {id:Nat} (h:X n Q id E w):X n (Exit.then K Q) id E w:=h
theorem dj {id:Nat} (h:N n Q E w):X n (Exit.inBlock id Q) id E w:=fun a ha=>by simp only [Exit.inBlock,bab];exact h a ha
theorem Qu {id Ue:Nat} (fZ:Nat.beq Ue id=false) (h:X n Q Ue E w):X n (Exit.inBlock id Q) Ue E w:=fun a ha=>by simp only [Exit.inBlock,aYi (bcS fZ)];exact h a ha
theorem bD {y:Code} (h:T n Q E w):T n (n4 P y Q) E w:=h
theorem m0 {K:Act→World→Prop} (h:T n Q E w):T n (Exit.then K Q) E w:=h
theorem eb {id:Nat} (h:T n Q E w):T n (Exit.inBlock id Q) E w:=h
def EN:Nat→List Value→List (Nat×Value)
 | _, []=> []
 | i,v::r=>(i,v)::EN (i+1) r
theorem XY:∀ (l:List Value) (i t:Nat) (v:Value),look (EN i l) t=some v→∃ j,t=i+j∧l[j]? =some v
 | [],_,_,_,h=>by simp [EN,look] at h
 | u::r,i,t,v,h=>by
  simp only [EN,look] at h;cases ag:Nat.beq i t with
  | true=>rw [ag] at h;exact ⟨0,by have:=bau ag;omega,by simpa using h⟩
  | false =>
   rw [ag] at h;obtain ⟨j,e,ay⟩:=XY r (i+1) t v h;exact ⟨j+1,by omega,by simpa using ay⟩
theorem ch {f:FuncId} {fn:Func} {c:Code} {l:List Value} {R:Ending→World→Prop} (hf:P.funcs[f]? =some fn) (ag:fn.body=some c) (hn:fn.ntmps=n) (ah:Nat.ble l.length n=true)
  (h:W P n c (bodyPost P fn R) (EN 0 l) w):Calls P f l.toArray w R:=by
 refine calls_of_wp hf ag (h _ ⟨Z, ?_,fun t v hv=> ?_⟩)
 ·have:=aZ4 ah;simp only [bcj,bc8,hn,aZT];omega
 ·obtain ⟨j,e,ay⟩:=XY l 0 t v hv;have bF:=(aX8.1 ay).1;rw [bcE (by simp;omega)];simpa [show t=j by omega] using ay
inductive yK (P:Program) (E:List (Nat×Value)) (w:World):List ResultVar→List Value→Prop
 | nil:yK P E w [] []
 | tmp {t:Nat} {v:Value} {r:List ResultVar} {vs:List Value} (h:look E t=some v) (hr:yK P E w r vs):yK P E w (.tmp t::r) (v::vs)
 | cell {t:Nat} {ty:TypeId} {p:Addr} {v:Value} {r:List ResultVar} {vs:List Value} (h:look E t=some (.pointer (some p))) (ah:(loadVar ty p).run P w= .ok v w) (hr:yK P E w r vs):yK P E w (.cell t ty::r) (v::vs)
def tV:List Value→Value
 | [v]=>v
 | vs=> .tuple vs.toArray
theorem yK.run {l:List ResultVar} {vs:List Value} (h:yK P E w l vs) (ha:fj n E a) (f:ResultVar→Sem Value) (f1:∀ t,f (.tmp t)=pure (a.tmps.getD t undef)) (f2:∀ c t,f (.cell c t)=(asAddr (a.tmps.getD c undef)>>= fun p=>loadVar t p)):
  (l.mapM f).run P w= .ok vs w:=by
 induction h with
 | nil=>rfl
 | @tmp t v r vs h hr bL =>
  have τ:a.tmps.getD t undef=v:=by rw [bcw,ha.g _ _ h];rfl
  simp only [List.mapM_cons,aYt,f1,τ,aYu,aYj,bL]
 | @cell t ty p v r vs h ah hr bL =>
  have τ:a.tmps.getD t undef= .pointer (some p):=by rw [bcw,ha.g _ _ h];rfl
  simp only [List.mapM_cons,aYt,f2,τ,asAddr,aYu,aYj,ah,bL]
theorem adb {fn:Func} {vs:List Value} (h:yK P E w fn.results.toList vs) (ha:fj n E a):(results fn a.tmps).run P w= .ok (tV vs) w:=by
 unfold results;rw [Array.mapM_eq_mapM_toList];simp only [aYt,Sem.run_map];rw [h.run ha _ (fun _=>rfl) (fun _ _=>rfl)]
 match vs with
 | []=>rfl
 | [v]=>rfl
 | _::_::_=>simp [tV]
theorem cz {fn:Func} {R:Ending→World→Prop} {vs:List Value} (h:yK P E w fn.results.toList vs) (hR:R (.returned (tV vs)) w):T n (bodyPost P fn R) E w :=
 fun a ha=>⟨ha.d,_,adb h ha,hR⟩
def MX (n:Nat) (kN:Nat→List (Nat×Value)→World→Prop) (m:Nat):Act→World→Prop:=fun a w=>∃ m',m'<m∧∃ cW,kN m' cW w∧fj n cW a
theorem eV {c:Code} (kN:Nat→List (Nat×Value)→World→Prop) (m:Nat) (cW:List (Nat×Value)) (aG:kN m cW w) (hs:Sub cW E)
  (round:∀ m E w,kN m E w→W P n c (Exit.then (MX n kN m) Q) E w):W P n (.loop c) Q E w:=fun a ha=>by
 intro b k cs;have key:∀ m a w,(∃ E,kN m E w∧fj n E a)→∃ e a' w',Q e a' w'∧Arrives P (lone (b.at a (.code c:: .inLoop c::k)) cs w) b k cs e a' w':=by
  intro m;induction m using Nat.strongRecOn with
  | _ m bL =>
   intro a w ⟨E,sa,ha⟩;obtain ⟨e,b2,w1,I,q4⟩:=round m E w sa a ha b (.inLoop c::k) cs;cases e with
   | normal =>
    obtain ⟨m',bF,Z5⟩:=I;obtain ⟨bb,a2,cx,ze,aav⟩:=bL m' bF b2 w1 Z5;exact ⟨bb,a2,cx,ze, .of_steps (Steps.trans q4 (.one step_inLoop)) aav⟩
   | exit id=>exact ⟨_,b2,w1,I, .pass (x:= .inLoop c) rfl (fun _ _=> .inl (by simp)) q4⟩
   | goto l=>exact ⟨_,b2,w1,I, .pass (x:= .inLoop c) rfl (fun _ _=> .inl (by simp)) q4⟩
   | ret=>exact ⟨_,b2,w1,I, .pass (x:= .inLoop c) rfl (fun _ _=> .inl (by simp)) q4⟩
   | panic awf=>exact ⟨_,b2,w1,I, .pass (x:= .inLoop c) rfl (fun _ _=> .inl (by simp)) q4⟩
   | outgrown=>exact ⟨_,b2,w1,I, .pass (x:= .inLoop c) rfl (fun _ _=> .inl (by simp)) q4⟩
 obtain ⟨e,a',w',I,q4⟩:=key m a w ⟨cW,aG,ha.sub hs⟩;exact ⟨e,a',w',I, .of_steps (.one step_loop) q4⟩
theorem om {kN:Nat→List (Nat×Value)→World→Prop} {m:Nat} (m':Nat) (cW:List (Nat×Value)) (h:kN m' cW w) (hm:m'<m) (hs:Sub cW E):N n (Exit.then (MX n kN m) Q) E w :=
 fun a ha=>⟨m',hm,cW,h,ha.sub hs⟩
variable {d:Option Nat} {ty:TypeId} {pos:String} {af:Array Edge} {g:Option (Nat×Bool)} {x y z:Operand} {t:TypeId} {rest:List Oper}
def c9 (P:Program) (E:List (Nat×Value)) (o:Oper) (w:World) (v:Value) (w':World):Prop:=∀ n a,fj n E a→(execOp a.eval o).run P w= .ok (.value v) w'
def atD (P:Program) (E:List (Nat×Value)) (o:Oper) (w w':World):Prop:=∀ n a,fj n E a→(execOp a.eval o).run P w= .ok .skip w'
theorem Hm {o:Oper} (aN:o.guard=none) {a:Act} (h:o.wp P a w (wpList P ops Q rest) Q):wpList P ops Q (o::rest) a w:=by
 unfold wpList;rw [aYq (by simp [Region.wanted,aN])];exact .inl h
theorem hW {d:Nat} {op:Op} (hr:c9 P E ⟨some d,op,ty,pos,af,none⟩ w v w') (hd:Nat.blt d n=true) (h:cg P n ops Q rest ((d,v)::E) w'):cg P n ops Q (⟨some d,op,ty,pos,af,none⟩::rest) E w:=fun a ha=>by
 refine Hm Z ?_;unfold Oper.wp;rw [hr n a ha];exact h _ (ha.put hd v)
theorem us {op:Op} (hr:atD P E ⟨none,op,ty,pos,af,none⟩ w w') (h:cg P n ops Q rest E w'):cg P n ops Q (⟨none,op,ty,pos,af,none⟩::rest) E w:=fun a ha=>by
 refine Hm Z ?_;unfold Oper.wp;rw [hr n a ha];exact h _ ha
def Enters (P:Program) (f:FuncId):Prop:=∃ fn,P.funcs[f]? =some fn∧(fn.name == "runtime.NumGoroutine")=false∧fn.body.isNone=false
theorem P4 {f:FuncId} (hf:Enters P f) {xs:Array Operand} {ts:Array TypeId} {args:List Value} {a:Act} (ha:fj n E a) (he:hL E xs.toList=some args):
  (execOp a.eval ⟨d, .call {callee:= .value (.func f),args:=xs,argTypes:=ts},ty,pos,af,g⟩).run P w= .ok (.enter f args.toArray) w:=by
 obtain ⟨fn,κ,τ,au⟩:=hf;have hm:xs.map a.eval=args.toArray:=by rw [← ha.hL he];apply aZK;simp
 exact aoC f fn κ τ au xs ts Z _ hm
theorem ca {d:Nat} {f:FuncId} (hf:Enters P f) {xs:Array Operand} {ts:Array TypeId} {args:List Value} (he:hL E xs.toList=some args) (hd:Nat.blt d n=true)
  (h:Calls P f args.toArray w fun e w'=>∃ v,e= .returned v∧cg P n ops Q rest ((d,v)::E) w'):cg P n ops Q (⟨some d, .call {callee:= .value (.func f),args:=xs,argTypes:=ts},ty,pos,af,none⟩::rest) E w:=fun a ha=>by
 refine Hm Z ?_;unfold Oper.wp;rw [P4 hf ha he];refine bcl h fun e w' eI=> ?_;obtain ⟨v,rfl,h⟩:=eI;exact h _ (ha.put hd v)
theorem gw (hx:ev E x=some v):c9 P E ⟨d, .move x,ty,pos,af,g⟩ w v w:=fun n a ha=>by simp only [execOp,ha.ev hx];rfl
theorem ee (hx:ev E x=some v):c9 P E ⟨d, .assign x,ty,pos,af,g⟩ w v w:=fun n a ha=>by simp only [execOp,ha.ev hx];rfl
theorem ex {l:List Value} {k:Nat} (hx:ev E x=some (.tuple l.toArray)) (ak:l[k]? =some v):c9 P E ⟨d, .extract x k,ty,pos,af,g⟩ w v w:=fun n a ha=>by
 simp only [execOp,ha.ev hx,Instr.extract,bbC,ak];rfl
theorem bx {p:Addr} (hx:ev E x=some (.pointer (some p))):c9 P E ⟨d, .nilCheck x,ty,pos,af,g⟩ w (.pointer (some p)) w:=fun n a ha=>by simp only [execOp,ha.ev hx];rfl
theorem dJ {b:Bool} (hx:ev E x=some (.bool b)):c9 P E ⟨d, .unOp .not t x,ty,pos,af,g⟩ w (.bool !b) w:=fun n a ha=>by
 simp only [execOp,ha.ev hx];cases b<;>rfl
theorem iK {v:Value} (hx:ev E x=some (.bool true)) (aE:ev E y=some v):c9 P E ⟨d, .pick x y z,ty,pos,af,g⟩ w v w:=fun n a ha=>by
 simp only [execOp,ha.ev hx,ha.ev aE];rfl
theorem fR {v:Value} (hx:ev E x=some (.bool false)) (bc:ev E z=some v):c9 P E ⟨d, .pick x y z,ty,pos,af,g⟩ w v w:=fun n a ha=>by
 simp only [execOp,ha.ev hx,ha.ev bc];rfl
def gQ (c:Bool) (v:Value):Value:=if c=true then v else undef
theorem gt {c:Bool} (hc:c=true) (h:ev E x=some (gQ c v)):ev E x=some v:=by rw [h,hc];rfl
theorem eW {b c q:Bool} (hx:ev E x=some (.bool b)) (aE:ev E y=some (.bool true)) (I:(b == false)=q) (bc:ev E z=some (gQ q (.bool c))):c9 P E ⟨d, .pick x y z,ty,pos,af,g⟩ w (.bool (b || c)) w:=fun n a ha=>by
 subst I;simp only [execOp,ha.ev hx,ha.ev aE,ha.ev bc];cases b<;>rfl
theorem ei {b c q:Bool} (hx:ev E x=some (.bool b)) (bc:ev E z=some (.bool false)) (I:(b == true)=q) (aE:ev E y=some (gQ q (.bool c))):c9 P E ⟨d, .pick x y z,ty,pos,af,g⟩ w (.bool (b && c)) w:=fun n a ha=>by
 subst I;simp only [execOp,ha.ev hx,ha.ev aE,ha.ev bc];cases b<;>rfl
section
variable {k k':IntKind} {i j:Int} {u:TypeId}
theorem qo {op:BinOp} {s:Sem Value} (hx:ev E x=some (.int k i)) (aE:ev E y=some (.int k' j)) (h:binOp op t (.int k i) (.int k' j)=s) (hr:s.run P w= .ok v w):c9 P E ⟨d, .binOp op t x y u,ty,pos,af,g⟩ w v w:=fun n a ha=>by
 simp only [execOp,ha.ev hx,ha.ev aE,eqGuard_at_int,h,aYt,aYu,aYj,hr]
theorem bad (hx:ev E x=some (.int k i)) (aE:ev E y=some (.int k j)) (h:k.wrap (i+j)=i+j):c9 P E ⟨d, .binOp .add t x y u,ty,pos,af,g⟩ w (.int k (i+j)) w:=qo hx aE (binOp_add t k i j) (by simp [Op.intArith,h])
theorem kx (hx:ev E x=some (.int k i)) (aE:ev E y=some (.int k j)) (h:k.wrap (i - j)=i - j):c9 P E ⟨d, .binOp .sub t x y u,ty,pos,af,g⟩ w (.int k (i - j)) w:=qo hx aE (binOp_sub t k i j) (by simp [Op.intArith,h])
theorem ER (hx:ev E x=some (.int k i)) (aE:ev E y=some (.int k j)) (h:k.wrap (i * j)=i * j):c9 P E ⟨d, .binOp .mul t x y u,ty,pos,af,g⟩ w (.int k (i * j)) w:=qo hx aE (binOp_mul t k i j) (by simp [Op.intArith,h])
theorem avb (hx:ev E x=some (.int k i)) (aE:ev E y=some (.int k j)):c9 P E ⟨d, .binOp .sub t x y u,ty,pos,af,g⟩ w (.int k (k.wrap (i - j))) w:=qo hx aE (binOp_sub t k i j) (by simp [Op.intArith])
theorem blt (hx:ev E x=some (.int k i)) (aE:ev E y=some (.int k j)):c9 P E ⟨d, .binOp .lss t x y u,ty,pos,af,g⟩ w (.bool (decide (i<j))) w:=qo hx aE (binOp_lss t k i j) rfl
theorem ble (hx:ev E x=some (.int k i)) (aE:ev E y=some (.int k j)):c9 P E ⟨d, .binOp .leq t x y u,ty,pos,af,g⟩ w (.bool (decide (i≤j))) w:=qo hx aE (binOp_leq t k i j) rfl
theorem gO (hx:ev E x=some (.int k i)) (aE:ev E y=some (.int k j)):c9 P E ⟨d, .binOp .gtr t x y u,ty,pos,af,g⟩ w (.bool (decide (j<i))) w:=qo hx aE (binOp_gtr t k i j) rfl
theorem jg (hx:ev E x=some (.int k i)) (aE:ev E y=some (.int k j)):c9 P E ⟨d, .binOp .geq t x y u,ty,pos,af,g⟩ w (.bool (decide (j≤i))) w:=qo hx aE (binOp_geq t k i j) rfl
theorem beq (hx:ev E x=some (.int k i)) (aE:ev E y=some (.int k j)):c9 P E ⟨d, .binOp .eql t x y u,ty,pos,af,g⟩ w (.bool (i == j)) w:=qo hx aE (binOp_eql t k i j) rfl
theorem bne (hx:ev E x=some (.int k i)) (aE:ev E y=some (.int k j)):c9 P E ⟨d, .binOp .neq t x y u,ty,pos,af,g⟩ w (.bool (i != j)) w:=qo hx aE (binOp_neq t k i j) rfl
end
def eS (P:Program) (t:TypeId) (k:Nat):Prop:=∀ w,(sizeOf t).run P w= .ok k w
def eP (P:Program) (t:TypeId) (b:Bool):Prop:=∀ w,(isAgg t).run P w= .ok b w
def mM (P:Program) (t:TypeId) (v:Value):Prop:=∀ w,(zeroValue t).run P w= .ok v w
def Fd (P:Program) (t:TypeId) (i off:Nat):Prop:=∀ w g o,(Instr.fieldAt t (.pointer (some ⟨g,o,none⟩)) i).run P w= .ok (.pointer (some ⟨g,o+off,none⟩)) w
section
variable {b o k:Nat} {cs:List Value}
theorem aj {i off:Nat} (hf:Fd P t i off) (hx:ev E x=some (.pointer (some ⟨b,o,none⟩))):c9 P E ⟨d, .fieldAddr t x i,ty,pos,af,g⟩ w (.pointer (some ⟨b,o+off,none⟩)) w:=fun n a ha=>by
 simp only [execOp,ha.ev hx,aYt,hf w b o,aYj,aYu]
theorem O8 {e:TypeId} {size len cap:Nat} {aby:IntKind} {i:Int} (j:Nat) (aH:P.underlying t=some (.slice e)) (hs:eS P e size) (hx:ev E x=some (.slice (some ⟨b,o,none⟩) len cap)) (hi:ev E y=some (.int aby i)) (ay:i=(j:Int)) (bF:j<len):
  c9 P E ⟨d, .indexAddr t x y,ty,pos,af,g⟩ w (.pointer (some ⟨b,o+j * size,none⟩)) w:=fun n a ha=>by
 subst ay;simp only [execOp,ha.ev hx,ha.ev hi,Instr.indexAt,asIntOf,aYt,aYu,aYj,aZo aH];rw [aYq ⟨by omega,by omega⟩];simp only [aYt,hs w,aYj,aYu,aY2,Hn]
def mL (P:Program) (w:World) (t:TypeId) (p:Addr) (v:Value):Prop:=(loadVar t p).run P w= .ok v w
theorem mL.one {p:Addr} (aH:eP P t false) (h:w.cell? p=some v):mL P w t p v:=by
 unfold mL loadVar;simp only [aYt,aH w,aYj,aY8,aZI,run_load,h]
theorem mL.agg (aH:eP P t true) (hs:eS P t cs.length) (h:∀ j v,cs[j]? =some v→w.cell? ⟨b,o+j,none⟩=some v):mL P w t ⟨b,o,none⟩ (.agg cs.toArray):=by
 unfold mL loadVar;simp only [aYt,aH w,aYj,bab,hs w,run_loadCells_list w ⟨b,o,none⟩ cs (fun j v ay=>by rw [Hn];exact h j v ay),aYu]
theorem ax {p:Addr} (hx:ev E x=some (.pointer (some p))) (h:mL P w t p v):c9 P E ⟨d, .load t x,ty,pos,af,g⟩ w v w:=fun n a ha=>by
 unfold mL at h;simp only [execOp,ha.ev hx,Instr.loadAt,Instr.sureAddr,aYt,aYu,aYj,h]
theorem aM.one {p:Nat} {cur:List Value} {e:TypeId} {aD:Nat×Nat} (h:aM w b cur e aD) (aH:eP P t false) (hv:cur[p]? =some v):mL P w t ⟨b,p,none⟩ v:=mL.one aH (by rw [h.cell,hv])
theorem aM.agg {p:Nat} {cur:List Value} {e:TypeId} {aD:Nat×Nat} (h:aM w b cur e aD) (aH:eP P t true) (hs:eS P t cs.length) (hv:(cur.drop p).take cs.length=cs):mL P w t ⟨b,p,none⟩ (.agg cs.toArray):=
 mL.agg aH hs fun j v ay=>by
  rw [h.cell,← ay];have ah:=(aX8.1 ay).1
  conv=>rhs;rw [← hv]
  rw [bcL ah,aZk]
theorem avc {op:Op} {d:Nat} {cs:List Value} (xE:op= .box t x) (hx:ev E x=some v) (hc:v.cells=cs.toArray) (hd:Nat.blt d n=true)
  (h:∀ w1 b,Ext w w1→w.heap.size≤b→aM w1 b cs t (0,0)→cg P n ops Q rest ((d, .pointer (some ⟨b,0,none⟩))::E) w1):cg P n ops Q (⟨some d,op,ty,pos,af,none⟩::rest) E w:=by
 subst xE;refine hW (w':=w.alloc (.cells v.cells t)) (v:= .pointer (some ⟨w.heap.size,0,none⟩)) (fun n a ha=> ?_) hd (h _ _ ((aYG _ w).alloc (aYg _) _) (aYg _) (by rw [hc];exact aM.new w cs t (0,0)));simp only [execOp,ha.ev hx,Instr.box,newVar,newRow,aYt,run_newObj_alloc,aYj,aYu]
theorem al {op:Op} {d:Nat} {cs:List Value} (xE:op= .alloc t) (bc:mM P t v) (hc:v.cells=cs.toArray) (hd:Nat.blt d n=true)
  (h:∀ w1 b,Ext w w1→w.heap.size≤b→aM w1 b cs t (0,0)→cg P n ops Q rest ((d, .pointer (some ⟨b,0,none⟩))::E) w1):cg P n ops Q (⟨some d,op,ty,pos,af,none⟩::rest) E w:=by
 subst xE;refine hW (w':=w.alloc (.cells v.cells t)) (v:= .pointer (some ⟨w.heap.size,0,none⟩)) (fun n a ha=> ?_) hd (h _ _ ((aYG _ w).alloc (aYg _) _) (aYg _) (by rw [hc];exact aM.new w cs t (0,0)));simp only [execOp,Instr.alloc,aYt,bc w,newVar,newRow,run_newObj_alloc,aYj,aYu]
end
end
section
variable {P:Program} {n:Nat} {E cW:List (Nat×Value)} {a:Act} {w w' w0 w1:World} {Q:Exit→Act→World→Prop} {ops:Array Oper} {v:Value} {aS:Nat→Nat}
variable {d:Option Nat} {ty:TypeId} {pos:String} {af:Array Edge} {g:Option (Nat×Bool)} {x y z:Operand} {t:TypeId} {rest:List Oper} {bY:List Nat} {i:Nat}
def gI (P:Program) (n:Nat) (ops:Array Oper) (Q:Exit→Act→World→Prop) (aS:Nat→Nat) (bY:List Nat) (E:List (Nat×Value)) (w0:World):Prop:=∀ a,fj n E a→wJ P ops (ij (Q .normal)) aS bY a w0
def oO (l:List (Nat×Nat)) (i:Nat):Nat:=match l with
 | []=>1
 | (j,k)::r=>match Nat.beq j i with | true=>k | false=>oO r i
theorem rd {id:Nat} (mz:List (Nat×Nat)) (bY:List Nat) (hm:P.follows .mixedOrders=true) (bg:(Region.noSelect ops && (bY.length == ops.size) && lh ops (oO mz) bY (Array.replicate ops.size false))=true)
  (h:gI P n ops Q (oO mz) bY E w):W P n (.region id ops true) Q E w:=fun a ha=>aIH bY hm bg (h a ha)
theorem fn (h:∀ w,Ext w0 w→N n Q E w):gI P n ops Q aS [] E w0:=fun a ha w hw=>h w hw a ha
theorem DR {o:Oper} (aN:o.guard=none):Region.wanted o (yielded ops a.tmps)=true:=by simp [Region.wanted,aN]
theorem ZB {d:Nat} {op:Op} (hi:ops[i]? =some ⟨some d,op,ty,pos,af,none⟩) (ak:aS i=0) (hr:∀ w,Ext w0 w→c9 P E ⟨some d,op,ty,pos,af,none⟩ w v w) (hd:Nat.blt d n=true)
  (h:gI P n ops Q aS bY ((d,v)::E) w0):gI P n ops Q aS (i::bY) E w0:=fun a ha =>
 ⟨_,hi, .inl ⟨ak,v, .inl ⟨DR rfl,fun w hw=>by rw [hr w hw n a ha];exact ⟨rfl,rfl⟩⟩,h _ (ha.put hd v)⟩⟩
theorem r9 {d:Nat} {op:Op} (hi:ops[i]? =some ⟨some d,op,ty,pos,af,none⟩) (ak:aS i=1) (hr:∀ w,c9 P E ⟨some d,op,ty,pos,af,none⟩ w v w) (hd:Nat.blt d n=true)
  (h:gI P n ops Q aS bY ((d,v)::E) w0):gI P n ops Q aS (i::bY) E w0:=fun a ha =>
 ⟨_,hi, .inr (.inl ⟨ak,v, .inl ⟨DR rfl,fun w=>hr w n a ha⟩,h _ (ha.put hd v)⟩)⟩
theorem qW {d:Nat} {f:FuncId} {xs:Array Operand} {ts:Array TypeId} {args:List Value} (hi:ops[i]? =some ⟨some d, .call {callee:= .value (.func f),args:=xs,argTypes:=ts},ty,pos,af,none⟩) (ak:aS i=0) (hf:Enters P f) (he:hL E xs.toList=some args)
  (hr:∀ w,Ext w0 w→Calls P f args.toArray w fun e w'=>e= .returned v∧Ext w w') (hd:Nat.blt d n=true)
  (h:gI P n ops Q aS bY ((d,v)::E) w0):gI P n ops Q aS (i::bY) E w0:=fun a ha =>
 ⟨_,hi, .inl ⟨ak,v, .inl ⟨DR rfl,fun w hw=>by rw [P4 hf ha he];exact ⟨rfl,hr w hw⟩⟩,h _ (ha.put hd v)⟩⟩
theorem Gw {o:Oper} {j:Nat} {q b:Bool} {dF:Oper} {jV:Nat} (aN:o.guard=some (j,q)) (ay:ops[j]? =some dF) (oJ:dF.dst=some jV) (ag:look E jV=some (.bool b)) (ha:fj n E a):Region.wanted o (yielded ops a.tmps)=(b == q):=by
 have:=ha.g _ _ ag;cases b<;>cases q<;>simp [Region.wanted,aN,yielded,ay,oJ,this]
theorem azA {d:Nat} {op:Op} {j:Nat} {q b c:Bool} {dF:Oper} {jV:Nat} (hi:ops[i]? =some ⟨some d,op,ty,pos,af,some (j,q)⟩) (ak:aS i=0) (ay:ops[j]? =some dF) (oJ:dF.dst=some jV) (ag:look E jV=some (.bool b)) (hc:(b == q)=c)
  (hr:c=true→∀ w,Ext w0 w→c9 P E ⟨some d,op,ty,pos,af,some (j,q)⟩ w v w) (hd:Nat.blt d n=true)
  (h:gI P n ops Q aS bY ((d,gQ c v)::E) w0):gI P n ops Q aS (i::bY) E w0:=fun a ha=>by
 have hw:=Gw (o:=⟨some d,op,ty,pos,af,some (j,q)⟩) rfl ay oJ ag ha;rw [hc] at hw;refine ⟨_,hi, .inl ⟨ak,gQ c v, ?_,h _ (ha.put hd _)⟩⟩;cases c with
 | true=>exact .inl ⟨hw,fun w hx=>by rw [hr rfl w hx n a ha];exact ⟨rfl,rfl⟩⟩
 | false=>exact .inr ⟨hw,rfl⟩
theorem azB {d:Nat} {op:Op} {j:Nat} {q b c:Bool} {dF:Oper} {jV:Nat} (hi:ops[i]? =some ⟨some d,op,ty,pos,af,some (j,q)⟩) (ak:aS i=1) (ay:ops[j]? =some dF) (oJ:dF.dst=some jV) (ag:look E jV=some (.bool b)) (hc:(b == q)=c)
  (hr:c=true→∀ w,c9 P E ⟨some d,op,ty,pos,af,some (j,q)⟩ w v w) (hd:Nat.blt d n=true)
  (h:gI P n ops Q aS bY ((d,gQ c v)::E) w0):gI P n ops Q aS (i::bY) E w0:=fun a ha=>by
 have hw:=Gw (o:=⟨some d,op,ty,pos,af,some (j,q)⟩) rfl ay oJ ag ha;rw [hc] at hw;refine ⟨_,hi, .inr (.inl ⟨ak,gQ c v, ?_,h _ (ha.put hd _)⟩)⟩;cases c with
 | true=>exact .inl ⟨hw,fun w=>hr rfl w n a ha⟩
 | false=>exact .inr ⟨hw,rfl⟩
theorem ef {d:Nat} {f:FuncId} {xs:Array Operand} {ts:Array TypeId} {args:List Value} {j:Nat} {q b c:Bool} {dF:Oper} {jV:Nat} (hi:ops[i]? =some ⟨some d, .call {callee:= .value (.func f),args:=xs,argTypes:=ts},ty,pos,af,some (j,q)⟩) (ak:aS i=0) (ay:ops[j]? =some dF) (oJ:dF.dst=some jV) (ag:look E jV=some (.bool b)) (hc:(b == q)=c)
  (hf:Enters P f) (he:c=true→hL E xs.toList=some args)
  (hr:c=true→∀ w,Ext w0 w→Calls P f args.toArray w fun e w'=>e= .returned v∧Ext w w') (hd:Nat.blt d n=true)
  (h:gI P n ops Q aS bY ((d,gQ c v)::E) w0):gI P n ops Q aS (i::bY) E w0:=fun a ha=>by
 have hw:=Gw (o:=⟨some d, .call {callee:= .value (.func f),args:=xs,argTypes:=ts},ty,pos,af,some (j,q)⟩) rfl ay oJ ag ha;rw [hc] at hw;refine ⟨_,hi, .inl ⟨ak,gQ c v, ?_,h _ (ha.put hd _)⟩⟩;cases c with
 | true=>exact .inl ⟨hw,fun w hx=>by rw [P4 hf ha (he rfl)];exact ⟨rfl,hr rfl w hx⟩⟩
 | false=>exact .inr ⟨hw,rfl⟩
def Hk (P:Program) (n:Nat) (ops:Array Oper) (o:Oper) (E:List (Nat×Value)) (w:World) (K:List (Nat×Value)→World→Prop):Prop :=
 ∀ (Q:Exit→Act→World→Prop),(∀ cW w',K cW w'→cg P n ops Q [] cW w')→cg P n ops Q [o] E w
theorem aLZ {XL atB:Exit→Act→World→Prop} {o:Oper} {K:Act→World→Prop} (hp:∀ c a w,¬ XL (.panic c) a w) (bK:¬ LetsOut XL) (h:o.wp P a w K XL):o.wp P a w K atB:=by
 unfold Oper.wp at *
 generalize (execOp a.eval o).run P w=r at *
 cases r with
 | ok m w' =>
  cases m<;>simp only [Oper.upon] at h ⊢ <;>
   first
    | exact h
    | exact bcl h (fun e lx he=>by cases e<;>first | exact he | exact (hp _ _ _ he).elim | exact (bK he).elim)
 | halt x w'=>cases x<;>simp only [Oper.upon] at h ⊢<;>first | exact h | exact (hp _ _ _ h).elim
theorem LL {o:Oper} (aN:o.guard=none) (hi:ops[i]? =some o) {K:Act→World→Prop} {E:List (Nat×Value)} {w:World} {afH:List (Nat×Value)→World→Prop} (h:Hk P n ops o E w afH) (hK:∀ cW w' a',afH cW w'→fj n cW a'→K a' w') (ha:fj n E a):
  wpOp P ops (ij (Q .normal)) i K a w:=by
 have:=h (ij K) (fun cW w' ak a' tr=>hK cW w' a' ak tr) a ha;unfold wpList at this;unfold wpOp;simp only [hi];rw [aYq (DR aN)] at this ⊢;rcases this with h | ⟨h,a,w,τ⟩
 ·exact .inl (aLZ (fun _ _ _ h=>h) (fun ⟨_,_,h⟩=>h) h)
 ·exact τ.elim
theorem ff {o:Oper} (aN:o.guard=none) (hi:ops[i]? =some o) (ak:aS i=2) (h:∀ w,Ext w0 w→Hk P n ops o E w fun cW w'=>Ext w0 w'∧gI P n ops Q aS bY cW w'):gI P n ops Q aS (i::bY) E w0:=fun a ha =>
 ⟨_,hi, .inr (.inr ⟨by omega,fun w hw=>LL aN hi (h w hw) (fun cW w' a' ak tr=>⟨fun _=>ak.1,ak.2 a' tr⟩) ha⟩)⟩
theorem dE {o:Oper} (aN:o.guard=none) (hi:ops[i]? =some o) (ak:aS i=3) (h:∀ w,Ext w0 w→Hk P n ops o E w fun cW w'=>gI P n ops Q aS bY cW w'):gI P n ops Q aS (i::bY) E w0:=fun a ha =>
 ⟨_,hi, .inr (.inr ⟨by omega,fun w hw=>LL aN hi (h w hw) (fun cW w' a' ak tr=>⟨fun τ=>by omega,ak a' tr⟩) ha⟩)⟩
end
structure Mod (S:List Nat) (w w':World):Prop where
 os:w'.os=w.os
 tape:w'.tape=w.tape
 output:w'.output=w.output
 size:w.heap.size≤w'.heap.size
 block:∀ k,k<w.heap.size→k∉S→w'.heap[k]? =w.heap[k]?
section
variable {S p4:List Nat} {w w' w0 w1 cx:World} {B:Nat}
theorem Mod.a8 (h:Ext w w'):Mod S w w':=⟨h.os,h.tape,h.output,h.size,fun k ak _=>h.block k ak⟩
theorem Mod.below {aA:Nat} (h:Mod S w w') (hS:∀ x∈S,aA≤x) (xx:aA≤w.heap.size):Below aA w w' :=
 ⟨h.os,h.tape,h.output,h.size,fun k ak=>h.block k (by omega) fun hm=>by have:=hS k hm;omega⟩
theorem Ext.mod (h:Ext w0 w) (hm:Mod S w w') (hS:∀ x∈S,w0.heap.size≤x):Ext w0 w':=Below.trans h (hm.below hS h.size)
theorem Mod.cH (S:List Nat) (w:World):Mod S w w:=⟨rfl,rfl,rfl,aYg _,fun _ _ _=>rfl⟩
theorem Mod.md (h:Mod S w w1) (dh:Mod p4 w1 cx) (hs:∀ q∈p4,q∈S∨w.heap.size≤q):Mod S w cx :=
 ⟨dh.os.trans h.os,dh.tape.trans h.tape,dh.output.trans h.output,aYF h.size dh.size,fun k ak hn=>(dh.block k (aZG ak h.size) fun hm=>(hs k hm).elim hn (fun h=>by omega)).trans (h.block k ak hn)⟩
theorem Mod.trans (h:Mod S w w1) (dh:Mod S w1 cx):Mod S w cx :=
 ⟨dh.os.trans h.os,dh.tape.trans h.tape,dh.output.trans h.output,aYF h.size dh.size,fun k ak hn=>(dh.block k (aZG ak h.size) hn).trans (h.block k ak hn)⟩
theorem Mod.grown {row:Option Nat} (h:w.grownBy w' row):Mod row.toList w w' :=
 ⟨h.os,h.tape,h.output,h.size,fun k ak hn=>h.block k ak fun e=>hn (by rw [← e];simp)⟩
theorem Mod.setRow (w:World) (b:Nat) (cs:Array Value):Mod [b] w (w.setRow b cs):=by
 refine ⟨Z,Z,Z,by simp [World.setRow],fun k ak hn=> ?_⟩;simp only [World.setRow,bbE];rw [aYi (by simp at hn;omega)]
theorem Mod.setCell (w:World) (p:Addr) (u:Value):Mod [p.block] w (w.setCell p u):=by
 refine ⟨Z,Z,Z,by simp [World.setCell],fun k ak hn=> ?_⟩;exact Below.heap_setCell _ _ _ _ (by simpa using hn)
theorem aM.mod {g:Nat} {cur:List Value} {e:TypeId} {aD:Nat×Nat} (h:aM w g cur e aD) (hm:Mod S w w') (aN:g∉S):aM w' g cur e aD:=by
 unfold aM at *
 rw [hm.block g (aYN.1 h).1 aN];exact h
theorem J.aF.mod {α:Type} {R:J α} {E by_:Nat} {f:List Nat} {A:Option Addr} {c:Nat} {l:List α} (h:R.aF E by_ w B f A c l) (hm:Mod S w w') (hd:∀ x∈f,x∉S):R.aF E by_ w' B f A c l :=
 h.keep fun g aN=>hm.block g (h.lt g aN).2 (hd g aN)
end
section
variable {P:Program} {n:Nat} {E cW:List (Nat×Value)} {a:Act} {w w' w0 w1:World} {Q:Exit→Act→World→Prop} {ops:Array Oper} {v:Value}
variable {d:Option Nat} {ty:TypeId} {pos:String} {af:Array Edge} {g:Option (Nat×Bool)} {x y z:Operand} {t:TypeId} {rest:List Oper}
theorem ade {b p:Nat} {cur cs:List Value} {e:TypeId} (bg:aM w b cur e (0,0)) (hc:v.cells=cs.toArray) (hs:eS P t cs.length) (κ:cs.all (·.oneCell')=true) (ah:p+cs.length≤cur.length):
  (storeVar t ⟨b,p,none⟩ v).run P w= .ok () (w.setRow b (cur.take p++cs++cur.drop (p+cs.length)).toArray):=by
 unfold storeVar;simp only [hc,aYt,hs w,aYj,aZT,ne_eq,bdl,aZI];have:=run_storeCells_at P b p e cs 0 cur.toArray w bg (by simpa using ah) (fun v hv=>aYW.1 κ v hv);simpa using this
theorem st {b p:Nat} {cur cs new:List Value} {e:TypeId} (hx:ev E x=some (.pointer (some ⟨b,p,none⟩))) (aE:ev E y=some v) (bg:aM w b cur e (0,0)) (hc:v.cells=cs.toArray) (hs:eS P t cs.length) (κ:cs.all (·.oneCell')=true) (ah:Nat.ble (p+cs.length) cur.length=true)
  (hn:cur.take p++cs++cur.drop (p+cs.length)=new)
  (h:∀ w1,Mod [b] w w1→aM w1 b new e (0,0)→cg P n ops Q rest E w1):cg P n ops Q (⟨none, .store t x y,ty,pos,af,none⟩::rest) E w:=by
 refine us (w':=w.setRow b new.toArray) (fun n a ha=> ?_) (h _ (Mod.setRow w b _) (by rw [← hn];exact bg.setRow _));have:=ade (P:=P) bg hc hs κ (aZ4 ah);rw [hn] at this;simp only [execOp,ha.ev hx,ha.ev aE,Instr.storeAt,Instr.sureAddr,aYt,aYu,aYj,this]
theorem bi {agy:Builtin} {xs:Array Operand} {ts:Array TypeId} {vs:List Value} (he:hL E xs.toList=some vs) (h:∀ cs,(builtin agy ts ty cs vs.toArray).run P w= .ok (.value v) w'):
  c9 P E ⟨d, .call {callee:= .builtin agy,args:=xs,argTypes:=ts},ty,pos,af,g⟩ w v w':=fun n a ha=>by
 have hm:xs.map a.eval=vs.toArray:=by rw [← ha.hL he];apply aZK;simp
 simp only [execOp,resolve,invoke,hm,aYt,aYu,aYj,h]
theorem b5 {A:Option Addr} {len cap e:Nat} (aH:P.underlying t=some (.slice e)) (hx:ev E x=some (.slice A len cap)):c9 P E ⟨d, .call {callee:= .builtin .len,args:=#[x],argTypes:=#[t]},ty,pos,af,g⟩ w (.int .i64 (len:Int)) w :=
 bi (vs:= [.slice A len cap]) (by simp only [hL,hx]) fun cs=>by
  have κ:P.underlying t=some (.slice (P.elem t)):=by simp [Program.elem,aH]
  have:=run_len_slice (P:=P) w t ty A len cap κ;simp only [builtin,aYt,this,aYj,aYu];rfl
theorem b6 {f:FuncId} {fn:Func} (h:P.funcs[f]? =some fn) (κ:(fn.name == "runtime.NumGoroutine")=false:=by kernel_rfl) (τ:fn.body.isNone=false:=by kernel_rfl):Enters P f:=⟨fn,h,κ,τ⟩
theorem Wa {o:Oper} {c:Bool} (hw:∀ a,fj n E a→Region.wanted o (yielded ops a.tmps)=c) (κ:c=true→∀ a,fj n E a→o.wp P a w (wpList P ops Q rest) Q) (τ:c=false→∀ a,fj n E a→wpList P ops Q rest (a.put o.dst undef) w):cg P n ops Q (o::rest) E w:=fun a ha=>by
 unfold wpList;rw [hw a ha];cases c with
 | true=>rw [aYq rfl];exact .inl (κ Z a ha)
 | false=>rw [aYi (by decide)];exact τ Z a ha
theorem aK3 {d:Nat} {op:Op} {j:Nat} {q b c:Bool} {dF:Oper} {jV:Nat} (ay:ops[j]? =some dF) (oJ:dF.dst=some jV) (ag:look E jV=some (.bool b)) (hc:(b == q)=c)
  (hr:c=true→c9 P E ⟨some d,op,ty,pos,af,some (j,q)⟩ w v w) (hd:Nat.blt d n=true) (h:cg P n ops Q rest ((d,gQ c v)::E) w):cg P n ops Q (⟨some d,op,ty,pos,af,some (j,q)⟩::rest) E w :=
 Wa (c:=c) (fun a ha=>by rw [Gw (o:=⟨some d,op,ty,pos,af,some (j,q)⟩) rfl ay oJ ag ha,hc])
  (fun hc a ha=>by unfold Oper.wp;rw [hr hc n a ha];subst hc;exact h _ (ha.put hd v)) (fun hc a ha=>by subst hc;exact h _ (ha.put hd undef))
theorem aK2 {d:Nat} {f:FuncId} {xs:Array Operand} {ts:Array TypeId} {args:List Value} {j:Nat} {q b c:Bool} {dF:Oper} {jV:Nat} (ay:ops[j]? =some dF) (oJ:dF.dst=some jV) (ag:look E jV=some (.bool b)) (hc:(b == q)=c)
  (hf:Enters P f) (he:c=true→hL E xs.toList=some args) (hr:c=true→Calls P f args.toArray w fun e w'=>e= .returned v∧Ext w w') (hd:Nat.blt d n=true)
  (h:∀ w',Ext w w'→cg P n ops Q rest ((d,gQ c v)::E) w'):cg P n ops Q (⟨some d, .call {callee:= .value (.func f),args:=xs,argTypes:=ts},ty,pos,af,some (j,q)⟩::rest) E w :=
 Wa (c:=c) (fun a ha=>by rw [Gw (o:=⟨some d,_,ty,pos,af,some (j,q)⟩) rfl ay oJ ag ha,hc])
  (fun hc a ha=>by unfold Oper.wp;rw [P4 hf ha (he hc)];exact (hr hc).mono fun e w' ⟨κ,hx⟩=>by subst κ;subst hc;exact h w' hx _ (ha.put hd v)) (fun hc a ha=>by subst hc;exact h w (Ext.cH w) _ (ha.put hd undef))
theorem cm {d:Option Nat} {op:Op} {j:Nat} {q:Bool} {dF:Oper} {jV:Nat} (ay:ops[j]? =some dF) (oJ:dF.dst=some jV) (ag:look E jV=some (.bool q)) (h:cg P n ops Q (⟨d,op,ty,pos,af,none⟩::rest) E w):cg P n ops Q (⟨d,op,ty,pos,af,some (j,q)⟩::rest) E w:=fun a ha=>by
 have h:=h a ha;have hw:=Gw (o:=⟨d,op,ty,pos,af,some (j,q)⟩) (q:=q) rfl ay oJ ag ha;unfold wpList at h ⊢;rw [aYq (DR rfl)] at h;rw [hw,aYq (by cases q<;>rfl)];exact h
theorem ep {x:Operand} {b c:Bool} (h:ev E x=some (.bool b)) (e:b=c):ev E x=some (.bool c):=by rw [h,e]
theorem Ln {aiE:Fn} {fs cs:Array Operand} {l m:List Value} (κ:hL E fs.toList=some l) (τ:hL E cs.toList=some m):c9 P E ⟨d, .makeFunc aiE fs cs,ty,pos,af,g⟩ w (.func aiE l.toArray m.toArray) w:=fun n a ha=>by
 have aW:fs.map a.eval=l.toArray:=by rw [← ha.hL κ];apply aZK;simp
 have bb:cs.map a.eval=m.toArray:=by rw [← ha.hL τ];apply aZK;simp
 simp only [execOp,aW,bb,Instr.makeFunc,aYt,aYu,aYj]
def xr (E:List (Nat×Value)):List (Nat×Operand)→Option (List (Nat×Value))
 | []=>some []
 | (i,x)::r=>match ev E x with
  | some v=>match xr E r with
   | some l=>some ((i,v)::l)
   | none=>none
  | none=>none
theorem fj.xr (h:fj n E a):∀ {l:List (Nat×Operand)} {vs:List (Nat×Value)},xr E l=some vs→l.map (fun (i,x)=>(i,a.eval x))=vs
 | [],vs,e=>by simp only [Proofs.YtmeeljmapailnaaGreat.xr] at e;exact aYd e
 | (i,x)::r,vs,e=>by
  simp only [Proofs.YtmeeljmapailnaaGreat.xr] at e;cases hx:Proofs.YtmeeljmapailnaaGreat.ev E x with
  | none=>rw [hx] at e;cases e
  | some v =>
   rw [hx] at e;simp only at e;cases hr:Proofs.YtmeeljmapailnaaGreat.xr E r with
   | none=>rw [hr] at e;cases e
   | some l =>
    rw [hr] at e;simp only at e;obtain rfl:=aYd e;rw [aY3,fj.xr h hr];simp only [h.ev hx]
theorem lH {ps:Array (Nat×Operand)} {l:List (Nat×Value)} (he:xr E ps.toList=some l) (hr:(Instr.build t l.toArray).run P w= .ok v w):c9 P E ⟨d, .build t ps,ty,pos,af,g⟩ w v w:=fun n a ha=>by
 have aW:ps.map (fun (i,x)=>(i,a.eval x))=l.toArray:=by rw [← ha.xr he];apply aZK;simp
 simp only [execOp,aW,aYt,hr,aYj,aYu]
theorem c7 {ps:Array (Nat×Operand)} {l:List (Nat×Value)} {d k e:Nat} {cs:List Value} (he:xr E ps.toList=some l) (hr:∀ w,(Instr.buildSlice t k l.toArray).run P w= .ok (.slice (some ⟨w.heap.size,0,none⟩) k k) (w.alloc (.cells cs.toArray e))) (hd:Nat.blt d n=true)
  (h:∀ w1 b,Ext w w1→w.heap.size≤b→aM w1 b cs e (0,0)→cg P n ops Q rest ((d, .slice (some ⟨b,0,none⟩) k k)::E) w1):cg P n ops Q (⟨some d, .buildSlice t k ps,ty,pos,af,none⟩::rest) E w:=by
 refine hW (w':=w.alloc (.cells cs.toArray e)) (v:= .slice (some ⟨w.heap.size,0,none⟩) k k) (fun n a ha=> ?_) hd (h _ _ ((aYG _ w).alloc (aYg _) _) (aYg _) (aM.new w cs e (0,0)));have aW:ps.map (fun (i,x)=>(i,a.eval x))=l.toArray:=by rw [← ha.xr he];apply aZK;simp
 simp only [execOp,aW,aYt,hr,aYj,aYu]
def fN (A:Option Addr):Nat:=match A with | some a=>a.block | none=>0
def mA (A:Option Addr):Nat:=match A with | some a=>a.off | none=>0
theorem J.aK.bT {α:Type} {R:J α} {by_ c:Nat} {A:Option Addr} {l:List α} (h:R.aK by_ w A c l) (aG:0<l.length):A=some ⟨fN A,mA A,none⟩:=by
 obtain ⟨b,o,rfl,_⟩:=h.at_ aG;rfl
theorem J.aK.cD {α:Type} {R:J α} {by_ c:Nat} {A:Option Addr} {l:List α} (h:R.aK by_ w A c l) (aG:0<l.length):R.aK by_ w (some ⟨fN A,mA A,none⟩) c l:=by
 rw [← h.bT aG];exact h
theorem cl {e:TypeId} {size len cap b o:Nat} {aby:IntKind} {i:Int} {A:Option Addr} (j:Nat) (aH:P.underlying t=some (.slice e)) (hs:eS P e size) (hx:ev E x=some (.slice A len cap)) (hi:ev E y=some (.int aby i)) (hA:A=some ⟨b,o,none⟩) (ay:i=(j:Int)) (bF:j<len):
  c9 P E ⟨d, .indexAddr t x y,ty,pos,af,g⟩ w (.pointer (some ⟨b,o+j * size,none⟩)) w:=by subst hA;exact O8 j aH hs hx hi ay bF
theorem dt {α:Type} {l:List α} {j:Nat} {u:α} (h:j<l.length):l[j]? =some (l.getD j u):=by rw [aX7,aYb h];rfl
section
variable {α:Type} {R:J α} {by_ c b o j:Nat} {l:List α} {cells:α→List Value} {q u:α}
theorem J.aK.lg (hc:∀ {w cs a},R.has w cs a→cs=cells a) (h:R.aK by_ w (some ⟨b,o,none⟩) c l) (k:Nat) (ay:l[j]? =some q) (hu:(cells q)[k]? =some v) (aH:eP P t false):mL P w t ⟨b,o+j * R.size+k,none⟩ v:=by
 obtain ⟨qM,Lq,e,dM⟩:=h.at_ (by have:=(aX8.1 ay).1;omega);injection e with e;injection e with aW bb;subst aW;subst bb
 obtain ⟨es,κ,τ⟩:=dM j q ay;rw [hc κ] at τ;exact mL.one aH (by rw [ba0];exact τ k v hu)
theorem J.aK.fh (hc:∀ {w cs a},R.has w cs a→cs=cells a) (h:R.aK by_ w (some ⟨b,o,none⟩) c l) (ay:l[j]? =some q) (hu:(cells q)[0]? =some v) (aH:eP P t false):mL P w t ⟨b,o+j * R.size,none⟩ v:=h.lg hc 0 ay hu aH
theorem J.aK.iu (hc:∀ {w cs a},R.has w cs a→cs=cells a) (h:R.aK by_ w (some ⟨b,o,none⟩) c l) (ay:l[j]? =some q) (aH:eP P t true) (hs:eS P t (cells q).length):mL P w t ⟨b,o+j * R.size,none⟩ (.agg (cells q).toArray):=by
 obtain ⟨qM,Lq,e,dM⟩:=h.at_ (by have:=(aX8.1 ay).1;omega);injection e with e;injection e with aW bb;subst aW;subst bb
 obtain ⟨es,κ,τ⟩:=dM j q ay;rw [hc κ] at τ;exact mL.agg aH hs fun k v ak=>by rw [ba0];exact τ k v ak
theorem J.aK.part (hc:∀ {w cs a},R.has w cs a→cs=cells a) (h:R.aK by_ w (some ⟨b,o,none⟩) c l) (k:Nat) {ds:List Value} (ay:l[j]? =some q) (hd:((cells q).drop k).take ds.length=ds) (aH:eP P t true) (hs:eS P t ds.length):mL P w t ⟨b,o+j * R.size+k,none⟩ (.agg ds.toArray):=by
 obtain ⟨qM,Lq,e,dM⟩:=h.at_ (by have:=(aX8.1 ay).1;omega);injection e with e;injection e with aW bb;subst aW;subst bb
 obtain ⟨es,κ,τ⟩:=dM j q ay;rw [hc κ] at τ;refine mL.agg aH hs fun i v hi=> ?_;rw [ba0,ba0];refine τ _ v ?_;rw [← hd] at hi;have ah:=(aX8.1 hi).1;rw [aYa] at ah
 rwa [bcL (by omega),aZk] at hi
end
theorem aM.all {b:Nat} {cur:List Value} {e:TypeId} {aD:Nat×Nat} (h:aM w b cur e aD) (aH:eP P t true) (hs:eS P t cur.length):mL P w t ⟨b,0,none⟩ (.agg cur.toArray):=
 mL.agg aH hs fun j v ay=>by rw [h.cell,aY4,ay]
theorem aM.par {b p:Nat} {cur:List Value} {e:TypeId} {aD:Nat×Nat} (h:aM w b cur e aD) (cs:List Value) (aH:eP P t true) (hs:eS P t cs.length) (hv:(cur.drop p).take cs.length=cs):mL P w t ⟨b,p,none⟩ (.agg cs.toArray):=h.agg aH hs hv
end
open Tryz

section
variable {P:Program} {n:Nat} {E cW:List (Nat×Value)} {a:Act} {w w' w0 w1:World} {Q:Exit→Act→World→Prop} {ops:Array Oper} {v:Value}
theorem pk {x:Int} (h: -9223372036854775808≤x∧x≤9223372036854775807):IntKind.i64.wrap x=x:=IntWalk.i64_in x h
section
variable {d:Option Nat} {ty:TypeId} {pos:String} {af:Array Edge} {g:Option (Nat×Bool)} {x y:Operand} {t u:TypeId} {k:IntKind} {i j r:Int}
theorem qN (hx:ev E x=some (.int k i)) (aE:ev E y=some (.int k j)) (h:k.wrap (i+j)=i+j) (he:i+j=r):c9 P E ⟨d, .binOp .add t x y u,ty,pos,af,g⟩ w (.int k r) w:=by subst he;exact bad hx aE h
end
theorem sr {p:Nat→Prop} {k:Nat} (h:∀ j,j<k→p j) (ak:p k):∀ j,j<k+1→p j:=fun j ay=>(bbh.1 ay).elim (h j) fun e=>e ▸ ak
theorem fY {w:World} {cs:List Value} {a:Int} (h:bu.has w cs a):cs= [.int .i64 a]:=bas (show cs= [.int .i64 a]∧ea a from h)
theorem ajU {w:World} {cs:List Value} {a:Bool} (h:Bx.has w cs a):cs= [.bool a]:=bas (show cs= [.bool a]∧True from h)
theorem gp {x:Operand} {r:List Operand} {l:List Value} (h:ev E x=some v) (hr:hL E r=some l):hL E (x::r)=some (v::l):=by simp only [hL,h,hr]
theorem FM {t:Nat} {k:IntKind} {i j:Int} (h:look E t=some (.int k i)) (e:i=j):look E t=some (.int k j):=by rw [h,e]
section
variable {c:Operand} {x y:Code} {i j:Int}
theorem en (hc:ev E c=some (.bool (decide (i<j)))) (κ:i<j→W P n x Q E w) (τ:¬ i<j→W P n y Q E w):W P n (.cond c x y) Q E w:=du hc (fun h=>κ (aY6 h)) (fun h=>τ (bak h))
theorem J9 (hc:ev E c=some (.bool (decide (i≤j)))) (κ:i≤j→W P n x Q E w) (τ:¬ i≤j→W P n y Q E w):W P n (.cond c x y) Q E w:=du hc (fun h=>κ (aY6 h)) (fun h=>τ (bak h))
theorem iE (hc:ev E c=some (.bool (i == j))) (κ:i=j→W P n x Q E w) (τ:¬ i=j→W P n y Q E w):W P n (.cond c x y) Q E w:=du hc (fun h=>κ (by simpa using h)) (fun h=>τ (by simpa using h))
theorem eU (hc:ev E c=some (.bool (i != j))) (κ:¬ i=j→W P n x Q E w) (τ:i=j→W P n y Q E w):W P n (.cond c x y) Q E w:=du hc (fun h=>κ (by simpa using h)) (fun h=>τ (by simpa using h))
end
end
def ez (P:Program) {α:Type} (R:J α) (t e:TypeId) (by_:Nat):Prop :=
 ∃ (i:TypeInfo) (z:Value),P.underlying t=some (.slice e)∧P.info? e=some i∧i.zero=some z∧i.size=R.size∧i.bytes=by_∧z.cells.size=R.size∧0<R.size∧∀ (j:Nat) u,z.cells[j]? =some u→R.raw j u
section
variable {P:Program} {n:Nat} {E cW:List (Nat×Value)} {a:Act} {w w' w0 w1:World} {Q:Exit→Act→World→Prop} {ops:Array Oper} {v:Value}
variable {d:Option Nat} {ty:TypeId} {pos:String} {af:Array Edge} {g:Option (Nat×Bool)} {x y z:Operand} {t:TypeId} {rest:List Oper}
theorem ez.ki {α:Type} {R:J α} {t e by_ k:Nat} {z:Value} (aH:P.underlying t=some (.slice e)) (hi:(P.info? e).map (fun i=>(i.zero,i.size,i.bytes))=some (some z,k,by_)) (ak:R.size=k) (κ:z.cells.size=k) (τ:0<k) (au:∀ (j:Nat) u,z.cells[j]? =some u→R.raw j u):ez P R t e by_:=by
 cases I:P.info? e with
 | none=>rw [I] at hi;cases hi
 | some i =>
  rw [I] at hi;simp only [aZL,baV,bbR] at hi;exact ⟨i,z,aH,I,hi.1,by rw [hi.2.1,ak],hi.2.2,by rw [κ,ak],by rw [ak];exact τ,au⟩
theorem Bw:∀ (j:Nat) u,(Value.int .i64 0).cells[j]? =some u→bu.raw j u:=by
 intro j u hu;have hu:(#[(.int .i64 0:Value)]:Array Value)[j]? =some u:=hu
 match j,hu with
 | 0,hu=>exact ⟨0,(aYd hu).symm⟩
 | j+1,hu=>simp at hu
theorem aoq:∀ (j:Nat) u,(Value.bool false).cells[j]? =some u→Bx.raw j u:=by
 intro j u hu;have hu:(#[(.bool false:Value)]:Array Value)[j]? =some u:=hu
 match j,hu with
 | 0,hu=>exact ⟨false,(aYd hu).symm⟩
 | j+1,hu=>simp at hu
def XM (P:Program) (n:Nat) (c:Code) (Q:Exit→Act→World→Prop) (k:Nat) (E:List (Nat×Value)) (w:World):Prop:=∀ a,fj n E a→Code.rounds P c Q k a w
theorem uW {c:Code} (k:Nat) (h:XM P n c Q k E w):W P n (.loop c) Q E w:=fun a ha=>wp_loop_rounds k (h a ha)
theorem kg {c:Code} {k:Nat} (h:W P n c (Exit.then (Code.rounds P c Q k) Q) E w):XM P n c Q (k+1) E w:=fun a ha=>h a ha
theorem rv {c:Code} {k:Nat} (h:XM P n c Q k E w):N n (Exit.then (Code.rounds P c Q k) Q) E w:=h
theorem aM.gu {α:Type} {R:J α} {by_ b:Nat} {cs:List Value} {e:TypeId} {aD:Nat×Nat} {q:α} (ag:aM w b cs e aD) (h:R.has w cs q) (q6:by_≤140737488355328):R.aK by_ w (some ⟨b,0,none⟩) 1 [q]:=by
 refine ⟨aYg _,by decide,by simpa using q6,(fun h=>by cases h), [cs],⟨h,trivial⟩, ?_⟩;have ah:=R.len h;refine ⟨by simp [ah],fun _=>⟨b,0,rfl,fun j u hu=> ?_⟩⟩;rw [aY4,ag.cell];simpa using hu
theorem aM.Ow {α:Type} {R:J α} {by_ b:Nat} {cs:List Value} {e:TypeId} {aD:Nat×Nat} {k:List α} (ag:aM w b cs e aD) (ess:List (List Value)) (tx:ess.flatten=cs) (h:dC (fun es a=>R.has w es a) ess k) (th:k.length≤9223372036854775807) (q6:k.length * by_≤140737488355328):R.aK by_ w (some ⟨b,0,none⟩) k.length k:=by
 refine ⟨aYg _,th,q6,(fun h=>by cases h),ess,h, ?_⟩;have ah:∀ x∈ess,x.length=R.size:=fun x hx=>by obtain ⟨a,ha⟩:=h.left x hx;exact R.len ha
 refine ⟨by rw [CK ah,h.length],fun _=>⟨b,0,rfl,fun j u hu=> ?_⟩⟩;rw [aY4,ag.cell,← tx];exact hu
theorem aM.xW {α:Type} {R:J α} {by_ b B:Nat} {cs:List Value} {e:TypeId} {k:List α} (ag:aM w b cs e (0,0)) (ess:List (List Value)) (tx:ess.flatten=cs) (h:dC (fun es a=>R.has w es a) ess k) (th:k.length≤9223372036854775807) (q6:k.length * by_≤140737488355328) (aG:0<R.size) (bg:B≤b) (hR:R.Plain:=by exact J.qa):
  R.aF e by_ w B (J.ab (some ⟨b,0,none⟩)) (some ⟨b,0,none⟩) k.length k:=by
 have ah:∀ x∈ess,x.length=R.size:=fun x hx=>by obtain ⟨a,ha⟩:=h.left x hx;exact R.len ha
 have hlen:cs.length=k.length * R.size:=by rw [← tx,CK ah,h.length]
 refine J.aF.Br hR h q6 ⟨by rw [tx,hlen], .inr ⟨b,k.length,cs.toArray,rfl,bg,ag,aYg _,th,by simpa using hlen, ?_,fun j u hu=> ?_⟩⟩
 ·rw [tx];exact aYp (by simp [hlen])
 ·exact E7 h aG (by rw [tx];simpa using hu)
theorem ap {α:Type} {R:J α} {e by_ base:Nat} {A dp:Option Addr} {c c2 d:Nat} {l k:List α} (ll:ez P R t e by_) (hR:R.rV) (h:R.aF e by_ w base (J.ab A) A c l) (τ:R.aK by_ w dp c2 k)
  (hs:ev E x=some (.slice A l.length c)) (hx:ev E y=some (.slice dp k.length c2)) (hlen:l.length+k.length≤9223372036854775807) (l4:(l.length+k.length) * by_≤140737488355328) (oa:base≤w.heap.size) (hd:Nat.blt d n=true)
  (ak:∀ w1 bQ cc,Mod (J.ab A) w w1→R.aF e by_ w1 base (J.ab bQ) bQ cc (l++k)→(∀ q∈J.ab bQ,q∈J.ab A∨w.heap.size≤q)→(bQ=none↔A=none∧k= [])→cg P n ops Q rest ((d, .slice bQ (l++k).length cc)::E) w1):
  cg P n ops Q (⟨some d, .call {callee:= .builtin .append,args:=#[x,y],argTypes:=#[t,t]},ty,pos,af,none⟩::rest) E w:=fun a ha=>by
 obtain ⟨i,z,aW,bb,df,jy,HC,HD,NN,SD⟩:=ll;obtain ⟨s1,s2,F7,adh,ess,DB,zM⟩:=τ;obtain ⟨nO,pB⟩:=J.acM ess;refine J.aLY Z x y base t e i z aW bb df jy HC HD NN SD (J.ab A) A c l h dp k.length c2 k (ess.map fun es=>(([]:List Nat),es)) (J.dC.plain hR.1 DB) Z (by rw [pB];exact zM) (by rw [nO,aYP];exact h.nodup) hlen l4 oa Z (ha.ev hs) (ha.ev hx) ?_;rintro bQ cc f' w1 ⟨lM,nt,Bt,U',acS,aog⟩;obtain rfl:=lM.azX hR.2;have hm:Mod (J.ab A) w w1:=by
  have:=Mod.grown nt
  rwa [J.U5] at this
 have:=ak w1 bQ cc hm lM (fun q I=>by
  rcases U' q I with h | h | h
  ·exact .inl h
  ·rw [nO] at h;cases h
  ·exact .inr (by omega)) (by rw [acS];exact and_congr_right fun _=>List.length_eq_zero_iff)
 rw [aX9] at this;exact this _ (ha.put hd _)
theorem Own.agL {base e size:Nat} {G:Nat→Value→Prop} {b c n:Nat} {xs:List Value} (h:Own w base e size G (.slice (some ⟨b,0,none⟩) n c) n xs):∃ cur:Array Value,w.heap[b]? =some (.cells cur e (0,0))∧cur.size=c * size∧cur.toList.take (n * size)=xs:=by
 obtain ⟨κ,τ⟩:=h;rcases τ with ⟨τ,_⟩ | ⟨g',cap,cur,hv,qM,eI,d,hm,hs,aH,bP⟩
 ·cases τ
 ·injection hv with hv _ hc
  injection hv with hv
  injection hv with hv
  subst hv;subst hc;exact ⟨cur,eI,hs,aH⟩
theorem so {α:Type} {R:J α} {e by_ B j i:Nat} {A:Option Addr} {c:Nat} {l:List α} {q q':α} {p:Addr} {u:Value} (h:R.aF e by_ w B (J.ab A) A c l) (hR:R.rV) (hi:l[i]? =some q) (ay:Nat.blt j R.size=true) (hx:ev E x=some (.pointer (some p))) (hp:p=⟨fN A,mA A+i * R.size+j,none⟩) (aE:ev E y=some u)
  (hu:∀ (w1:World) cs,R.has w cs q→R.has w1 (cs.set j u) q') (κ:u.oneCell'=true) (tx:u.cells=#[u]) (hs:eS P t 1)
  (ak:∀ w1,Mod (J.ab A) w w1→R.aF e by_ w1 B (J.ab A) A c (l.set i q')→cg P n ops Q rest E w1):cg P n ops Q (⟨none, .store t x y,ty,pos,af,none⟩::rest) E w:=by
 obtain ⟨b,rfl⟩:=h.block (by have:=(aX8.1 hi).1;omega);rw [bbW] at ay;have OV:p=⟨b,i * R.size+j,none⟩:=by rw [hp];simp [fN,mA]
 subst OV;have xF:=h.aJs hR hi ay (fun cs hc=>hu _ cs hc);have bF:=(aX8.1 hi).1;have kD:∃ apx,w.cell? ⟨b,i * R.size+j,none⟩=some apx:=by
  obtain ⟨_,ps,_,_,bK,dM⟩:=h;have ah:=bK.1;rw [bK.cell _ (by rw [aZq i];exact aZG (by rw [aZq];exact (by omega:i * R.size+j<i * R.size+R.size)) (by rw [← aZ1];exact aYY _ bF))];exact ⟨_,aYb (by rw [ah];exact aZG (by omega:i * R.size+j<i * R.size+R.size) (by rw [← aZ1];exact aYY _ bF))⟩
 obtain ⟨apx,aDE⟩:=kD;have hf:=h.free (i * R.size+j);refine us (w':=w.setCell ⟨b,i * R.size+j,none⟩ u) (fun n a ha=> ?_) (ak _ (Mod.setCell w ⟨b,i * R.size+j,none⟩ u) xF);have g_:(storeVar t ⟨b,i * R.size+j,none⟩ u).run P w= .ok () (w.setCell ⟨b,i * R.size+j,none⟩ u):=by
  unfold storeVar;simp only [tx,aYt,hs w,aYj,aZT,aYc,aYh,ne_eq,aY4,bdl,aZI,storeCells];have:(⟨b,i * R.size+j,none⟩:Addr).add 0=⟨b,i * R.size+j,none⟩:=rfl;rw [this,run_store P w _ u _ κ,aDE];simp only [hf,aY8,aZI,aYj,aYu]
 simp only [execOp,ha.ev hx,ha.ev aE,Instr.storeAt,Instr.sureAddr,aYt,aYu,aYj,g_]
theorem Sc {e u:TypeId} {q:Option Addr} (aH:P.underlying t=some (.pointer e)) (hx:ev E x=some (.pointer q)) (aE:ev E y=some (.pointer none)):c9 P E ⟨d, .binOp .eql t x y u,ty,pos,af,g⟩ w (.bool q.isNone) w:=fun n a ha=>by
 have κ:P.underlying t=some (.pointer (P.pointee t)):=by simp [Program.pointee,aH]
 have:(eqGuard .eql t x y (.pointer q) (.pointer none)).run P w= .ok () w:=by cases x<;>cases y<;>rfl
 simp only [execOp,ha.ev hx,ha.ev aE,aYt,this,run_eql_pointer_nil w t q κ,aYj,aYu]
def MD (P:Program) {α:Type} [DecidableEq α] (cells:α→List Value) (t:TypeId):Prop:=∀ (a b:α) (w:World),(binOp .eql t (.agg (cells a).toArray) (.agg (cells b).toArray)).run P w= .ok (.bool (decide (a=b))) w∧(binOp .neq t (.agg (cells a).toArray) (.agg (cells b).toArray)).run P w= .ok (.bool (!decide (a=b))) w
theorem azx {o:BinOp} {xs ys:Array Value} (h:P.eqGuardType P.depth t=false):(eqGuard o t x y (.agg xs) (.agg ys)).run P w= .ok () w:=by
 cases o<;>simp [eqGuard,h]
theorem Sb {α:Type} [DecidableEq α] {cells:α→List Value} {u:TypeId} {p q:α} (ll:MD P cells t) (bP:P.eqGuardType P.depth t=false) (hx:ev E x=some (.agg (cells p).toArray)) (aE:ev E y=some (.agg (cells q).toArray)):c9 P E ⟨d, .binOp .neq t x y u,ty,pos,af,g⟩ w (.bool (!decide (p=q))) w:=fun n a ha=>by
 simp only [execOp,ha.ev hx,ha.ev aE,aYt,azx bP,(ll p q w).2,aYj,aYu]
theorem run_equalIn_bool (d:Nat) {p q:Bool} (aH:P.underlying t=some .bool):(Op.equalIn (d+1) t (.bool p) (.bool q)).run P w= .ok (p == q) w:=by simp [Op.equalIn,aZo aH]
theorem run_equal_bool {p q:Bool} (aH:P.underlying t=some .bool):(Op.equal t (.bool p) (.bool q)).run P w= .ok (p == q) w:=run_equalIn_bool 9999 aH
theorem au4 {u:TypeId} {p q:Bool} (aH:P.underlying t=some .bool) (hx:ev E x=some (.bool p)) (aE:ev E y=some (.bool q)):c9 P E ⟨d, .binOp .neq t x y u,ty,pos,af,g⟩ w (.bool (p != q)) w:=fun n a ha=>by
 have:(eqGuard .neq t x y (.bool p) (.bool q)).run P w= .ok () w:=by cases x<;>cases y<;>rfl
 have τ:(binOp .neq t (.bool p) (.bool q)).run P w= .ok (.bool (p != q)) w:=by
  simp only [binOp,aYt,run_equal_bool aH,aYj,aYu];rfl
 simp only [execOp,ha.ev hx,ha.ev aE,aYt,this,τ,aYj,aYu]
theorem Is {u i:Value} (hx:ev E x=some u) (aE:ev E y=some i) (hr:(Instr.index t u i).run P w= .ok v w):c9 P E ⟨d, .index t x y,ty,pos,af,g⟩ w v w:=fun n a ha=>by
 simp only [execOp,ha.ev hx,ha.ev aE,aYt,hr,aYj,aYu]
theorem nk {k:IntKind} {i j:Int} {ts:Array TypeId} (hx:ev E x=some (.int k i)) (aE:ev E y=some (.int k j)):c9 P E ⟨d, .call {callee:= .builtin .min,args:=#[x,y],argTypes:=ts},ty,pos,af,g⟩ w (.int k (min i j)) w :=
 bi (vs:= [.int k i, .int k j]) (by simp only [hL,hx,aE]) fun cs=>by
  have:=run_min_int2 (P:=P) (w:=w) ts ty k k i j;simp only [builtin,aYt,this,aYj,aYu];congr 3;rw [Int.min_def];split<;>split<;>omega
theorem mx {k:IntKind} {i j:Int} {ts:Array TypeId} (hx:ev E x=some (.int k i)) (aE:ev E y=some (.int k j)):c9 P E ⟨d, .call {callee:= .builtin .max,args:=#[x,y],argTypes:=ts},ty,pos,af,g⟩ w (.int k (max i j)) w :=
 bi (vs:= [.int k i, .int k j]) (by simp only [hL,hx,aE]) fun cs=>by
  have:=run_max_int2 (P:=P) (w:=w) ts ty k k i j;simp only [builtin,aYt,this,aYj,aYu];congr 3;rw [Int.max_def];split<;>split<;>omega
end
open Tryz

section
variable {P:Program} {n:Nat} {E:List (Nat×Value)} {a:Act} {w w0:World} {Q:Exit→Act→World→Prop} {ops:Array Oper} {aS:Nat→Nat}
def By (r:List Nat) (l:Array Bool):Array Bool:=match r with | []=>l | i::r=>By r (l.setIfInBounds i true)
def HN (ops:Array Oper) (aS:Nat→Nat):List Nat→Array Bool→Bool
 | [],_=>true
 | i::r,l=>(match aS i with
   | 0=>Region.free .any ops l i && (Region.ready .any ops l).contains i && R4 ops aS l i
   | 1=>Region.free .any ops l i && (Region.ready .any ops l).contains i
   | _=>false) && HN ops aS r (l.setIfInBounds i true)
def agp (ops:Array Oper) (aS:Nat→Nat) (r:List Nat):Nat→List Nat→Array Bool→Bool
 | 0,R,l=>R.isEmpty && lh ops aS r l
 | f+1,R,l=> !(Region.ready .any ops l).isEmpty && (Region.ready .any ops l).all fun j=>R.contains j && Nat.beq (aS j) 2 && agp ops aS r f (R.erase j) (l.setIfInBounds j true)
theorem XX (hs:Region.noSelect ops=true) (ji:∀ c a w,¬ Q (.panic c) a w) {r0:Exit→Act→World→Prop} {m:Nat}:∀ (r:List Nat) (l:Array Bool) (a:Act) (w0:World),l.size=ops.size→HN ops aS r l=true→wJ P ops r0 aS r a w0→
  (∀ a w0,(∀ w,Ext w0 w→r0 .normal a w)→EL P ops Q aS m (By r l) a w0)→EL P ops Q aS (r.length+m) l a w0
 | [],l,a,w0,_,_,h,gq=>by rw [aYh,aY4];exact gq a w0 h
 | i::r,l,a,w0,ah,bg,h,gq=>by
  rw [aYc,Nat.succ_add];obtain ⟨o,bK,h⟩:=h;have oM:=ba5 hs;rcases h with ⟨ak,v,I,hK⟩ | ⟨ak,v,I,hK⟩ | ⟨ak,h⟩
  ·simp only [HN,ak,aYl] at bg;obtain ⟨⟨⟨hf,hr⟩,ag⟩,bg⟩:=bg;obtain ⟨R,r1,r2,wx⟩:=R5 ah ag;exact S_ bK (by omega) oM ji (fun w0 a=>vH P ops w0 o v a) (fun _ _ h=>h) (fun _ _ _ h he hw=>h.of_same he hw) (fun _ _ _ hx h=>h.on hx) R l r1 (.inr wx) _ _ _ _ r2 (fun _ h=>h) (aZ3 bK hf) (by simpa using hr) I
    (XX hs ji r _ _ _ (by simpa using ah) bg hK gq)
  ·simp only [HN,ak,aYl] at bg;obtain ⟨⟨hf,hr⟩,bg⟩:=bg;exact S_ bK (by omega) oM ji (fun _ a=>Yields P ops o v a) (fun _ _ h=>Yields.aom h) (fun _ _ _ h he hw=>h.of_same he hw) (fun _ _ _ _ h=>h) (fun _=>true) l (fun _ _ _ _ _=>Z) (.inl fun _ _ _ h=>h) _ _ _ _ (fun _ _=>Z) (fun _ h=>h) (aZ3 bK hf) (by simpa using hr) I
    (XX hs ji r _ _ _ (by simpa using ah) bg hK gq)
  ·obtain ⟨k,gC⟩:∃ k,aS i=k+2:=⟨aS i - 2,by omega⟩;simp only [HN,gC,aZS,aY8] at bg
theorem fj.lu {d:Nat} (h:fj n E a) (hf:look E d=Option.none) (v:Value):fj n E (a.put (some d) v):=by
 refine ⟨h.d,by simp [Act.put,h.s],fun t u hu=> ?_⟩;have fZ:d≠t:=fun e=>by rw [e,hu] at hf;cases hf
 simp only [Act.put];rw [baf fZ];exact h.g t u hu
structure aOA (P:Program) (n:Nat) (ops:Array Oper) (Q:Exit→Act→World→Prop) (E:List (Nat×Value)) (w0:World) (i d:Nat) (aeD:Value→List Nat→World→Prop):Prop where
 mono:∀ v f w w',aeD v f w→Ext w w'→aeD v f w'
 free:look E d=none
 lH:Nat.blt d n=true
 run:∀ (a:Act) (w:World) (K:Act→World→Prop),fj n E a→Ext w0 w→(∀ v w' f,Ext w w'→(∀ q∈f,w.heap.size≤q∧q<w'.heap.size)→aeD v f w'→K (a.put (some d) v) w')→wpOp P ops (ij (Q .normal)) i K a w
abbrev Made:=Nat×Nat×(Value→List Nat→World→Prop)
def aNt (P:Program) (ops:Array Oper) (Q:Exit→Act→World→Prop) (aS:Nat→Nat) (B bY:List Nat) (l:Array Bool):Exit→Act→World→Prop
 | .normal,a,w=>Region.noSelect ops=true→l.size=ops.size→agp ops aS bY B.length B l=true→EL P ops (ij (Q .normal)) aS (B.length+bY.length) l a w
 | _,_,_=>False
theorem adn:∀ (r:List Nat) (l:Array Bool),(By r l).size=l.size
 | [],_=>rfl
 | i::r,l=>by unfold By;rw [adn r];simp
def aGI:List Nat→Bool
 | []=>true
 | x::r=> !r.elem x && aGI r
variable {d i:Nat} {ty:TypeId} {pos:String} {af:Array Edge} {x y z:Operand} {t:TypeId} {v:Value}
def aOB (cs:List Value) (t:TypeId) (v:Value) (f:List Nat) (w:World):Prop:=∃ b,v= .pointer (some ⟨b,0,none⟩)∧f= [b]∧aM w b cs t (0,0)
end
open Tryz

section
variable {P:Program} {n:Nat} {E cW:List (Nat×Value)} {a:Act} {w w' w0 w1:World} {Q:Exit→Act→World→Prop} {ops:Array Oper}
variable {d:Option Nat} {ty:TypeId} {pos:String} {af:Array Edge} {g:Option (Nat×Bool)} {x y z u:Operand} {t:TypeId} {rest:List Oper} {v:Value}
theorem acu {i:Int} (hx:ev E x=some (.int .i64 i)) (h:IntKind.i64.wrap (-i)= -i):c9 P E ⟨d, .unOp .neg t x,ty,pos,af,g⟩ w (.int .i64 (-i)) w:=fun n a ha=>by
 have:(execOp a.eval ⟨d, .unOp .neg t x,ty,pos,af,g⟩).run P w= .ok (.value (.int .i64 (IntKind.i64.wrap (-i)))) w:=by
  have aG:(0:Int) - i= -i:=Int.zero_sub i;have hu:(Op.unary .neg (.int .i64 i)).run P w= .ok (.int .i64 (IntKind.i64.wrap (-i))) w:=by
   show (Op.intArith .sub .i64 0 i).run P w=_;simp [Op.intArith,aG]
  simp only [execOp,ha.ev hx,aYt,hu,aYj,aYu]
 rw [this,h]
theorem aFZ {k:IntKind} {i j l m:Int} {ts:Array TypeId} (hx:ev E x=some (.int k i)) (aE:ev E y=some (.int k j)) (bc:ev E z=some (.int k l)) (hu:ev E u=some (.int k m)):c9 P E ⟨d, .call {callee:= .builtin .max,args:=#[x,y,z,u],argTypes:=ts},ty,pos,af,g⟩ w (.int k (max (max (max i j) l) m)) w :=
 bi (vs:= [.int k i, .int k j, .int k l, .int k m]) (by simp only [hL,hx,aE,bc,hu]) fun cs=>by
  have e:∀ a b:Int,(if b > a then b else a)=max a b:=fun a b=>by rw [Int.max_def];split<;>split<;>omega
  have:(Builtin.max_ ts ty #[.int k i, .int k j, .int k l, .int k m]).run P w= .ok (.int k (max (max (max i j) l) m)) w:=by
   rw [← e,← e,← e];simp [Builtin.max_,Builtin.max2]
  simp only [builtin,aYt,this,aYj,aYu]
end
def afG (e:MapEntry) (p:Int×Int):Prop:=e.key= .int .i64 p.1∧e.val= .int .i64 p.2
def qH (w:World) (r:Nat) (l:List (Int×Int)):Prop:=∃ (es:Array MapEntry) (clock:Nat),w.heap[r]? =some (.map es clock)∧dC afG es.toList l
def dv (l:List (Int×Int)) (k:Int):Option Int:=(l.find? fun p=>p.1 == k).map (·.2)
section
variable {w w':World} {r:Nat} {l:List (Int×Int)} {S:List Nat}
theorem qH.lt (h:qH w r l):r<w.heap.size:=by
 obtain ⟨es,c,κ,_⟩:=h;exact (aYN.1 κ).1
theorem qH.later (h:qH w r l) (x:Ext w w'):qH w' r l:=by
 have ah:=h.lt;obtain ⟨es,c,κ,τ⟩:=h;exact ⟨es,c,by rw [x.block r ah];exact κ,τ⟩
theorem qH.mod (h:qH w r l) (m:Mod S w w') (hs:r∉S):qH w' r l:=by
 have ah:=h.lt;obtain ⟨es,c,κ,τ⟩:=h;exact ⟨es,c,by rw [m.block r ah hs];exact κ,τ⟩
theorem Zq (k:Int):∀ {es:List MapEntry} {l:List (Int×Int)} (i:Nat),dC afG es l→(dv l k=none→Instr.findNow (.int .i64) (.int .i64 k) es i=some none)∧(∀ v,dv l k=some v→∃ j,Instr.findNow (.int .i64) (.int .i64 k) es i=some (some (j, .int .i64 v)))
 | [], [],i,_=>⟨fun _=>rfl,fun v h=>by simp [dv] at h⟩
 | e::es,p::l,i,h=>by
  obtain ⟨⟨ak,hv⟩,τ⟩:=h;have bL:=Zq k (i+1) τ;have Io:Instr.sameNow (.int .i64) (.int .i64 k) e.key=some (decide (k=p.1)):=by
   rw [ak];obtain ⟨q,I,hi⟩:=MapKept.sameNow_of_keys (d:= .int .i64) (a:= .int .i64 k) (b:= .int .i64 p.1) rfl rfl;rw [I];cases q with
   | true=>have:=hi.1 rfl;injection this with _ this;rw [aYD this]
   | false=>rw [aYL fun e=>by have:=hi.2 (by rw [e]);cases this]
  by_cases he:k=p.1
  ·have ag:(p.1 == k)=true:=by simp [he]
   rw [aYD he] at Io;refine ⟨fun aG=>by simp [dv,List.find?,ag] at aG,fun v aG=>⟨i, ?_⟩⟩;have:p.2=v:=by simpa [dv,List.find?,ag] using aG
   simp [Instr.findNow,Io,hv,this]
  ·have ag:(p.1 == k)=false:=by simpa using fun e=>he e.symm
   rw [aYL he] at Io;have aN:dv (p::l) k=dv l k:=by simp [dv,List.find?,ag]
   rw [aN];simpa [Instr.findNow,Io] using bL
end
section
variable {P:Program} {n:Nat} {E cW:List (Nat×Value)} {a:Act} {w w' w0 w1:World} {Q:Exit→Act→World→Prop} {ops:Array Oper}
variable {d:Option Nat} {ty:TypeId} {pos:String} {af:Array Edge} {g:Option (Nat×Bool)} {x y z u:Operand} {t:TypeId} {rest:List Oper} {v:Value}
theorem acm {d:Nat} (hd:Nat.blt d n=true) (h:∀ w1 r,Ext w w1→w.heap.size≤r→qH w1 r []→cg P n ops Q rest ((d, .map (some r))::E) w1):cg P n ops Q (⟨some d, .makeMap t none,ty,pos,af,none⟩::rest) E w:=by
 refine hW (w':=w.alloc (.map #[] 0)) (v:= .map (some w.heap.size)) (fun n a ha=> ?_) hd (h _ _ ((aYG _ w).alloc (aYg _) _) (aYg _) ⟨#[],0,(MapKept.heap_alloc w _).1,trivial⟩);simp only [execOp,Option.map,aYt,run_makeMap_plain,aYj,aYu]
theorem lk {Pt S7:TypeId} {r:Nat} {l:List (Int×Int)} {k:Int} (hm:P.underlying t=some (.map Pt S7)) (ak:P.underlying Pt=some (.int .i64)) (he:mM P S7 (.int .i64 0)) (h:qH w r l) (hx:ev E x=some (.map (some r))) (aE:ev E y=some (.int .i64 k)):
  c9 P E ⟨d, .lookup t x y true,ty,pos,af,g⟩ w (.tuple #[.int .i64 ((dv l k).getD 0), .bool (dv l k).isSome]) w:=fun n a ha=>by
 obtain ⟨es,c,κ,τ⟩:=h;have hf:=Zq k 0 τ;have vX:=bdq (P:=P) (w:=w) ak (show MapKept.IsKey (.int .i64) (.int .i64 k) from rfl) es.isEmpty 9999;have ke:(Instr.lookup t (.map (some r)) (.int .i64 k) true).run P w= .ok (.tuple #[.int .i64 ((dv l k).getD 0), .bool (dv l k).isSome]) w:=by
  cases aN:dv l k with
  | none =>
   have:=bb5 (P:=P) (w:=w) ak (hf.1 aN);simp [Instr.lookup,aYt,aZo hm,aZd κ,vX,this,he w,Result.andThen]
  | some v =>
   obtain ⟨j,ay⟩:=hf.2 v aN;have:=bb5 (P:=P) (w:=w) ak ay;simp [Instr.lookup,aYt,aZo hm,aZd κ,vX,this,Result.andThen]
 simp only [execOp,ha.ev hx,ha.ev aE,aYt,ke,aYj,aYu]
theorem mu {Pt S7:TypeId} {r:Nat} {l:List (Int×Int)} {k v:Int} (hm:P.underlying t=some (.map Pt S7)) (ak:P.underlying Pt=some (.int .i64)) (h:qH w r l) (aN:dv l k=none) (hx:ev E x=some (.map (some r))) (aE:ev E y=some (.int .i64 k)) (bc:ev E z=some (.int .i64 v))
  (hK:∀ w1,Mod [r] w w1→qH w1 r (l++ [(k,v)])→cg P n ops Q rest E w1):cg P n ops Q (⟨none, .mapUpdate t x y z,ty,pos,af,none⟩::rest) E w:=by
 have bF:=h.lt;obtain ⟨es,c,κ,τ⟩:=h;have hf:=(Zq k 0 τ).1 aN;have vX:=bdq (P:=P) (w:=w) ak (show MapKept.IsKey (.int .i64) (.int .i64 k) from rfl) false 9999;have aB2:=bb5 (P:=P) (w:=w) ak hf;have xF:=aZC (P:=P) (.map (es.push {key:= .int .i64 k,val:= .int .i64 v,born:=c}) (c+1)) κ;refine us (w':= {w with heap:=w.heap.setIfInBounds r (.map (es.push {key:= .int .i64 k,val:= .int .i64 v,born:=c}) (c+1))}) (fun n a ha=> ?_) (hK _ ⟨Z,Z,Z,by simp,fun q I hn=> ?_⟩ ⟨es.push {key:= .int .i64 k,val:= .int .i64 v,born:=c},c+1,(MapKept.heap_set κ).1, ?_⟩)
 ·have ke:(Instr.mapUpdate t (.map (some r)) (.int .i64 k) (.int .i64 v)).run P w= .ok () {w with heap:=w.heap.setIfInBounds r (.map (es.push {key:= .int .i64 k,val:= .int .i64 v,born:=c}) (c+1))}:=by
   simp [Instr.mapUpdate,aYt,aZo hm,aZd κ,vX,aB2,xF,Result.andThen]
  simp only [execOp,ha.ev hx,ha.ev aE,ha.ev bc,aYt,ke,aYj,aYu]
 ·exact (MapKept.heap_set κ).2 q (by simpa using hn)
 ·rw [Array.toList_push];exact τ.app ⟨⟨Z,Z⟩,trivial⟩
end
theorem aF4 {w:World} {B e size c m:Nat} {G:Nat→Value→Prop} {z:Array Value} (bc:z.size=size) (aG:0<size) (bP:∀ (j:Nat) u,z[j]? =some u→G j u) (bg:B≤w.heap.size) (hm:m≤c) (hc:c≤maxLen):
  Own (w.alloc (.cells (madeCells z (c * size)) e)) B e size G (.slice (some ⟨w.heap.size,0,none⟩) m c) m ((madeCells z (c * size)).toList.take (m * size)):=by
 have aCO:m * size≤c * size:=aYY _ hm;refine ⟨by rw [aYa,aZ0,bbQ];omega, .inr ⟨w.heap.size,c,_,rfl,bg,(MapKept.heap_alloc w _).1,hm,hc,bbQ _ _,rfl,fun j u hu=> ?_⟩⟩;have bF:=(aYN.1 hu).1;simp only [madeCells,bb4] at hu;rw [bbQ] at bF;rw [bbK,aYq bF] at hu;have ay:j % size<z.size:=by rw [bc];exact bal _ aG
 have e:z[j % z.size]! =z[j % size]:=by rw [bc];exact bcP z (j % size) ay
 rw [aZL,e] at hu;exact bP _ _ (by rw [baF ay];exact hu)
section
variable {P:Program} {n:Nat} {E cW:List (Nat×Value)} {a:Act} {w w' w0 w1:World} {Q:Exit→Act→World→Prop} {ops:Array Oper}
variable {d:Nat} {ty:TypeId} {pos:String} {af:Array Edge} {g:Option (Nat×Bool)} {x y z:Operand} {t:TypeId} {rest:List Oper}
theorem acb {α:Type} {R:J α} {e by_ B m c:Nat} {zv:Value} {l:List α} (cK:R.Plain) (aH:P.underlying t=some (.slice e)) (hi:(P.info? e).map (fun i=>(i.zero,i.size,i.bytes))=some (some zv,R.size,by_)) (κ:zv.cells.size=R.size) (τ:0<R.size) (au:∀ (j:Nat) u,zv.cells[j]? =some u→R.raw j u)
  (hx:ev E x=some (.int .i64 (m:Int))) (aE:ev E y=some (.int .i64 (c:Int))) (hd:Nat.blt d n=true) (hm:m≤c) (ag:c * by_≤140737488355328) (hc:c≤9223372036854775807) (bg:B≤w.heap.size) (ah:l.length=m) {ess:List (List Value)} (aB1:∀ w,dC (fun es a=>R.has w es a) ess l) (se:ess.flatten=(madeCells zv.cells (c * R.size)).toList.take (m * R.size))
  (h:∀ w1 b,Ext w w1→w.heap.size≤b→R.aF e by_ w1 B (J.ab (some ⟨b,0,none⟩)) (some ⟨b,0,none⟩) c l→cg P n ops Q rest ((d, .slice (some ⟨b,0,none⟩) m c)::E) w1):cg P n ops Q (⟨some d, .makeSlice t x y,ty,pos,af,none⟩::rest) E w:=by
 cases I:P.info? e with
 | none=>rw [I] at hi;cases hi
 | some i =>
  rw [I] at hi;simp only [aZL,baV,bbR] at hi;obtain ⟨i1,i2,i3⟩:=hi;have bI:(i.bytes:Int) * (c:Int)≤281474976710656:=by
   have:i.bytes * c≤281474976710656:=by rw [i3,aZq];omega
   have h:((i.bytes * c:Nat):Int)≤281474976710656:=by omega
   rwa [Int.natCast_mul] at h
  have hr:=run_make (P:=P) w t e i zv aH I i1 .i64 .i64 (m:Int) (c:Int) (by omega) (by omega) bI (by omega);simp only [aY2] at hr;have bK:=aF4 (w:=w) (e:=e) (c:=c) (m:=m) κ τ au bg hm (by simp [maxLen];omega);rw [← se] at bK;subst ah;rw [i2] at hr;refine hW (fun n a ha=> ?_) hd (h _ w.heap.size ((aYG _ w).alloc (aYg _) _) (aYg _) (J.aF.Br (R:=R) cK (aB1 _) (aYF (aYY _ hm) ag) bK));simp only [execOp,ha.ev hx,ha.ev aE,aYt,hr,aYj,aYu]
theorem UB {α:Type} {R:J α} {e by_ B c:Nat} {zv:Value} (cK:R.Plain) (aH:P.underlying t=some (.slice e)) (hi:(P.info? e).map (fun i=>(i.zero,i.size,i.bytes))=some (some zv,R.size,by_)) (κ:zv.cells.size=R.size) (τ:0<R.size) (au:∀ (j:Nat) u,zv.cells[j]? =some u→R.raw j u)
  (hx:ev E x=some (.int .i64 0)) (aE:ev E y=some (.int .i64 (c:Int))) (hd:Nat.blt d n=true) (ag:c * by_≤140737488355328) (hc:c≤9223372036854775807) (bg:B≤w.heap.size)
  (h:∀ w1 b,Ext w w1→w.heap.size≤b→R.aF e by_ w1 B (J.ab (some ⟨b,0,none⟩)) (some ⟨b,0,none⟩) c ([]:List α)→cg P n ops Q rest ((d, .slice (some ⟨b,0,none⟩) 0 c)::E) w1):cg P n ops Q (⟨some d, .makeSlice t x y,ty,pos,af,none⟩::rest) E w :=
 acb (m:=0) (l:=([]:List α)) (ess:= []) cK aH hi κ τ au hx aE hd (aYX _) ag hc bg rfl (fun _=>trivial) (by simp) h
theorem PB {α:Type} {R:J α} {e by_ B c:Nat} {zv:Value} {q:α} (cK:R.Plain) (aH:P.underlying t=some (.slice e)) (hi:(P.info? e).map (fun i=>(i.zero,i.size,i.bytes))=some (some zv,R.size,by_)) (hs:R.size=1) (κ:zv.cells=#[zv]) (au:∀ (j:Nat) u,zv.cells[j]? =some u→R.raw j u) (I:∀ w,R.has w [zv] q)
  (hx:ev E x=some (.int .i64 (c:Int))) (aE:ev E y=some (.int .i64 (c:Int))) (hd:Nat.blt d n=true) (ag:c * by_≤140737488355328) (hc:c≤9223372036854775807) (bg:B≤w.heap.size)
  (h:∀ w1 b,Ext w w1→w.heap.size≤b→R.aF e by_ w1 B (J.ab (some ⟨b,0,none⟩)) (some ⟨b,0,none⟩) c (List.replicate c q)→cg P n ops Q rest ((d, .slice (some ⟨b,0,none⟩) c c)::E) w1):cg P n ops Q (⟨some d, .makeSlice t x y,ty,pos,af,none⟩::rest) E w:=by
 refine acb (m:=c) (ess:=List.replicate c [zv]) cK aH hi (by rw [κ,hs];rfl) (by omega) au hx aE hd (aYg _) ag hc bg (by simp) (fun w=> ?_) ?_ h
 ·clear h ag hc hx aE;induction c with
  | zero=>trivial
  | succ c bL=>exact ⟨I w,bL⟩
 ·rw [hs,ba2,κ];apply aZW;intro i;simp only [aYO,aZe,madeCells,bb4,bbK];have aW:∀ k:Nat,(List.replicate k [zv]).flatten=List.replicate k zv:=fun k=>by
   induction k with
   | zero=>rfl
   | succ k bL=>simp [bdc,bL]
  rw [aW,aZn];split
  ·simp [Nat.mod_one]
  ·rfl
end
def eF (A:Option Addr) (c lo s:Nat):Option Addr:=if c=lo then A else A.map (·.add (lo * s))
theorem Zw {β:Type} {size:Nat}:∀ (lo:Nat) {ess:List (List β)},(∀ x∈ess,x.length=size)→(ess.drop lo).flatten=ess.flatten.drop (lo * size)
 | 0,ess,_=>by simp
 | lo+1, [],_=>by simp
 | lo+1,x::ess,h=>by
  have hx:=h x aYE;rw [bbO,Zw lo fun y aE=>h y (aYm _ aE),aZa,aZ1,bca,← bcB];congr 1;rw [bcu (by omega),baW (by omega)];rfl
theorem S' {β:Type} {size:Nat}:∀ (n:Nat) {ess:List (List β)},(∀ x∈ess,x.length=size)→(ess.take n).flatten=ess.flatten.take (n * size)
 | 0,ess,_=>by simp
 | n+1, [],_=>by simp
 | n+1,x::ess,h=>by
  have hx:=h x aYE;have e:(n+1) * size=size+n * size:=by rw [aZ1,bca]
  rw [bdb,aZa,S' n fun y aE=>h y (aYm _ aE),aZa,e,bcn,hx,Nat.add_sub_cancel_left,aYp (by rw [hx];omega:x.length≤size+n * size)]
theorem dC.drop {α β:Type} {P:β→α→Prop}:∀ (n:Nat) {l:List β} {m:List α},dC P l m→dC P (l.drop n) (m.drop n)
 | 0,_,_,h=>h
 | n+1, [], [],_=>trivial
 | n+1,_::_,_::_,h=>dC.drop n h.2
theorem dC.take {α β:Type} {P:β→α→Prop}:∀ (n:Nat) {l:List β} {m:List α},dC P l m→dC P (l.take n) (m.take n)
 | 0,_,_,_=>trivial
 | n+1, [], [],_=>trivial
 | n+1,_::_,_::_,h=>⟨h.1,dC.take n h.2⟩
theorem J.aK.sub {α:Type} {R:J α} {by_ c:Nat} {A:Option Addr} {l:List α} {w:World} (h:R.aK by_ w A c l) (lo hi:Nat) (κ:lo≤hi) (τ:hi≤l.length):R.aK by_ w (eF A c lo R.size) (c - lo) ((l.drop lo).take (hi - lo)):=by
 obtain ⟨g1,g2,g3,g4,ess,g5,g6⟩:=h;have hlen:((l.drop lo).take (hi - lo)).length=hi - lo:=by rw [aYa,aYs];omega
 have hu:∀ x∈ess,x.length=R.size:=fun x hx=>by obtain ⟨a,ha⟩:=g5.left x hx;exact R.len ha
 refine ⟨by rw [hlen];omega,by omega,by rw [hlen];exact aYF (aYY _ (by omega)) g3,fun hn=> ?_,(ess.drop lo).take (hi - lo),(g5.drop lo).take _, ?_⟩
 ·unfold eF at hn;split at hn
  ·omega
  ·cases A with
   | none=>have:=g4 rfl;omega
   | some a=>cases hn
 ·have aDF:∀ x∈ess.drop lo,x.length=R.size:=fun x hx=>hu x (aZw hx);have KT:ess.length=l.length:=g5.length;rw [S' _ aDF,Zw _ hu,hlen];have se:=CK hu;refine ⟨?_,fun aG=> ?_⟩
  ·rw [aYa,aYs,se,KT,← Nat.sub_mul,aZx (aYY _ (by omega))]
  ·obtain ⟨b,o,rfl,hc⟩:=g6.2 (by omega);have fZ:¬ c=lo:=by omega
   refine ⟨b,o+lo * R.size,by unfold eF;rw [aYi fZ];simp [Addr.add],fun j u ay=> ?_⟩;rw [aYO] at ay;split at ay
   ·rw [aZk] at ay;rw [ba0];exact hc _ u ay
   ·cases ay
section
variable {P:Program} {n:Nat} {E cW:List (Nat×Value)} {w:World} {d:Option Nat} {ty:TypeId} {pos:String} {af:Array Edge} {g:Option (Nat×Bool)} {x y z:Operand} {t:TypeId}
theorem aoE {A:Option Addr} {len cap e s:Nat} {k k':IntKind} (lo hi:Nat) {i j:Int} (aH:P.underlying t=some (.slice e)) (hs:eS P e s) (hx:ev E x=some (.slice A len cap)) (aE:ev E y=some (.int k i)) (bc:ev E z=some (.int k' j)) (y_:i=(lo:Int)) (C3:j=(hi:Int)) (κ:lo≤hi) (τ:hi≤cap):
  c9 P E ⟨d, .slice t x (some y) (some z) none,ty,pos,af,g⟩ w (.slice (eF A cap lo s) (hi - lo) (cap - lo)) w:=fun n a ha=>by
 subst y_;subst C3;have lM:P.underlying t=some (.slice (P.elem t)):=by simp [Program.elem,aH]
 have nt:P.elem t=e:=by simp [Program.elem,aH]
 have au:=run_slice_lh (P:=P) (w:=w) t A len cap lM k k' (lo:Int) (hi:Int) (by omega) (by omega) (by omega);have aU:=bay (P:=P) (w:=w) t (.slice A len cap) (some (.int k (lo:Int))) (some (.int k' (hi:Int))) none lM;rw [nt,hs w] at au;simp only [execOp,ha.ev hx,ha.ev aE,ha.ev bc,Option.map,aU,au,aYt,aYj,aYu,sliced,aY2,eF]
end
open Tryz

section
variable {P:Program} {n:Nat} {E cW:List (Nat×Value)} {a:Act} {w w' w0 w1:World} {Q:Exit→Act→World→Prop} {ops:Array Oper}
variable {d:Option Nat} {ty:TypeId} {pos:String} {af:Array Edge} {g:Option (Nat×Bool)} {x y z:Operand} {t:TypeId} {rest:List Oper} {v:Value}
theorem aIU {f:FuncId} (hf:Enters P f) {xs:Array Operand} {ts:Array TypeId} {args Nw:List Value} {a:Act} (ha:fj n E a) (hx:ev E x=some (.func (.func f) #[] Nw.toArray)) (he:hL E xs.toList=some args):
  (execOp a.eval ⟨d, .call {callee:= .value x,args:=xs,argTypes:=ts},ty,pos,af,g⟩).run P w= .ok (.enter f (args++Nw).toArray) w:=by
 obtain ⟨fn,κ,τ,au⟩:=hf;have hm:xs.map a.eval=args.toArray:=by rw [← ha.hL he];apply aZK;simp
 have hp:Sem.run P program w= .ok P w:=rfl;unfold execOp;simp only [resolve,invoke,Deferred.ofValue,ha.ev hx,callFunc,aYt,aYu,aYj,hm,hp,κ,τ,au,bba,aY8,aZI];simp
theorem NB {d:Nat} {f:FuncId} (hf:Enters P f) {xs:Array Operand} {ts:Array TypeId} {args Nw:List Value} (hx:ev E x=some (.func (.func f) #[] Nw.toArray)) (he:hL E xs.toList=some args) (hd:Nat.blt d n=true)
  (h:Calls P f (args++Nw).toArray w fun e w'=>∃ v,e= .returned v∧cg P n ops Q rest ((d,v)::E) w'):cg P n ops Q (⟨some d, .call {callee:= .value x,args:=xs,argTypes:=ts},ty,pos,af,none⟩::rest) E w:=fun a ha=>by
 refine Hm Z ?_;unfold Oper.wp;rw [aIU hf ha hx he];refine bcl h fun e w' eI=> ?_;obtain ⟨v,rfl,h⟩:=eI;exact h _ (ha.put hd v)
theorem ne {fn:Func} {R:Ending→World→Prop} (h:T n (bodyPost P fn R) E w):N n (bodyPost P fn R) E w:=fun a ha=>h a ha
end
def Raw (aA size j:Nat) (w:World) (A:Option Addr) (c:Nat):Prop :=
 (A=none∧c=0)∨∃ (b:Nat) (cur:List Value) (e:TypeId),A=some ⟨b,0,none⟩∧aA≤b∧aM w b cur e (0,0)∧∀ i,i<c→∃ m:Int,cur[i * size+j]? =some (.int .i64 m)
section
variable {w w':World} {aA size j c i:Nat} {A:Option Addr} {S:List Nat}
theorem Raw.later (h:Raw aA size j w A c) (x:Ext w w'):Raw aA size j w' A c:=by
 rcases h with h | ⟨b,cur,e,κ,τ,au,aU⟩
 ·exact .inl h
 ·exact .inr ⟨b,cur,e,κ,τ,au.later x,aU⟩
theorem Raw.bT (h:Raw aA size j w A c) (aG:0<c):A=some ⟨fN A,mA A,none⟩:=by
 rcases h with ⟨_,h⟩ | ⟨b,cur,e,rfl,_⟩
 ·omega
 ·rfl
theorem Raw.get (h:Raw aA size j w A c) (hi:i<c):∃ m:Int,w.cell? ⟨fN A,mA A+i * size+j,none⟩=some (.int .i64 m):=by
 rcases h with ⟨_,h⟩ | ⟨b,cur,e,rfl,_,au,aU⟩
 ·omega
 ·obtain ⟨m,hm⟩:=aU i hi;exact ⟨m,by rw [show (⟨fN (some ⟨b,0,none⟩),mA (some ⟨b,0,none⟩)+i * size+j,none⟩:Addr)=⟨b,i * size+j,none⟩ from by simp [fN,mA],au.cell,hm]⟩
end
open Tryz
section
variable {B S:List Nat} {a id m o:Nat} {l:List Oper} {cur cs:List Value} {e:TypeId}
theorem bU {b n:Nat} (u:∀ q∈B,q<n) (h:n≤b:=by omega):∀ q∈B,q∈ [b]→False:=fun q I ag=>by have:=u q I;have:=aYf.1 ag;omega
theorem bz {b n:Nat} (u:∀ q∈B,n≤q) (h:b<n:=by omega):∀ q∈B,q∈ [b]→False:=fun q I ag=>by have:=u q I;have:=aYf.1 ag;omega
theorem aO {b:Nat} (h:a≠b:=by omega):a∉ [b]:=fun e=>h (aYf.1 e)
section
variable {P:Program} {n:Nat} {ops:Array Oper} {Q:Exit→Act→World→Prop} {E:List (Nat×Value)} {w w' w0:World} {v:Value} {ty:TypeId} {pos:String} {af:Array Edge} {x:Operand} {rest:List Oper} {d i:Nat} {bY:List Nat} {aS:Nat→Nat}
theorem aC {y:Code} (h:W P n y Q E w):cg P n ops (n4 P y Q) [] E w:=nl (aX h)
theorem aw {y:Code} (h:cg P n l.toArray (n4 P y Q) l E w):W P n (.seq (.region id l.toArray false) y) Q E w:=av (rg h)
theorem bm {y:Code} (h:W P n y Q E w):W P n .skip (n4 P y Q) E w:=fu (aX h)
theorem aa {op:Op} (hr:c9 P E ⟨some d,op,ty,pos,af,none⟩ w v w') (h:cg P n ops Q rest ((d,v)::E) w') (hd:Nat.blt d n=true:=by rfl):cg P n ops Q (⟨some d,op,ty,pos,af,none⟩::rest) E w:=hW hr hd h
theorem vm (hx:ev E x=some v) (h:cg P n ops Q rest ((d,v)::E) w) (hd:Nat.blt d n=true:=by rfl):cg P n ops Q (⟨some d, .move x,ty,pos,af,none⟩::rest) E w:=hW (gw hx) hd h
theorem va (hx:ev E x=some v) (h:cg P n ops Q rest ((d,v)::E) w) (hd:Nat.blt d n=true:=by rfl):cg P n ops Q (⟨some d, .assign x,ty,pos,af,none⟩::rest) E w:=hW (ee hx) hd h
theorem aq {op:Op} (hi:ops[i]? =some ⟨some d,op,ty,pos,af,none⟩) (hr:∀ w,c9 P E ⟨some d,op,ty,pos,af,none⟩ w v w) (h:gI P n ops Q aS bY ((d,v)::E) w0) (ak:aS i=1:=by rfl) (hd:Nat.blt d n=true:=by rfl):gI P n ops Q aS (i::bY) E w0:=r9 hi ak hr hd h
theorem dT {op:Op} (hi:ops[i]? =some ⟨some d,op,ty,pos,af,none⟩) (hr:∀ w,Ext w0 w→c9 P E ⟨some d,op,ty,pos,af,none⟩ w v w) (h:gI P n ops Q aS bY ((d,v)::E) w0) (ak:aS i=0:=by rfl) (hd:Nat.blt d n=true:=by rfl):gI P n ops Q aS (i::bY) E w0:=ZB hi ak hr hd h
end
theorem qp:∀ {cW E:List (Nat×Value)},cW.map (fun p=>look E p.1)=cW.map (fun p=>some p.2)→Sub cW E
 | [],_,_=>Sub.nil
 | (k,v)::r,E,h=>have dh:look E k::r.map (fun p=>look E p.1)=some v::r.map (fun p=>some p.2):=h
  Sub.cons (bbi dh).1 (qp (bbi dh).2)
theorem bn:(∀ (a b:Bool),((a || b)=true)↔(a=true∨b=true))∧(∀ (a b:Bool),((a || b)=false)↔(a=false∧b=false))∧(∀ (a b:Bool),((a && b)=true)↔(a=true∧b=true))∧(∀ (a b:Bool),((a && b)=false)↔(a=false∨b=false))∧(∀ (p:Prop) [Decidable p],(decide p=true)↔p)∧(∀ (p:Prop) [Decidable p],(decide p=false)↔¬ p)∧(∀ (α:Type) [BEq α] [LawfulBEq α] (a b:α),((a == b)=true)↔(a=b))∧(∀ (α:Type) [BEq α] [LawfulBEq α] (a b:α),((a != b)=true)↔(a≠b))∧(∀ (α:Type) [BEq α] [LawfulBEq α] (a b:α),((a == b)=false)↔(a≠b))∧(∀ (α:Type) [BEq α] [LawfulBEq α] (a b:α),((a != b)=false)↔(a=b))∧(∀ b:Bool,((!b)=true)↔(b=false))∧(∀ b:Bool,((!b)=false)↔(b=true))∧(∀ b:Bool,(¬ (b=true))↔(b=false))∧(∀ b:Bool,(¬ (b=false))↔(b=true))∧(∀ a b:Int,(¬ a<b)↔b≤a)∧(∀ a b:Int,(¬ a≤b)↔b<a)∧(∀ a b:Nat,(¬ a<b)↔b≤a)∧(∀ a b:Nat,(¬ a≤b)↔b<a)∧(∀ (α:Type) (a b:α),(a≠b)↔¬ (a=b))∧(∀ p:Prop,(¬ ¬ p)↔p):=
 ⟨fun a b=>by cases a<;>cases b<;>simp,fun a b=>by cases a<;>cases b<;>simp,fun a b=>by cases a<;>cases b<;>simp,fun a b=>by cases a<;>cases b<;>simp,fun p _=>by simp,fun p _=>by simp,fun α _ _ a b=>by simp,fun α _ _ a b=>by simp,fun α _ _ a b=>by simp,fun α _ _ a b=>by simp,fun b=>by simp,fun b=>by simp,fun b=>by simp,fun b=>by simp,fun _ _=>Int.not_lt,fun _ _=>bdj,fun _ _=>Nat.not_lt,fun _ _=>Nat.not_le,fun _ _ _=>Iff.rfl,fun _=>Classical.not_not⟩
theorem aV (j:Nat) {n:Nat} (h:j<n:=by omega):0<n:=Nat.zero_lt_of_lt h
theorem zo {E:List (Nat×Value)} {t:Nat} {k:IntKind} {i j:Int} (h:look E t=some (.int k i)) (e:i=j:=by first | omega | rfl | (simp<;>omega)):look E t=some (.int k j):=FM h e
theorem γ {a b c:World} (h:Ext a b) (k:Ext b c):Ext a c:=Ext.x' h k
theorem bo {b n:Nat} (h:n≤b:=by omega):∀ q∈ [b],n≤q:=fun q I=>by rw [aYf.1 I];exact h
abbrev bA (b:Nat):Option Addr:=some ⟨b,0,none⟩
abbrev Φ (x:Int):Value:= .int .i64 x
def td (ops:Array Oper) (E:List (Nat×Value)) (j:Nat):Option Value:=ops[j]?.bind fun o=>o.dst.bind fun d=>look E d
theorem Th {ops:Array Oper} {E:List (Nat×Value)} {j:Nat} {v:Value} (h:td ops E j=some v):∃ dF jV,ops[j]? =some dF∧dF.dst=some jV∧look E jV=some v:=by
 unfold td at h;cases κ:ops[j]? with
 | none=>rw [κ] at h;cases h
 | some o =>
  rw [κ] at h;cases τ:o.dst with
  | none=>simp [τ] at h
  | some d=>exact ⟨o,d,rfl,τ,by simpa [τ] using h⟩
theorem aRg {ops:Array Oper} {E:List (Nat×Value)} {j:Nat} {b c:Bool} (h:td ops E j=some (.bool b)) (e:b=c):td ops E j=some (.bool c):=by rw [h,e]
theorem kW {a b c:World} (x:Ext a b) (m:Mod S b c):Mod S a c:=(Mod.a8 x).trans m
theorem nw {a b c:World} (m:Mod S a b) (x:Ext b c):Mod S a c:=m.trans (Mod.a8 x)
theorem cQ {T:List Nat} (d:∀ q∈S,q∈T→False):∀ q∈T,q∈S→False:=fun q h k=>d q k h
theorem aQS {b:Nat} (d:∀ q,q=b→q∈S→False):∀ q∈S,q=b→False:=fun q h k=>d q k h
theorem fJ {T:List Nat} {b n:Nat} (g:∀ q∈T,q∈S∨n≤q) (d:∀ q∈S,q=b→False) (h:b<n:=by omega):∀ q∈T,q=b→False:=fun q I ag=>(g q I).elim (fun k=>d q k ag) fun k=>by omega
theorem hh {T U:List Nat} {n:Nat} (g:∀ q∈T,q∈S∨n≤q) (d:∀ q∈S,q∈U→False) (u:∀ q∈U,q<m) (h:m≤n:=by omega):∀ q∈T,q∈U→False:=fun q I ag=>(g q I).elim (fun k=>d q k ag) fun k=>by have:=u q ag;omega
theorem bl {b:Nat} (d:∀ q∈S,q=b→False):∀ q∈S,q∈ [b]→False:=fun q I h=>d q I (aYf.1 h)
theorem bM {b:Nat} (h:∀ q∈S,a≤q∧q<b):∀ q∈S,q<b:=fun q I=>(h q I).2
theorem dx {b:Nat} (h:∀ q∈S,a≤q∧q<b):∀ q∈S,a≤q:=fun q I=>(h q I).1
section
variable {P:Program} {n:Nat} {ops:Array Oper} {Q:Exit→Act→World→Prop} {E:List (Nat×Value)} {w w' w0:World} {v:Value} {ty:TypeId} {pos:String} {af:Array Edge} {x y:Operand} {rest:List Oper} {d i j:Nat} {bY:List Nat} {aS:Nat→Nat} {op:Op} {q b:Bool} {f:FuncId} {xs:Array Operand} {ts:Array TypeId} {args:List Value} {t:TypeId}
theorem bh (ag:td ops E j=some (.bool b)) (hr:(b == q)=true→c9 P E ⟨some d,op,ty,pos,af,some (j,q)⟩ w v w) (h:cg P n ops Q rest ((d,gQ (b == q) v)::E) w) (hd:Nat.blt d n=true:=by rfl):cg P n ops Q (⟨some d,op,ty,pos,af,some (j,q)⟩::rest) E w:=by
 obtain ⟨_,_,κ,τ,au⟩:=Th ag;exact aK3 κ τ au Z hr hd h
theorem apK (ag:td ops E j=some (.bool b)) (hx:(b == q)=true→ev E x=some v) (h:cg P n ops Q rest ((d,gQ (b == q) v)::E) w) (hd:Nat.blt d n=true:=by rfl):cg P n ops Q (⟨some d, .move x,ty,pos,af,some (j,q)⟩::rest) E w:=bh ag (fun hc=>gw (hx hc)) h hd
theorem ec (ag:td ops E j=some (.bool b)) (hx:ev E x=some v) (h:cg P n ops Q rest ((d,gQ (b == q) v)::E) w) (hd:Nat.blt d n=true:=by rfl):cg P n ops Q (⟨some d, .move x,ty,pos,af,some (j,q)⟩::rest) E w:=bh ag (fun _=>gw hx) h hd
theorem ba (ag:td ops E j=some (.bool b)) (h:cg P n ops Q rest ((d,gQ (b == q) undef)::E) w) (I:(b == q)=false:=by rfl) (hd:Nat.blt d n=true:=by rfl):cg P n ops Q (⟨some d,op,ty,pos,af,some (j,q)⟩::rest) E w:=bh ag (fun hc=>by rw [I] at hc;cases hc) h hd
theorem cM (hf:Enters P f) (he:hL E xs.toList=some args) (h:Calls P f args.toArray w fun e w'=>e= .returned v∧Ext w w') (k:∀ w',Ext w w'→cg P n ops Q rest ((d,v)::E) w') (hd:Nat.blt d n=true:=by rfl):cg P n ops Q (⟨some d, .call {callee:= .value (.func f),args:=xs,argTypes:=ts},ty,pos,af,none⟩::rest) E w :=
 ca hf he hd (h.mono fun e w' g=>⟨v,g.1,k w' g.2⟩)
theorem sB (ag:td ops E j=some (.bool b)) (hf:Enters P f) (he:(b == q)=true→hL E xs.toList=some args) (hr:(b == q)=true→Calls P f args.toArray w fun e w'=>e= .returned v∧Ext w w') (h:∀ w',Ext w w'→cg P n ops Q rest ((d,gQ (b == q) v)::E) w') (hd:Nat.blt d n=true:=by rfl):cg P n ops Q (⟨some d, .call {callee:= .value (.func f),args:=xs,argTypes:=ts},ty,pos,af,some (j,q)⟩::rest) E w:=by
 obtain ⟨_,_,κ,τ,au⟩:=Th ag;exact aK2 κ τ au Z hf he hr hd h
theorem dL (hi:ops[i]? =some ⟨some d,op,ty,pos,af,some (j,q)⟩) (ag:td ops E j=some (.bool b)) (hr:(b == q)=true→∀ w,Ext w0 w→c9 P E ⟨some d,op,ty,pos,af,some (j,q)⟩ w v w) (h:gI P n ops Q aS bY ((d,gQ (b == q) v)::E) w0) (ak:aS i=0:=by rfl) (hd:Nat.blt d n=true:=by rfl):gI P n ops Q aS (i::bY) E w0:=by
 obtain ⟨_,_,κ,τ,au⟩:=Th ag;exact azA hi ak κ τ au Z hr hd h
theorem b0 (hi:ops[i]? =some ⟨some d,op,ty,pos,af,some (j,q)⟩) (ag:td ops E j=some (.bool b)) (hr:(b == q)=true→∀ w,c9 P E ⟨some d,op,ty,pos,af,some (j,q)⟩ w v w) (h:gI P n ops Q aS bY ((d,gQ (b == q) v)::E) w0) (ak:aS i=1:=by rfl) (hd:Nat.blt d n=true:=by rfl):gI P n ops Q aS (i::bY) E w0:=by
 obtain ⟨_,_,κ,τ,au⟩:=Th ag;exact azB hi ak κ τ au Z hr hd h
theorem aQQ (hi:ops[i]? =some ⟨some d, .move x,ty,pos,af,some (j,q)⟩) (ag:td ops E j=some (.bool b)) (hx:(b == q)=true→ev E x=some v) (h:gI P n ops Q aS bY ((d,gQ (b == q) v)::E) w0) (ak:aS i=1:=by rfl) (hd:Nat.blt d n=true:=by rfl):gI P n ops Q aS (i::bY) E w0:=b0 hi ag (fun hc _=>gw (hx hc)) h ak hd
theorem fy (hi:ops[i]? =some ⟨some d, .move x,ty,pos,af,some (j,q)⟩) (ag:td ops E j=some (.bool b)) (hx:ev E x=some v) (h:gI P n ops Q aS bY ((d,gQ (b == q) v)::E) w0) (ak:aS i=1:=by rfl) (hd:Nat.blt d n=true:=by rfl):gI P n ops Q aS (i::bY) E w0:=b0 hi ag (fun _ _=>gw hx) h ak hd
theorem c0 (hi:ops[i]? =some ⟨some d,op,ty,pos,af,some (j,q)⟩) (ag:td ops E j=some (.bool b)) (h:gI P n ops Q aS bY ((d,gQ (b == q) undef)::E) w0) (I:(b == q)=false:=by rfl) (ak:aS i=1:=by rfl) (hd:Nat.blt d n=true:=by rfl):gI P n ops Q aS (i::bY) E w0:=b0 hi ag (fun hc=>by rw [I] at hc;cases hc) h ak hd
theorem jh (hi:ops[i]? =some ⟨some d,op,ty,pos,af,some (j,q)⟩) (ag:td ops E j=some (.bool b)) (h:gI P n ops Q aS bY ((d,gQ (b == q) undef)::E) w0) (I:(b == q)=false:=by rfl) (ak:aS i=0:=by rfl) (hd:Nat.blt d n=true:=by rfl):gI P n ops Q aS (i::bY) E w0:=dL hi ag (fun hc=>by rw [I] at hc;cases hc) h ak hd
theorem a1 (hi:ops[i]? =some ⟨some d, .move x,ty,pos,af,none⟩) (hx:ev E x=some v) (h:gI P n ops Q aS bY ((d,v)::E) w0) (ak:aS i=1:=by rfl) (hd:Nat.blt d n=true:=by rfl):gI P n ops Q aS (i::bY) E w0:=r9 hi ak (fun _=>gw hx) hd h
theorem cO (mz:List (Nat×Nat)) (bY:List Nat) (h:gI P n ops Q (oO mz) bY E w) (hm:P.follows .mixedOrders=true:=by kernel_rfl) (bg:(Region.noSelect ops && (bY.length == ops.size) && lh ops (oO mz) bY (Array.replicate ops.size false))=true:=by kernel_rfl):W P n (.region id ops true) Q E w:=rd mz bY hm bg h
theorem cF {c:Nat} (hx:ev E x=some (.pointer (some ⟨c,0,none⟩))) (aE:ev E y=some v) (bg:aM w c cur e (0,0)) (hc:v.cells=cs.toArray) (hs:eS P t cs.length) (κ:cs.all (·.oneCell')=true) (ah:Nat.beq cs.length cur.length=true)
  (h:∀ w1,Mod [c] w w1→aM w1 c cs e (0,0)→cg P n ops Q rest E w1):cg P n ops Q (⟨none, .store t x y,ty,pos,af,none⟩::rest) E w :=
 st (new:=cs) hx aE bg hc hs κ (by rw [aY4,bau ah];exact Nat.ble_eq_true_of_le (aYg _)) (by rw [aY4,bau ah,List.take_zero,List.drop_length,aZy,aYP]) h
theorem bk {c:Nat} (hx:ev E x=some (.pointer (some ⟨c,o,none⟩))) (bg:aM w c cs e (0,0)) (ha:eP P t false) (hv:cs[o]? =some v) (h:cg P n ops Q rest ((d,v)::E) w) (hd:Nat.blt d n=true:=by rfl):cg P n ops Q (⟨some d, .load t x,ty,pos,af,none⟩::rest) E w:=hW (ax hx (bg.one ha hv)) hd h
theorem cf {c:Nat} (hi:ops[i]? =some ⟨some d, .load t x,ty,pos,af,none⟩) (hx:ev E x=some (.pointer (some ⟨c,o,none⟩))) (bg:aM w0 c cs e (0,0)) (ha:eP P t false) (hv:cs[o]? =some v) (h:gI P n ops Q aS bY ((d,v)::E) w0) (ak:aS i=0:=by rfl) (hd:Nat.blt d n=true:=by rfl):gI P n ops Q aS (i::bY) E w0:=ZB hi ak (fun _ x=>ax hx ((bg.later x).one ha hv)) hd h
theorem dU {p c:Nat} (hx:ev E x=some (.pointer (some ⟨c,p,none⟩))) (aE:ev E y=some v) (bg:aM w c cur e (0,0)) (hc:v.cells= [v].toArray) (hs:eS P t 1) (κ:v.oneCell'=true) (ah:Nat.ble (p+1) cur.length=true)
  (h:∀ w1,Mod [c] w w1→aM w1 c (cur.set p v) e (0,0)→cg P n ops Q rest E w1):cg P n ops Q (⟨none, .store t x y,ty,pos,af,none⟩::rest) E w :=
 st (new:=cur.set p v) hx aE bg hc hs (by simp [κ]) ah (by rw [baS,aYq (show p<cur.length from aZ4 ah)];simp) h
end
section
variable {P:Program} {n:Nat} {ops:Array Oper} {Q:Exit→Act→World→Prop} {E:List (Nat×Value)} {w:World} {v:Value} {ty:TypeId} {pos:String} {af:Array Edge} {x y:Operand} {rest:List Oper} {d k:Nat} {t u:TypeId} {fT:IntKind} {i j:Int} {c:Code}
def amN:List (Nat×Value)→Option (Nat×Value)
 | []=>none
 | [a]=>some a
 | _::b::l=>amN (b::l)
def O':List (Nat×Value)→List (Nat×Value)
 | []=> []
 | [_]=> []
 | a::b::l=>a::O' (b::l)
theorem eO:∀ {cW:List (Nat×Value)},(O' cW).map (fun p=>look E p.1)=(O' cW).map (fun p=>some p.2)→amN cW=some (k, .int fT j)→look E k=some (.int fT i)→(_:i=j:=by first | omega | rfl | (simp<;>omega))→Sub cW E
 | [],_,_,_,_=>Sub.nil
 | [(a,b)],_,ah,τ,e=>by
  cases ah;exact Sub.cons (FM τ e) Sub.nil
 | (a,b)::r::l,h,ah,τ,e =>
  have dh:look E a::(O' (r::l)).map (fun p=>look E p.1)=some b::(O' (r::l)).map (fun p=>some p.2):=h
  Sub.cons (bbi dh).1 (eO (bbi dh).2 ah τ e)
theorem gx (hx:ev E x=some (.int .i64 i)) (aE:ev E y=some (.int .i64 j)) (h:cg P n ops Q rest ((d, .int .i64 (i+j))::E) w) (hr: -9223372036854775808≤i+j∧i+j≤9223372036854775807:=by omega) (hd:Nat.blt d n=true:=by rfl):cg P n ops Q (⟨some d, .binOp .add t x y u,ty,pos,af,none⟩::rest) E w:=hW (bad hx aE (pk hr)) hd h
theorem eM {e:Nat} {z:Operand} {aKs:TypeId} {pos':String} {aug:Array Edge} (hx:ev E x=some (.int .i64 i)) (aE:ev E y=some (.int .i64 j)) (hm:ev ((d, .int .i64 (i+j))::E) z=some v) (h:N n Q ((e,v)::(d, .int .i64 (i+j))::E) w) (hr: -9223372036854775808≤i+j∧i+j≤9223372036854775807:=by omega) (hd:Nat.blt d n=true:=by rfl) (he:Nat.blt e n=true:=by rfl):N n (n4 P (.region id [⟨some d, .binOp .add t x y u,ty,pos,af,none⟩,⟨some e, .move z,aKs,pos',aug,none⟩].toArray false) Q) E w:=aX (rg (gx hx aE (vm hm (nl h) he) hr hd))
theorem bs {l:List Value} (hx:ev E x=some (.tuple l.toArray)) (ak:l[k]? =some v) (h:cg P n ops Q rest ((d,v)::E) w) (hd:Nat.blt d n=true:=by rfl):cg P n ops Q (⟨some d, .extract x k,ty,pos,af,none⟩::rest) E w:=hW (ex hx ak) hd h
theorem dR (hx:ev E x=some (.int fT i)) (aE:ev E y=some (.int fT j)) (h:cg P n ops Q rest ((d, .bool (decide (i<j)))::E) w) (hd:Nat.blt d n=true:=by rfl):cg P n ops Q (⟨some d, .binOp .lss t x y u,ty,pos,af,none⟩::rest) E w:=hW (blt hx aE) hd h
theorem cS (hx:ev E x=some (.int fT i)) (aE:ev E y=some (.int fT j)) (h:cg P n ops Q rest ((d, .bool (i != j))::E) w) (hd:Nat.blt d n=true:=by rfl):cg P n ops Q (⟨some d, .binOp .neq t x y u,ty,pos,af,none⟩::rest) E w:=hW (bne hx aE) hd h
theorem aJ (hx:ev E x=some v) (h:W P n c Q ((d,v)::E) w) (hd:Nat.blt d n=true:=by rfl):cg P n ops (n4 P c Q) [⟨some d, .assign x,ty,pos,af,none⟩] E w:=va hx (aC h) hd
theorem sk (h:T n Q E w):cg P n ops (n4 P .ret Q) [] E w:=aC (rt h)
theorem aY (hx:ev E x=some v) (h:T n Q ((d,v)::E) w) (hd:Nat.blt d n=true:=by rfl):cg P n ops (n4 P .ret Q) [⟨some d, .assign x,ty,pos,af,none⟩] E w:=va hx (sk h) hd
theorem aB (hx:ev E x=some v) (h:cg P n (⟨some d, .move x,ty,pos,af,none⟩::l).toArray (n4 P c Q) l ((d,v)::E) w) (hd:Nat.blt d n=true:=by rfl):W P n (.seq (.region id (⟨some d, .move x,ty,pos,af,none⟩::l).toArray false) c) Q E w:=aw (vm hx h hd)
theorem b_ {fn:Func} {R:Ending→World→Prop} (hf:fn.results.toList= [.tmp k]) (h:look E k=some v) (hR:R (.returned (tV [v])) w):T n (bodyPost P fn R) E w:=cz (by rw [hf];exact .tmp h .nil) hR
theorem f_ {fn:Func} {R:Ending→World→Prop} {v':Value} (hf:fn.results.toList= [.tmp d, .tmp k]) (h:look E d=some v) (dh:look E k=some v') (hR:R (.returned (tV [v,v'])) w):T n (bodyPost P fn R) E w:=cz (by rw [hf];exact .tmp h (.tmp dh .nil)) hR
theorem eu {g:Option (Nat×Bool)} {d:Option Nat} {ps:Array (Nat×Operand)} {l:List (Nat×Value)} (he:xr E ps.toList=some l) (hr:(Instr.build t l.toArray).run P w= .ok v w:=by kernel_rfl):c9 P E ⟨d, .build t ps,ty,pos,af,g⟩ w v w:=lH he hr
theorem cu {p:Value→Prop} (h:p v):∃ a,Ending.returned v= .returned a∧p a:=⟨v,rfl,h⟩
theorem lr {b:Nat} {l:List Nat}:∀ q∈ [b],q∈b::l∨m≤q:=fun q I=> .inl (by rw [aYf.1 I];exact aYE)
theorem cN (h: -9223372036854775808≤i∧i≤9223372036854775807:=by (try dsimp only);omega):ea i:=b8.2 h
theorem eJ {kN:Nat→List (Nat×Value)→World→Prop} {m':Nat} {cW:List (Nat×Value)} (h:kN m' cW w) (hm:m'<m:=by omega) (hs:Sub cW E:=by exact eO rfl rfl rfl):N n (Exit.then (MX n kN m) Q) E w:=om m' cW h hm hs
theorem jR (hx:ev E x=some v) (hc:v.cells=cs.toArray) (h:∀ w1 b,Ext w w1→w.heap.size≤b→aM w1 b cs t (0,0)→cg P n ops Q rest ((d, .pointer (some ⟨b,0,none⟩))::E) w1) (hd:Nat.blt d n=true:=by rfl):cg P n ops Q (⟨some d, .box t x,ty,pos,af,none⟩::rest) E w:=avc rfl hx hc hd h
theorem dZ (hx:ev E x=some v) (hc:v.cells=cs.toArray) (h:∀ w1 b,Ext w w1→w.heap.size≤b→aM w1 b cs t (0,0)→cg P n (⟨some d, .box t x,ty,pos,af,none⟩::l).toArray (n4 P c Q) l ((d, .pointer (some ⟨b,0,none⟩))::E) w1) (hd:Nat.blt d n=true:=by rfl):W P n (.seq (.region id (⟨some d, .box t x,ty,pos,af,none⟩::l).toArray false) c) Q E w:=aw (jR hx hc h hd)
theorem cU (bc:mM P t v) (hc:v.cells=cs.toArray) (h:∀ w1 b,Ext w w1→w.heap.size≤b→aM w1 b cs t (0,0)→cg P n ops Q rest ((d, .pointer (some ⟨b,0,none⟩))::E) w1) (hd:Nat.blt d n=true:=by rfl):cg P n ops Q (⟨some d, .alloc t,ty,pos,af,none⟩::rest) E w:=al rfl bc hc hd h
theorem gD (h: -9223372036854775808≤i∧i≤9223372036854775807:=by omega):IntKind.i64.wrap i=i:=pk h
end
theorem jW:Fd prog 55 0 0:=fun _ _ _=>by kernel_rfl
theorem aT:eP prog 3 false:=fun _=>by kernel_rfl
theorem jX:Fd prog 55 1 1:=fun _ _ _=>by kernel_rfl
theorem cA:eP prog 55 true:=fun _=>by kernel_rfl
theorem b3:eS prog 55 2:=fun _=>by kernel_rfl
theorem SW:Enters prog 165 :=b6 func165
theorem SY:Enters prog 166 :=b6 func166
theorem dg:eS prog 3 1:=fun _=>by kernel_rfl
theorem p_:eS prog 304 4:=fun _=>by kernel_rfl
theorem S0:Fd prog 304 2 3:=fun _ _ _=>by kernel_rfl
theorem SE:eP prog 304 true:=fun _=>by kernel_rfl
theorem qR:eP prog 247 false:=fun _=>by kernel_rfl
theorem SI:Enters prog 210 :=b6 func210
theorem SJ:Enters prog 211 :=b6 func211
theorem ahY:eS prog 247 1:=fun _=>by kernel_rfl
theorem ah0:mM prog 304 (.agg #[.int .i64 0, .int .i64 0, .int .i64 0, .int .i64 0]):=fun _=>by kernel_rfl
theorem ax6:Enters prog 215 :=b6 func215
theorem NP:Enters prog 185 :=b6 func185
theorem ayf:Enters prog 192 :=b6 func192
theorem ayi:Enters prog 193 :=b6 func193
theorem ayr:Enters prog 214 :=b6 func214
theorem ah7:Fd prog 249 0 0:=fun _ _ _=>by kernel_rfl
theorem NS:Fd prog 24 0 0:=fun _ _ _=>by kernel_rfl
theorem mo:eP prog 24 true:=fun _=>by kernel_rfl
theorem mq:eS prog 24 3:=fun _=>by kernel_rfl
theorem s6:Enters prog 143 :=b6 func143
theorem ayO:Enters prog 171 :=b6 func171
theorem ayS:mM prog 244 (.agg #[.int .i64 0, .int .i64 0, .int .i64 0, .int .i64 0, .int .i64 0, .int .i64 0, .int .i64 0, .int .i64 0]):=fun _=>by kernel_rfl
theorem ail:eS prog 244 8:=fun _=>by kernel_rfl
theorem ayZ:eP prog 244 true:=fun _=>by kernel_rfl
theorem aip:Fd prog 249 1 3:=fun _ _ _=>by kernel_rfl
theorem aiq:Enters prog 134 :=b6 func134
theorem HL:Fd prog 249 3 6:=fun _ _ _=>by kernel_rfl
theorem ay9:Enters prog 184 :=b6 func184
theorem n_:Enters prog 139 :=b6 func139
theorem p9:Fd prog 249 2 5:=fun _ _ _=>by kernel_rfl
theorem c8:eP prog 22 false:=fun _=>by kernel_rfl
theorem aza:Enters prog 186 :=b6 func186
theorem Y6:Fd prog 304 0 0:=fun _ _ _=>by kernel_rfl
theorem air:Fd prog 304 1 2:=fun _ _ _=>by kernel_rfl
theorem ais:Enters prog 138 :=b6 func138
theorem yZ:mM prog 55 (.agg #[.int .i64 0, .int .i64 0]):=fun _=>by kernel_rfl
theorem Y7:Enters prog 137 :=b6 func137
theorem Y8:Enters prog 169 :=b6 func169
theorem azb:Enters prog 183 :=b6 func183
theorem y0:Fd prog 24 2 2:=fun _ _ _=>by kernel_rfl
theorem ait:Enters prog 168 :=b6 func168
theorem aiu:Enters prog 170 :=b6 func170
theorem aiv:Enters prog 136 :=b6 func136
theorem azc:Enters prog 140 :=b6 func140
theorem azd:Enters prog 182 :=b6 func182
theorem aiw:Enters prog 167 :=b6 func167
theorem SX:Fd prog 57 2 2:=fun _ _ _=>by kernel_rfl
theorem Y9:Enters prog 11 :=b6 func11
theorem Y_:mM prog 61 (.agg #[.int .i64 0, .int .i64 0, .int .i64 0, .int .i64 0]):=fun _=>by kernel_rfl
theorem Y':eS prog 61 4:=fun _=>by kernel_rfl
theorem vT:Fd prog 57 3 3:=fun _ _ _=>by kernel_rfl
theorem HM:Fd prog 57 1 1:=fun _ _ _=>by kernel_rfl
theorem aze:Fd prog 61 1 1:=fun _ _ _=>by kernel_rfl
theorem r7:Fd prog 28 0 0:=fun _ _ _=>by kernel_rfl
theorem azf:Enters prog 135 :=b6 func135
theorem dz:eP prog 28 true:=fun _=>by kernel_rfl
theorem cd:eS prog 28 9:=fun _=>by kernel_rfl
theorem Kk:Enters prog 34 :=b6 func34
theorem ld:Fd prog 28 4 6:=fun _ _ _=>by kernel_rfl
theorem nb:eP prog 26 false:=fun _=>by kernel_rfl
theorem lJ:eS prog 57 7:=fun _=>by kernel_rfl
theorem AW:eP prog 57 true:=fun _=>by kernel_rfl
theorem NW:mM prog 57 (.agg #[.int .i64 0, .int .i64 0, .int .i64 0, .int .i64 0, .int .i64 0, .int .i64 0, .int .i64 0]):=fun _=>by kernel_rfl
theorem Kl:Fd prog 57 0 0:=fun _ _ _=>by kernel_rfl
theorem Za:eS prog 201 2:=fun _=>by kernel_rfl
theorem azg:eP prog 201 true:=fun _=>by kernel_rfl
theorem azh:mM prog 201 (.agg #[.int .i64 0, .int .i64 0]):=fun _=>by kernel_rfl
theorem azi:Fd prog 201 0 0:=fun _ _ _=>by kernel_rfl
theorem SZ:mM prog 3 (.int .i64 0):=fun _=>by kernel_rfl
theorem azj:Fd prog 201 1 1:=fun _ _ _=>by kernel_rfl
theorem Zb:eS prog 4 1:=fun _=>by kernel_rfl
theorem CI:eP prog 4 false:=fun _=>by kernel_rfl
theorem azk:Enters prog 101 :=b6 func101
theorem azl:Fd prog 61 2 2:=fun _ _ _=>by kernel_rfl
theorem nG:mM prog 28 (.agg #[.int .i64 0, .int .i64 0, .slice none 0 0, .slice none 0 0, .slice none 0 0, .slice none 0 0, .slice none 0 0, .int .i64 0, .int .i64 0]):=fun _=>by kernel_rfl
theorem xp:Enters prog 77 :=b6 func77
theorem nH:eS prog 22 1:=fun _=>by kernel_rfl
theorem s8:Fd prog 28 1 3:=fun _ _ _=>by kernel_rfl
theorem xq:eP prog 25 false:=fun _=>by kernel_rfl
theorem vU:Fd prog 28 2 4:=fun _ _ _=>by kernel_rfl
theorem Zc:Enters prog 88 :=b6 func88
theorem Zd:eS prog 25 1:=fun _=>by kernel_rfl
theorem AX:Fd prog 28 3 5:=fun _ _ _=>by kernel_rfl
theorem Ze:Enters prog 89 :=b6 func89
theorem NY:eS prog 26 1:=fun _=>by kernel_rfl
theorem azm:Enters prog 58 :=b6 func58
theorem azn:Enters prog 59 :=b6 func59
theorem S1:Fd prog 57 4 5:=fun _ _ _=>by kernel_rfl
theorem Zf:eS prog 203 3:=fun _=>by kernel_rfl
theorem azo:eP prog 203 true:=fun _=>by kernel_rfl
theorem azp:Fd prog 203 0 0:=fun _ _ _=>by kernel_rfl
theorem Km:eP prog 206 false:=fun _=>by kernel_rfl
theorem azq:Enters prog 103 :=b6 func103
theorem azr:mM prog 206 (.pointer none):=fun _=>by kernel_rfl
theorem axH:eS prog 206 1:=fun _=>by kernel_rfl
theorem axI:Enters prog 102 :=b6 func102
theorem axJ:Fd prog 203 1 1:=fun _ _ _=>by kernel_rfl
theorem axK:Enters prog 104 :=b6 func104
theorem axL:Enters prog 60 :=b6 func60
theorem axM:Enters prog 61 :=b6 func61
theorem AQ:Fd prog 153 1 1:=fun _ _ _=>by kernel_rfl
theorem SF:Enters prog 141 :=b6 func141
theorem SG:Enters prog 142 :=b6 func142
theorem CB:Fd prog 57 5 6:=fun _ _ _=>by kernel_rfl
theorem SH:Fd prog 153 2 2:=fun _ _ _=>by kernel_rfl
theorem oH:Fd prog 151 0 0:=fun _ _ _=>by kernel_rfl
theorem axN:Enters prog 174 :=b6 func174
theorem ahW:Fd prog 153 3 4:=fun _ _ _=>by kernel_rfl
theorem ahX:Fd prog 61 3 3:=fun _ _ _=>by kernel_rfl
theorem HE:Fd prog 28 5 7:=fun _ _ _=>by kernel_rfl
theorem axO:Enters prog 144 :=b6 func144
theorem axP:Fd prog 61 0 0:=fun _ _ _=>by kernel_rfl
theorem axQ:Fd prog 153 0 0:=fun _ _ _=>by kernel_rfl
theorem NO:eP prog 153 true:=fun _=>by kernel_rfl
theorem HF:eS prog 153 5:=fun _=>by kernel_rfl
theorem axR:Enters prog 105 :=b6 func105
theorem axS:Enters prog 106 :=b6 func106
theorem axT:Enters prog 107 :=b6 func107
theorem axU:Enters prog 62 :=b6 func62
theorem axV:mM prog 151 (.agg #[.int .i64 0, .int .i64 0, .slice none 0 0, .slice none 0 0, .slice none 0 0, .slice none 0 0, .slice none 0 0, .int .i64 0, .int .i64 0]):=fun _=>by kernel_rfl
theorem axW:eS prog 151 9:=fun _=>by kernel_rfl
theorem axX:mM prog 153 (.agg #[.int .i64 0, .int .i64 0, .int .i64 0, .int .i64 0, .int .i64 0]):=fun _=>by kernel_rfl
theorem axY:Enters prog 63 :=b6 func63
theorem YO:Fd prog 24 1 1:=fun _ _ _=>by kernel_rfl
theorem YP:Enters prog 48 :=b6 func48
theorem axZ:Enters prog 46 :=b6 func46
theorem ax0:Enters prog 47 :=b6 func47
theorem ax1:Enters prog 49 :=b6 func49
theorem HG:Fd prog 28 6 8:=fun _ _ _=>by kernel_rfl
theorem SK:mM prog 69 (.agg #[.int .i64 0, .int .i64 0, .int .i64 0, .int .i64 0, .int .i64 0, .int .i64 0]):=fun _=>by kernel_rfl
theorem qT:Fd prog 69 1 1:=fun _ _ _=>by kernel_rfl
theorem E0:Fd prog 69 2 2:=fun _ _ _=>by kernel_rfl
theorem E1:Fd prog 69 3 3:=fun _ _ _=>by kernel_rfl
theorem E2:Fd prog 69 4 5:=fun _ _ _=>by kernel_rfl
theorem ky:eP prog 69 true:=fun _=>by kernel_rfl
theorem gm:eS prog 69 6:=fun _=>by kernel_rfl
theorem vR:Fd prog 69 0 0:=fun _ _ _=>by kernel_rfl
theorem Kf:Enters prog 130 :=b6 func130
theorem ax2:Enters prog 131 :=b6 func131
theorem YQ:Enters prog 94 :=b6 func94
theorem YR:Fd prog 143 0 0:=fun _ _ _=>by kernel_rfl
theorem ahZ:eP prog 101 false:=fun _=>by kernel_rfl
theorem ax3:eS prog 101 1:=fun _=>by kernel_rfl
theorem YS:Fd prog 143 1 1:=fun _ _ _=>by kernel_rfl
theorem ah1:eP prog 102 false:=fun _=>by kernel_rfl
theorem ax4:eS prog 102 1:=fun _=>by kernel_rfl
theorem HH:Fd prog 143 2 2:=fun _ _ _=>by kernel_rfl
theorem SL:eP prog 103 false:=fun _=>by kernel_rfl
theorem YT:eS prog 103 1:=fun _=>by kernel_rfl
theorem YU:Enters prog 56 :=b6 func56
theorem ax5:mM prog 143 (.agg #[.slice none 0 0, .slice none 0 0, .slice none 0 0]):=fun _=>by kernel_rfl
theorem ah2:Enters prog 57 :=b6 func57
theorem Kg:mM prog 51 (.agg #[.slice none 0 0, .slice none 0 0, .slice none 0 0]):=fun _=>by kernel_rfl
theorem YV:Enters prog 30 :=b6 func30
theorem CC:eS prog 51 3:=fun _=>by kernel_rfl
theorem SM:eP prog 51 true:=fun _=>by kernel_rfl
theorem ah3:Enters prog 31 :=b6 func31
theorem ax7:Fd prog 51 0 0:=fun _ _ _=>by kernel_rfl
theorem ax8:Enters prog 32 :=b6 func32
theorem ax9:Fd prog 51 1 1:=fun _ _ _=>by kernel_rfl
theorem aya:Enters prog 33 :=b6 func33
theorem ayb:Fd prog 51 2 2:=fun _ _ _=>by kernel_rfl
theorem ayc:eS prog 49 1:=fun _=>by kernel_rfl
theorem ah4:Enters prog 123 :=b6 func123
theorem ayd:Enters prog 124 :=b6 func124
theorem SN:Enters prog 86 :=b6 func86
theorem aye:Enters prog 87 :=b6 func87
theorem ah5:Enters prog 50 :=b6 func50
theorem CD:eS prog 48 1:=fun _=>by kernel_rfl
theorem qU:eP prog 48 false:=fun _=>by kernel_rfl
theorem YW:Enters prog 9 :=b6 func9
theorem Kh:Fd prog 32 0 0:=fun _ _ _=>by kernel_rfl
theorem vS:Fd prog 32 1 9:=fun _ _ _=>by kernel_rfl
theorem AR:eP prog 30 false:=fun _=>by kernel_rfl
theorem HI:Enters prog 25 :=b6 func25
theorem AS:eP prog 32 true:=fun _=>by kernel_rfl
theorem qV:eS prog 32 10:=fun _=>by kernel_rfl
theorem ah6:Enters prog 45 :=b6 func45
theorem ayg:Enters prog 180 :=b6 func180
theorem l0:eS prog 163 3:=fun _=>by kernel_rfl
theorem E3:eP prog 163 true:=fun _=>by kernel_rfl
theorem ayh:Enters prog 159 :=b6 func159
theorem Ki:Fd prog 163 1 1:=fun _ _ _=>by kernel_rfl
theorem NQ:Fd prog 163 2 2:=fun _ _ _=>by kernel_rfl
theorem s5:Fd prog 163 0 0:=fun _ _ _=>by kernel_rfl
theorem ayj:Enters prog 161 :=b6 func161
theorem ayk:Enters prog 160 :=b6 func160
theorem ayl:Enters prog 127 :=b6 func127
theorem aym:Enters prog 126 :=b6 func126
theorem SP:mM prog 163 (.agg #[.slice none 0 0, .int .i64 0, .bool false]):=fun _=>by kernel_rfl
theorem ayn:Enters prog 128 :=b6 func128
theorem ayo:Enters prog 119 :=b6 func119
theorem ayp:Enters prog 83 :=b6 func83
theorem ayq:Enters prog 84 :=b6 func84
theorem ays:mM prog 48 (.slice none 0 0):=fun _=>by kernel_rfl
theorem ayt:Enters prog 85 :=b6 func85
theorem ayu:Enters prog 122 :=b6 func122
theorem YX:mM prog 32 (.agg #[.int .i64 0, .int .i64 0, .slice none 0 0, .slice none 0 0, .slice none 0 0, .slice none 0 0, .slice none 0 0, .int .i64 0, .int .i64 0, .slice none 0 0]):=fun _=>by kernel_rfl
theorem NR:Enters prog 90 :=b6 func90
theorem YY:eS prog 30 1:=fun _=>by kernel_rfl
theorem SQ:Enters prog 92 :=b6 func92
theorem YZ:Enters prog 95 :=b6 func95
theorem xm:eS prog 35 1:=fun _=>by kernel_rfl
theorem r4:eP prog 35 false:=fun _=>by kernel_rfl
theorem ah8:Enters prog 162 :=b6 func162
theorem xn:Fd prog 38 0 0:=fun _ _ _=>by kernel_rfl
theorem xo:Fd prog 38 1 1:=fun _ _ _=>by kernel_rfl
theorem AT:eP prog 36 false:=fun _=>by kernel_rfl
theorem ayv:Enters prog 164 :=b6 func164
theorem ayw:Enters prog 163 :=b6 func163
theorem p7:eP prog 38 true:=fun _=>by kernel_rfl
theorem lI:eS prog 38 2:=fun _=>by kernel_rfl
theorem Y0:Enters prog 129 :=b6 func129
theorem SR:mM prog 38 (.agg #[.int .u32 0, .slice none 0 0]):=fun _=>by kernel_rfl
theorem ah9:Enters prog 93 :=b6 func93
theorem Y1:Enters prog 132 :=b6 func132
theorem aia:Enters prog 91 :=b6 func91
theorem aib:eS prog 36 1:=fun _=>by kernel_rfl
theorem ayx:Enters prog 133 :=b6 func133
theorem CE:mM prog 40 (.agg #[.int .i64 0, .int .i64 0, .slice none 0 0, .slice none 0 0, .slice none 0 0, .slice none 0 0, .slice none 0 0, .int .i64 0, .int .i64 0, .slice none 0 0, .slice none 0 0, .int .u32 0, .slice none 0 0, .int .i64 0]):=fun _=>by kernel_rfl
theorem CF:Fd prog 40 0 0:=fun _ _ _=>by kernel_rfl
theorem uK:Fd prog 40 1 10:=fun _ _ _=>by kernel_rfl
theorem AU:eP prog 34 false:=fun _=>by kernel_rfl
theorem SS:eS prog 34 1:=fun _=>by kernel_rfl
theorem E4:Fd prog 40 2 11:=fun _ _ _=>by kernel_rfl
theorem jz:eP prog 40 true:=fun _=>by kernel_rfl
theorem fe:eS prog 40 14:=fun _=>by kernel_rfl
theorem aic:Fd prog 40 3 13:=fun _ _ _=>by kernel_rfl
theorem aid:Enters prog 26 :=b6 func26
theorem ayy:Enters prog 96 :=b6 func96
theorem ayz:Enters prog 97 :=b6 func97
theorem ayA:Enters prog 98 :=b6 func98
theorem ayB:Enters prog 99 :=b6 func99
theorem ayC:Enters prog 100 :=b6 func100
theorem ayD:Enters prog 51 :=b6 func51
theorem ayE:Enters prog 52 :=b6 func52
theorem aie:Fd prog 71 0 0:=fun _ _ _=>by kernel_rfl
theorem ayF:Fd prog 71 1 1:=fun _ _ _=>by kernel_rfl
theorem ayG:Enters prog 53 :=b6 func53
theorem ayH:Enters prog 54 :=b6 func54
theorem ayI:Fd prog 71 2 7:=fun _ _ _=>by kernel_rfl
theorem ayJ:Fd prog 71 3 8:=fun _ _ _=>by kernel_rfl
theorem ayK:Enters prog 55 :=b6 func55
theorem ayL:Enters prog 27 :=b6 func27
theorem E5:eS prog 9 1:=fun _=>by kernel_rfl
theorem HJ:eP prog 9 false:=fun _=>by kernel_rfl
theorem ayM:Enters prog 44 :=b6 func44
theorem aif:Enters prog 28 :=b6 func28
theorem aih:Enters prog 6 :=b6 func6
theorem Y2:Enters prog 29 :=b6 func29
theorem aii:Enters prog 22 :=b6 func22
theorem SU:eS prog 71 9:=fun _=>by kernel_rfl
theorem aij:eP prog 71 true:=fun _=>by kernel_rfl
theorem ayN:mM prog 71 (.agg #[.int .i64 0, .int .i64 0, .int .i64 0, .int .i64 0, .int .i64 0, .int .i64 0, .int .i64 0, .int .i64 0, .int .i64 0]):=fun _=>by kernel_rfl
theorem Kj:Enters prog 78 :=b6 func78
theorem ayP:Enters prog 145 :=b6 func145
theorem ayQ:Enters prog 115 :=b6 func115
theorem ayR:Enters prog 109 :=b6 func109
theorem aik:Enters prog 116 :=b6 func116
theorem Y3:Fd prog 79 0 0:=fun _ _ _=>by kernel_rfl
theorem pb:Fd prog 79 1 1:=fun _ _ _=>by kernel_rfl
theorem kz:eP prog 45 false:=fun _=>by kernel_rfl
theorem uL:Fd prog 79 4 4:=fun _ _ _=>by kernel_rfl
theorem r5:Fd prog 79 5 5:=fun _ _ _=>by kernel_rfl
theorem r6:Fd prog 79 6 6:=fun _ _ _=>by kernel_rfl
theorem s7:Fd prog 79 7 7:=fun _ _ _=>by kernel_rfl
theorem Y4:Enters prog 19 :=b6 func19
theorem CG:Fd prog 79 2 2:=fun _ _ _=>by kernel_rfl
theorem AV:Fd prog 79 3 3:=fun _ _ _=>by kernel_rfl
theorem CH:Enters prog 79 :=b6 func79
theorem ayT:Enters prog 117 :=b6 func117
theorem ayU:Enters prog 118 :=b6 func118
theorem NT:eS prog 45 1:=fun _=>by kernel_rfl
theorem ayV:Fd prog 85 0 0:=fun _ _ _=>by kernel_rfl
theorem ayW:Fd prog 85 3 3:=fun _ _ _=>by kernel_rfl
theorem ayX:Enters prog 80 :=b6 func80
theorem NU:Fd prog 85 1 1:=fun _ _ _=>by kernel_rfl
theorem NV:Enters prog 81 :=b6 func81
theorem Y5:Fd prog 85 2 2:=fun _ _ _=>by kernel_rfl
theorem ayY:Enters prog 82 :=b6 func82
theorem HK:mM prog 79 (.agg #[.int .i64 0, .slice none 0 0, .int .i64 0, .int .i64 0, .slice none 0 0, .slice none 0 0, .slice none 0 0, .slice none 0 0]):=fun _=>by kernel_rfl
theorem aim:Enters prog 76 :=b6 func76
theorem p8:eP prog 79 true:=fun _=>by kernel_rfl
theorem jY:eS prog 79 8:=fun _=>by kernel_rfl
theorem ain:Enters prog 41 :=b6 func41
theorem ay0:Enters prog 42 :=b6 func42
theorem ay1:eP prog 85 true:=fun _=>by kernel_rfl
theorem ay2:eS prog 85 4:=fun _=>by kernel_rfl
theorem ay3:Enters prog 43 :=b6 func43
theorem ay4:Enters prog 40 :=b6 func40
theorem SV:Enters prog 21 :=b6 func21
theorem aio:Enters prog 7 :=b6 func7
theorem ay5:Enters prog 8 :=b6 func8
theorem ay6:Enters prog 20 :=b6 func20
theorem ay7:Enters prog 23 :=b6 func23
theorem ay8:Enters prog 24 :=b6 func24
end
end Go.Proofs.YtmeeljmapailnaaGreat
