import Derived.Test.YtifffjhhammeiaaBas
import Derived.Test.YtifffjhhammeiaaProg
import Derived.WideMake
set_option linter.unusedVariables false
set_option linter.unusedSimpArgs false
set_option maxRecDepth 100000
set_option maxHeartbeats 4000000
open Go.RowKit
namespace Go.Proofs.Ytifffjhhammeiaa
open Try
open Try
abbrev Gs:=@List.mem_singleton
abbrev Ha:=@Nat.lt_of_lt_of_le
abbrev Hb:=@List.getD_eq_getElem?_getD
abbrev Hi:=@Nat.eq_of_beq_eq_true
abbrev Hx:=@Int.toNat_natCast
abbrev HJ:=@Array.getD_eq_getD_getElem?
abbrev HT:=@Nat.ne_of_beq_eq_false
abbrev HX:=@Nat.le_of_ble_eq_true
abbrev H3:=@of_decide_eq_false
abbrev H8:=@Array.ext'
abbrev H_:=@not_true_eq_false

def iA (n:Int):Prop:=(Lit.int .i64 n).wf=true
def l':γ Int:=γ.flat 1 (fun n=> [.int .i64 n]) iA (fun _ u=>∃ n:Int,u= .int .i64 n) (fun _=>rfl) (by intro a u hu;simp at hu;subst hu;rfl) (by
 intro a j u hu;cases j with
 | zero=>simp at hu;exact ⟨a,hu.symm⟩
 | succ j=>simp at hu)
def ED:γ Bool:=γ.flat 1 (fun n=> [.bool n]) (fun _=>True) (fun _ u=>∃ n:Bool,u= .bool n) (fun _=>rfl) (by intro a u hu;simp at hu;subst hu;rfl) (by
 intro a j u hu;cases j with
 | zero=>simp at hu;exact ⟨a,hu.symm⟩
 | succ j=>simp at hu)
def EE:γ ByteArray:=γ.uG 1 (fun n=> [.string n]) (fun s=>s.size≤140737488351232) (fun _ u=>∃ n:ByteArray,u= .string n∧n.size≤140737488351232) (fun _=>rfl) (by intro a u hu;simp at hu;subst hu;rfl) (by
 intro a ok j u hu;cases j with
 | zero=>simp at hu;exact ⟨a,hu.symm,ok⟩
 | succ j=>simp at hu)
section
variable {by_:Nat} {w:World} {A:Option Addr} {c:Nat}
end
open Try
open Try

abbrev Env:=List (Nat×Value)
def look:List (Nat×Value)→Nat→Option Value
 | [],_=>none
 | (k,v)::r,t=>match Nat.beq k t with | true=>some v | false=>look r t
structure bn (n:Nat) (E:List (Nat×Value)) (a:Act):Prop where
 d:a.defers= []
 s:a.tmps.size=n
 g:∀ t v,look E t=some v→a.tmps[t]? =some v
def ev (E:List (Nat×Value)):Operand→Option Value
 | .tmp t=>look E t
 | .const v=>some v
 | .global g=>some (.pointer (some ⟨g,0,none⟩))
 | .func f=>some (.func (.func f) #[] #[])
def cU (E:List (Nat×Value)):List Operand→Option (List Value)
 | []=>some []
 | x::r=>match ev E x with
  | some v=>match cU E r with
   | some l=>some (v::l)
   | none=>none
  | none=>none
section
variable {P:Program} {n:Nat} {E bl:List (Nat×Value)} {a:Act} {w w' ba:World} {Q:Exit→Act→World→Prop} {ops:Array Oper} {v:Value}
theorem bn.ev {x:Operand} (h:bn n E a) (hx:ev E x=some v):a.eval x=v:=by
 cases x with
 | tmp t=>have:=h.g t v hx;simp [Act.eval,this]
 | const u=>exact Gn hx
 | global g=>exact Gn hx
 | func f=>exact Gn hx
theorem bn.cU (h:bn n E a):∀ {l:List Operand} {vs:List Value},cU E l=some vs→l.map a.eval=vs
 | [],_,e=>by simp only [Proofs.Ytifffjhhammeiaa.cU] at e;exact Gn e
 | x::r,vs,e=>by
  simp only [Proofs.Ytifffjhhammeiaa.cU] at e;cases hx:Proofs.Ytifffjhhammeiaa.ev E x with
  | none=>rw [hx] at e;cases e
  | some v =>
   rw [hx] at e;simp only at e;cases hr:Proofs.Ytifffjhhammeiaa.cU E r with
   | none=>rw [hr] at e;cases e
   | some l =>
    rw [hr] at e;simp only at e;obtain rfl:=Gn e;rw [G6,h.ev hx,bn.cU h hr]
theorem bn.put {d:Nat} (h:bn n E a) (hd:Nat.blt d n=true) (v:Value):bn n ((d,v)::E) (a.put (some d) v):=by
 rw [HL] at hd;refine ⟨h.d,by simp [Act.put,h.s],fun t u hu=> ?_⟩;simp only [look] at hu;cases ak:Nat.beq d t with
 | true =>
  rw [ak] at hu;obtain rfl:d=t:=Hi ak;obtain rfl:=Gn hu;simp [Act.put,h.s,hd]
 | false =>
  rw [ak] at hu;have lq:d≠t:=HT ak;simp only [Act.put];rw [Hz lq];exact h.g t u hu
theorem bn.none (h:bn n E a) (v:Value):bn n E (a.put none v):=h
def Sub (bl E:List (Nat×Value)):Prop:=∀ t v,look bl t=some v→look E t=some v
theorem Sub.nil:Sub [] E:=fun t v h=>by simp [look] at h
theorem Sub.cons {k:Nat} (h:look E k=some v) (hs:Sub bl E):Sub ((k,v)::bl) E:=fun t u hu=>by
 simp only [look] at hu;cases ak:Nat.beq k t with
 | true=>rw [ak] at hu;obtain rfl:k=t:=Hi ak;obtain rfl:=Gn hu;exact h
 | false=>rw [ak] at hu;exact hs t u hu
theorem bn.sub (h:bn n E a) (hs:Sub bl E):bn n bl a:=⟨h.d,h.s,fun t v hv=>h.g t v (hs t v hv)⟩
def W (P:Program) (n:Nat) (c:Code) (Q:Exit→Act→World→Prop) (E:List (Nat×Value)) (w:World):Prop:=∀ a,bn n E a→c.wp P Q a w
def N (n:Nat) (Q:Exit→Act→World→Prop) (E:List (Nat×Value)) (w:World):Prop:=∀ a,bn n E a→Q .normal a w
def X (n:Nat) (Q:Exit→Act→World→Prop) (id:Nat) (E:List (Nat×Value)) (w:World):Prop:=∀ a,bn n E a→Q (.exit id) a w
def T (n:Nat) (Q:Exit→Act→World→Prop) (E:List (Nat×Value)) (w:World):Prop:=∀ a,bn n E a→Q .ret a w
def bz (P:Program) (n:Nat) (ops:Array Oper) (Q:Exit→Act→World→Prop) (l:List Oper) (E:List (Nat×Value)) (w:World):Prop:=∀ a,bn n E a→wpList P ops Q l a w
abbrev fh (P:Program) (y:Code) (Q:Exit→Act→World→Prop):Exit→Act→World→Prop:=Exit.then (fun a w=>y.wp P Q a w) Q
theorem aC {x y:Code} (h:W P n x (fh P y Q) E w):W P n (.seq x y) Q E w:=fun a ha=>wp_seq (h a ha)
theorem iC (h:N n Q E w):W P n .skip Q E w:=fun a ha=>wp_skip (h a ha)
theorem rt (h:T n Q E w):W P n .ret Q E w:=fun a ha=>wp_ret (h a ha)
theorem bY {id:Nat} (h:X n Q id E w):W P n (.exit id) Q E w:=fun a ha=>wp_exit (h a ha)
theorem bh {id:Nat} {c:Code} (h:W P n c (Exit.inBlock id Q) E w):W P n (.block id c) Q E w:=fun a ha=>wp_block (h a ha)
theorem rg {id:Nat} {l:List Oper} (h:bz P n l.toArray Q l E w):W P n (.region id l.toArray false) Q E w:=fun a ha=>wp_region_lit (h a ha)
theorem ud {c:Operand} {x y:Code} (hc:ev E c=some (.bool true)) (h:W P n x Q E w):W P n (.cond c x y) Q E w:=fun a ha=>wp_cond_true (ha.ev hc) (h a ha)
theorem ub {c:Operand} {x y:Code} (b:Bool) (hc:ev E c=some (.bool b)) (af:b=true→W P n x Q E w) (ai:b=false→W P n y Q E w):W P n (.cond c x y) Q E w :=
 fun a ha=>wp_cond_split (ha.ev hc) (fun h=>af h a ha) (fun h=>ai h a ha)
theorem bK {c:Operand} {x y:Code} {b:Bool} (hc:ev E c=some (.bool b)) (af:b=true→W P n x Q E w) (ai:b=false→W P n y Q E w):W P n (.cond c x y) Q E w:=ub b hc af ai
theorem nl (h:N n Q E w):bz P n ops Q [] E w:=h
theorem aP {y:Code} (h:W P n y Q E w):N n (fh P y Q) E w:=h
theorem bk {id:Nat} (h:N n Q E w):N n (Exit.inBlock id Q) E w:=h
theorem bI {y:Code} {id:Nat} (h:X n Q id E w):X n (fh P y Q) id E w:=h
theorem cc {K:Act→World→Prop} {id:Nat} (h:X n Q id E w):X n (Exit.then K Q) id E w:=h
theorem bX {id:Nat} (h:N n Q E w):X n (Exit.inBlock id Q) id E w:=fun a ha=>by simp only [Exit.inBlock,HS];exact h a ha
theorem gi {id jz:Nat} (lq:Nat.beq jz id=false) (h:X n Q jz E w):X n (Exit.inBlock id Q) jz E w:=fun a ha=>by simp only [Exit.inBlock,Hg (HT lq)];exact h a ha
theorem di {y:Code} (h:T n Q E w):T n (fh P y Q) E w:=h
theorem eN {K:Act→World→Prop} (h:T n Q E w):T n (Exit.then K Q) E w:=h
theorem b' {id:Nat} (h:T n Q E w):T n (Exit.inBlock id Q) E w:=h
def hX:Nat→List Value→List (Nat×Value)
 | _, []=> []
 | i,v::r=>(i,v)::hX (i+1) r
theorem od:∀ (l:List Value) (i t:Nat) (v:Value),look (hX i l) t=some v→∃ j,t=i+j∧l[j]? =some v
 | [],_,_,_,h=>by simp [hX,look] at h
 | u::r,i,t,v,h=>by
  simp only [hX,look] at h;cases ak:Nat.beq i t with
  | true=>rw [ak] at h;exact ⟨0,by have:=Hi ak;omega,by simpa using h⟩
  | false =>
   rw [ak] at h;obtain ⟨j,e,az⟩:=od r (i+1) t v h;exact ⟨j+1,by omega,by simpa using az⟩
theorem cI {f:FuncId} {fn:Func} {c:Code} {l:List Value} {R:Ending→World→Prop} (hf:P.funcs[f]? =some fn) (ak:fn.body=some c) (hn:fn.ntmps=n) (aE:Nat.ble l.length n=true)
  (h:W P n c (bodyPost P fn R) (hX 0 l) w):Calls P f l.toArray w R:=by
 refine calls_of_wp hf ak (h _ ⟨Z, ?_,fun t v hv=> ?_⟩)
 ·have:=HX aE;simp only [Ib,Array.size_replicate,hn,GY];omega
 ·obtain ⟨j,e,az⟩:=od l 0 t v hv;have b1:=(Gq.1 az).1;rw [Array.getElem?_append_left (by simp;omega)];simpa [show t=j by omega] using az
inductive eV (P:Program) (E:List (Nat×Value)) (w:World):List ResultVar→List Value→Prop
 | nil:eV P E w [] []
 | tmp {t:Nat} {v:Value} {r:List ResultVar} {vs:List Value} (h:look E t=some v) (hr:eV P E w r vs):eV P E w (.tmp t::r) (v::vs)
 | cell {t:Nat} {ty:TypeId} {p:Addr} {v:Value} {r:List ResultVar} {vs:List Value} (h:look E t=some (.pointer (some p))) (aE:(loadVar ty p).run P w= .ok v w) (hr:eV P E w r vs):eV P E w (.cell t ty::r) (v::vs)
def iE:List Value→Value
 | [v]=>v
 | vs=> .tuple vs.toArray
theorem eV.run {l:List ResultVar} {vs:List Value} (h:eV P E w l vs) (ha:bn n E a) (f:ResultVar→Sem Value) (f1:∀ t,f (.tmp t)=pure (a.tmps.getD t undef)) (f2:∀ c t,f (.cell c t)=(asAddr (a.tmps.getD c undef)>>= fun p=>loadVar t p)):
  (l.mapM f).run P w= .ok vs w:=by
 induction h with
 | nil=>rfl
 | @tmp t v r vs h hr cq =>
  have ai:a.tmps.getD t undef=v:=by rw [HJ,ha.g _ _ h];rfl
  simp only [List.mapM_cons,Gu,f1,ai,Gv,Gr,cq]
 | @cell t ty p v r vs h aE hr cq =>
  have ai:a.tmps.getD t undef= .pointer (some p):=by rw [HJ,ha.g _ _ h];rfl
  simp only [List.mapM_cons,Gu,f2,ai,asAddr,Gv,Gr,aE,cq]
theorem yG {fn:Func} {vs:List Value} (h:eV P E w fn.results.toList vs) (ha:bn n E a):(results fn a.tmps).run P w= .ok (iE vs) w:=by
 unfold results;rw [Array.mapM_eq_mapM_toList];simp only [Gu,Sem.run_map];rw [h.run ha _ (fun _=>rfl) (fun _ _=>rfl)]
 match vs with
 | []=>rfl
 | [v]=>rfl
 | _::_::_=>simp [iE]
theorem bH {fn:Func} {R:Ending→World→Prop} {vs:List Value} (h:eV P E w fn.results.toList vs) (hR:R (.returned (iE vs)) w):T n (bodyPost P fn R) E w :=
 fun a ha=>⟨ha.d,_,yG h ha,hR⟩
def nG (n:Nat) (cS:Nat→List (Nat×Value)→World→Prop) (m:Nat):Act→World→Prop:=fun a w=>∃ m',m'<m∧∃ bl,cS m' bl w∧bn n bl a
theorem cw {c:Code} (cS:Nat→List (Nat×Value)→World→Prop) (m:Nat) (bl:List (Nat×Value)) (aU:cS m bl w) (hs:Sub bl E)
  (round:∀ m E w,cS m E w→W P n c (Exit.then (nG n cS m) Q) E w):W P n (.loop c) Q E w:=fun a ha=>by
 intro b k cs;have key:∀ m a w,(∃ E,cS m E w∧bn n E a)→∃ e a' w',Q e a' w'∧Arrives P (lone (b.at a (.code c:: .inLoop c::k)) cs w) b k cs e a' w':=by
  intro m;induction m using Nat.strongRecOn with
  | _ m cq =>
   intro a w ⟨E,kE,ha⟩;obtain ⟨e,ao,ba,J,fq⟩:=round m E w kE a ha b (.inLoop c::k) cs;cases e with
   | normal =>
    obtain ⟨m',b1,uQ⟩:=J;obtain ⟨c5,a2,eD,wB,vy⟩:=cq m' b1 ao ba uQ;exact ⟨c5,a2,eD,wB, .of_steps (Steps.trans fq (.one step_inLoop)) vy⟩
   | exit id=>exact ⟨_,ao,ba,J, .pass (x:= .inLoop c) rfl (fun _ _=> .inl (by simp)) fq⟩
   | goto l=>exact ⟨_,ao,ba,J, .pass (x:= .inLoop c) rfl (fun _ _=> .inl (by simp)) fq⟩
   | ret=>exact ⟨_,ao,ba,J, .pass (x:= .inLoop c) rfl (fun _ _=> .inl (by simp)) fq⟩
   | panic Ba=>exact ⟨_,ao,ba,J, .pass (x:= .inLoop c) rfl (fun _ _=> .inl (by simp)) fq⟩
   | outgrown=>exact ⟨_,ao,ba,J, .pass (x:= .inLoop c) rfl (fun _ _=> .inl (by simp)) fq⟩
 obtain ⟨e,a',w',J,fq⟩:=key m a w ⟨bl,aU,ha.sub hs⟩;exact ⟨e,a',w',J, .of_steps (.one step_loop) fq⟩
theorem bb {cS:Nat→List (Nat×Value)→World→Prop} {m:Nat} (m':Nat) (bl:List (Nat×Value)) (h:cS m' bl w) (hm:m'<m) (hs:Sub bl E):N n (Exit.then (nG n cS m) Q) E w :=
 fun a ha=>⟨m',hm,bl,h,ha.sub hs⟩
variable {d:Option Nat} {ty:TypeId} {pos:String} {aH:Array Edge} {g:Option (Nat×Bool)} {x y z:Operand} {t:TypeId} {rest:List Oper}
def bu (P:Program) (E:List (Nat×Value)) (o:Oper) (w:World) (v:Value) (w':World):Prop:=∀ n a,bn n E a→(execOp a.eval o).run P w= .ok (.value v) w'
def tE (P:Program) (E:List (Nat×Value)) (o:Oper) (w w':World):Prop:=∀ n a,bn n E a→(execOp a.eval o).run P w= .ok .skip w'
theorem kp {o:Oper} (aV:o.guard=none) {a:Act} (h:o.wp P a w (wpList P ops Q rest) Q):wpList P ops Q (o::rest) a w:=by
 unfold wpList;rw [G8 (by simp [Region.wanted,aV])];exact .inl h
theorem gb {d:Nat} {op:Op} (hr:bu P E ⟨some d,op,ty,pos,aH,none⟩ w v w') (hd:Nat.blt d n=true) (h:bz P n ops Q rest ((d,v)::E) w'):bz P n ops Q (⟨some d,op,ty,pos,aH,none⟩::rest) E w:=fun a ha=>by
 refine kp Z ?_;unfold Oper.wp;rw [hr n a ha];exact h _ (ha.put hd v)
theorem us {op:Op} (hr:tE P E ⟨none,op,ty,pos,aH,none⟩ w w') (h:bz P n ops Q rest E w'):bz P n ops Q (⟨none,op,ty,pos,aH,none⟩::rest) E w:=fun a ha=>by
 refine kp Z ?_;unfold Oper.wp;rw [hr n a ha];exact h _ ha
def Enters (P:Program) (f:FuncId):Prop:=∃ fn,P.funcs[f]? =some fn∧(fn.name == "runtime.NumGoroutine")=false∧fn.body.isNone=false
theorem ma {f:FuncId} (hf:Enters P f) {xs:Array Operand} {ts:Array TypeId} {args:List Value} {a:Act} (ha:bn n E a) (he:cU E xs.toList=some args):
  (execOp a.eval ⟨d, .call {callee:= .value (.func f),args:=xs,argTypes:=ts},ty,pos,aH,g⟩).run P w= .ok (.enter f args.toArray) w:=by
 obtain ⟨fn,af,ai,aY⟩:=hf;have hm:xs.map a.eval=args.toArray:=by rw [← ha.cU he];apply H8;simp
 exact yF f fn af ai aY xs ts Z _ hm
theorem ca {d:Nat} {f:FuncId} (hf:Enters P f) {xs:Array Operand} {ts:Array TypeId} {args:List Value} (he:cU E xs.toList=some args) (hd:Nat.blt d n=true)
  (h:Calls P f args.toArray w fun e w'=>∃ v,e= .returned v∧bz P n ops Q rest ((d,v)::E) w'):bz P n ops Q (⟨some d, .call {callee:= .value (.func f),args:=xs,argTypes:=ts},ty,pos,aH,none⟩::rest) E w:=fun a ha=>by
 refine kp Z ?_;unfold Oper.wp;rw [ma hf ha he];refine Calls.mono h fun e w' ld=> ?_;obtain ⟨v,rfl,h⟩:=ld;exact h _ (ha.put hd v)
theorem Φ (hx:ev E x=some v):bu P E ⟨d, .move x,ty,pos,aH,g⟩ w v w:=fun n a ha=>by simp only [execOp,ha.ev hx];rfl
theorem oe (hx:ev E x=some v):bu P E ⟨d, .assign x,ty,pos,aH,g⟩ w v w:=fun n a ha=>by simp only [execOp,ha.ev hx];rfl
theorem ex {l:List Value} {k:Nat} (hx:ev E x=some (.tuple l.toArray)) (aA:l[k]? =some v):bu P E ⟨d, .extract x k,ty,pos,aH,g⟩ w v w:=fun n a ha=>by
 simp only [execOp,ha.ev hx,Instr.extract,List.getElem?_toArray,aA];rfl
theorem ea {p:Addr} (hx:ev E x=some (.pointer (some p))):bu P E ⟨d, .nilCheck x,ty,pos,aH,g⟩ w (.pointer (some p)) w:=fun n a ha=>by simp only [execOp,ha.ev hx];rfl
theorem cJ {b:Bool} (hx:ev E x=some (.bool b)):bu P E ⟨d, .unOp .not t x,ty,pos,aH,g⟩ w (.bool !b) w:=fun n a ha=>by
 simp only [execOp,ha.ev hx];cases b<;>rfl
theorem iB {v:Value} (hx:ev E x=some (.bool true)) (aJ:ev E y=some v):bu P E ⟨d, .pick x y z,ty,pos,aH,g⟩ w v w:=fun n a ha=>by
 simp only [execOp,ha.ev hx,ha.ev aJ];rfl
theorem re {v:Value} (hx:ev E x=some (.bool false)) (bT:ev E z=some v):bu P E ⟨d, .pick x y z,ty,pos,aH,g⟩ w v w:=fun n a ha=>by
 simp only [execOp,ha.ev hx,ha.ev bT];rfl
def aX (c:Bool) (v:Value):Value:=if c=true then v else undef
theorem gt {c:Bool} (hc:c=true) (h:ev E x=some (aX c v)):ev E x=some v:=by rw [h,hc];rfl
theorem cj {b c q:Bool} (hx:ev E x=some (.bool b)) (bT:ev E z=some (.bool false)) (J:(b == true)=q) (aJ:ev E y=some (aX q (.bool c))):bu P E ⟨d, .pick x y z,ty,pos,aH,g⟩ w (.bool (b && c)) w:=fun n a ha=>by
 subst J;simp only [execOp,ha.ev hx,ha.ev aJ,ha.ev bT];cases b<;>rfl
section
variable {k k':IntKind} {i j:Int} {u:TypeId}
theorem dh {op:BinOp} {s:Sem Value} (hx:ev E x=some (.int k i)) (aJ:ev E y=some (.int k' j)) (h:binOp op t (.int k i) (.int k' j)=s) (hr:s.run P w= .ok v w):bu P E ⟨d, .binOp op t x y u,ty,pos,aH,g⟩ w v w:=fun n a ha=>by
 simp only [execOp,ha.ev hx,ha.ev aJ,eqGuard_at_int,h,Gu,Gv,Gr,hr]
theorem bad (hx:ev E x=some (.int k i)) (aJ:ev E y=some (.int k j)) (h:k.wrap (i+j)=i+j):bu P E ⟨d, .binOp .add t x y u,ty,pos,aH,g⟩ w (.int k (i+j)) w:=dh hx aJ (binOp_add t k i j) (by simp [Op.intArith,h])
theorem aS (hx:ev E x=some (.int k i)) (aJ:ev E y=some (.int k j)) (h:k.wrap (i - j)=i - j):bu P E ⟨d, .binOp .sub t x y u,ty,pos,aH,g⟩ w (.int k (i - j)) w:=dh hx aJ (binOp_sub t k i j) (by simp [Op.intArith,h])
theorem gK (hx:ev E x=some (.int k i)) (aJ:ev E y=some (.int k j)) (h:k.wrap (i * j)=i * j):bu P E ⟨d, .binOp .mul t x y u,ty,pos,aH,g⟩ w (.int k (i * j)) w:=dh hx aJ (binOp_mul t k i j) (by simp [Op.intArith,h])
theorem tY (hx:ev E x=some (.int k i)) (aJ:ev E y=some (.int k j)):bu P E ⟨d, .binOp .sub t x y u,ty,pos,aH,g⟩ w (.int k (k.wrap (i - j))) w:=dh hx aJ (binOp_sub t k i j) (by simp [Op.intArith])
theorem blt (hx:ev E x=some (.int k i)) (aJ:ev E y=some (.int k j)):bu P E ⟨d, .binOp .lss t x y u,ty,pos,aH,g⟩ w (.bool (decide (i<j))) w:=dh hx aJ (binOp_lss t k i j) rfl
theorem ble (hx:ev E x=some (.int k i)) (aJ:ev E y=some (.int k j)):bu P E ⟨d, .binOp .leq t x y u,ty,pos,aH,g⟩ w (.bool (decide (i≤j))) w:=dh hx aJ (binOp_leq t k i j) rfl
theorem dX (hx:ev E x=some (.int k i)) (aJ:ev E y=some (.int k j)):bu P E ⟨d, .binOp .gtr t x y u,ty,pos,aH,g⟩ w (.bool (decide (j<i))) w:=dh hx aJ (binOp_gtr t k i j) rfl
theorem b5 (hx:ev E x=some (.int k i)) (aJ:ev E y=some (.int k j)):bu P E ⟨d, .binOp .geq t x y u,ty,pos,aH,g⟩ w (.bool (decide (j≤i))) w:=dh hx aJ (binOp_geq t k i j) rfl
theorem beq (hx:ev E x=some (.int k i)) (aJ:ev E y=some (.int k j)):bu P E ⟨d, .binOp .eql t x y u,ty,pos,aH,g⟩ w (.bool (i == j)) w:=dh hx aJ (binOp_eql t k i j) rfl
theorem bne (hx:ev E x=some (.int k i)) (aJ:ev E y=some (.int k j)):bu P E ⟨d, .binOp .neq t x y u,ty,pos,aH,g⟩ w (.bool (i != j)) w:=dh hx aJ (binOp_neq t k i j) rfl
end
def ep (P:Program) (t:TypeId) (k:Nat):Prop:=∀ w,(sizeOf t).run P w= .ok k w
def eE (P:Program) (t:TypeId) (b:Bool):Prop:=∀ w,(isAgg t).run P w= .ok b w
def kq (P:Program) (t:TypeId) (v:Value):Prop:=∀ w,(zeroValue t).run P w= .ok v w
def Fd (P:Program) (t:TypeId) (i off:Nat):Prop:=∀ w g o,(Instr.fieldAt t (.pointer (some ⟨g,o,none⟩)) i).run P w= .ok (.pointer (some ⟨g,o+off,none⟩)) w
section
variable {b o k:Nat} {cs:List Value}
theorem wT {e:TypeId} {size len cap:Nat} {lL:IntKind} {i:Int} (j:Nat) (aT:P.underlying t=some (.slice e)) (hs:ep P e size) (hx:ev E x=some (.slice (some ⟨b,o,none⟩) len cap)) (aB:ev E y=some (.int lL i)) (az:i=(j:Int)) (b1:j<len):
  bu P E ⟨d, .indexAddr t x y,ty,pos,aH,g⟩ w (.pointer (some ⟨b,o+j * size,none⟩)) w:=fun n a ha=>by
 subst az;simp only [execOp,ha.ev hx,ha.ev aB,Instr.indexAt,asIntOf,Gu,Gv,Gr,Hn aT];rw [G8 ⟨by omega,by omega⟩];simp only [Gu,hs w,Gr,Gv,Hx,iY]
def cZ (P:Program) (w:World) (t:TypeId) (p:Addr) (v:Value):Prop:=(loadVar t p).run P w= .ok v w
theorem cZ.one {p:Addr} (aT:eE P t false) (h:w.cell? p=some v):cZ P w t p v:=by
 unfold cZ loadVar;simp only [Gu,aT w,Gr,Hc,Ht,run_load,h]
theorem cZ.agg (aT:eE P t true) (hs:ep P t cs.length) (h:∀ j v,cs[j]? =some v→w.cell? ⟨b,o+j,none⟩=some v):cZ P w t ⟨b,o,none⟩ (.agg cs.toArray):=by
 unfold cZ loadVar;simp only [Gu,aT w,Gr,HS,hs w,run_loadCells_list w ⟨b,o,none⟩ cs (fun j v az=>by rw [iY];exact h j v az),Gv]
theorem aI {p:Addr} (hx:ev E x=some (.pointer (some p))) (h:cZ P w t p v):bu P E ⟨d, .load t x,ty,pos,aH,g⟩ w v w:=fun n a ha=>by
 unfold cZ at h;simp only [execOp,ha.ev hx,Instr.loadAt,Instr.sureAddr,Gu,Gv,Gr,h]
theorem bt.one {p:Nat} {cur:List Value} {e:TypeId} {bj:Nat×Nat} (h:bt w b cur e bj) (aT:eE P t false) (hv:cur[p]? =some v):cZ P w t ⟨b,p,none⟩ v:=cZ.one aT (by rw [h.cell,hv])
theorem bt.agg {p:Nat} {cur:List Value} {e:TypeId} {bj:Nat×Nat} (h:bt w b cur e bj) (aT:eE P t true) (hs:ep P t cs.length) (hv:(cur.drop p).take cs.length=cs):cZ P w t ⟨b,p,none⟩ (.agg cs.toArray):=
 cZ.agg aT hs fun j v az=>by
  rw [h.cell,← az];have aE:=(Gq.1 az).1
  conv=>rhs;rw [← hv]
  rw [List.getElem?_take_of_lt aE,H5]
theorem al {op:Op} {d:Nat} {cs:List Value} (lr:op= .alloc t) (bT:kq P t v) (hc:v.cells=cs.toArray) (hd:Nat.blt d n=true)
  (h:∀ ba b,Ext w ba→w.heap.size≤b→bt ba b cs t (0,0)→bz P n ops Q rest ((d, .pointer (some ⟨b,0,none⟩))::E) ba):bz P n ops Q (⟨some d,op,ty,pos,aH,none⟩::rest) E w:=by
 subst lr;refine gb (w':=w.alloc (.cells v.cells t)) (v:= .pointer (some ⟨w.heap.size,0,none⟩)) (fun n a ha=> ?_) hd (h _ _ ((Hd _ w).alloc (GB _) _) (GB _) (by rw [hc];exact bt.new w cs t (0,0)));simp only [execOp,Instr.alloc,Gu,bT w,newVar,newRow,run_newObj_alloc,Gr,Gv]
end
end
section
variable {P:Program} {n:Nat} {E bl:List (Nat×Value)} {a:Act} {w w' w0 ba:World} {Q:Exit→Act→World→Prop} {ops:Array Oper} {v:Value} {aO:Nat→Nat}
variable {d:Option Nat} {ty:TypeId} {pos:String} {aH:Array Edge} {g:Option (Nat×Bool)} {x y z:Operand} {t:TypeId} {rest:List Oper} {bO:List Nat} {i:Nat}
def cG (P:Program) (n:Nat) (ops:Array Oper) (Q:Exit→Act→World→Prop) (aO:Nat→Nat) (bO:List Nat) (E:List (Nat×Value)) (w0:World):Prop:=∀ a,bn n E a→fA P ops (dg (Q .normal)) aO bO a w0
def lO (l:List (Nat×Nat)) (i:Nat):Nat:=match l with
 | []=>1
 | (j,k)::r=>match Nat.beq j i with | true=>k | false=>lO r i
theorem rd {id:Nat} (pP:List (Nat×Nat)) (bO:List Nat) (hm:P.follows .mixedOrders=true) (bS:(Region.noSelect ops && (bO.length == ops.size) && eY ops (lO pP) bO (Array.replicate ops.size false))=true)
  (h:cG P n ops Q (lO pP) bO E w):W P n (.region id ops true) Q E w:=fun a ha=>yz bO hm bS (h a ha)
theorem fn (h:∀ w,Ext w0 w→N n Q E w):cG P n ops Q aO [] E w0:=fun a ha w hw=>h w hw a ha
theorem iH {o:Oper} (aV:o.guard=none):Region.wanted o (yielded ops a.tmps)=true:=by simp [Region.wanted,aV]
theorem uL {d:Nat} {op:Op} (aB:ops[i]? =some ⟨some d,op,ty,pos,aH,none⟩) (aA:aO i=0) (hr:∀ w,Ext w0 w→bu P E ⟨some d,op,ty,pos,aH,none⟩ w v w) (hd:Nat.blt d n=true)
  (h:cG P n ops Q aO bO ((d,v)::E) w0):cG P n ops Q aO (i::bO) E w0:=fun a ha =>
 ⟨_,aB, .inl ⟨aA,v, .inl ⟨iH rfl,fun w hw=>by rw [hr w hw n a ha];exact ⟨rfl,rfl⟩⟩,h _ (ha.put hd v)⟩⟩
theorem uN {d:Nat} {op:Op} (aB:ops[i]? =some ⟨some d,op,ty,pos,aH,none⟩) (aA:aO i=1) (hr:∀ w,bu P E ⟨some d,op,ty,pos,aH,none⟩ w v w) (hd:Nat.blt d n=true)
  (h:cG P n ops Q aO bO ((d,v)::E) w0):cG P n ops Q aO (i::bO) E w0:=fun a ha =>
 ⟨_,aB, .inr (.inl ⟨aA,v, .inl ⟨iH rfl,fun w=>hr w n a ha⟩,h _ (ha.put hd v)⟩)⟩
theorem fT {d:Nat} {f:FuncId} {xs:Array Operand} {ts:Array TypeId} {args:List Value} (aB:ops[i]? =some ⟨some d, .call {callee:= .value (.func f),args:=xs,argTypes:=ts},ty,pos,aH,none⟩) (aA:aO i=0) (hf:Enters P f) (he:cU E xs.toList=some args)
  (hr:∀ w,Ext w0 w→Calls P f args.toArray w fun e w'=>e= .returned v∧Ext w w') (hd:Nat.blt d n=true)
  (h:cG P n ops Q aO bO ((d,v)::E) w0):cG P n ops Q aO (i::bO) E w0:=fun a ha =>
 ⟨_,aB, .inl ⟨aA,v, .inl ⟨iH rfl,fun w hw=>by rw [ma hf ha he];exact ⟨rfl,hr w hw⟩⟩,h _ (ha.put hd v)⟩⟩
theorem iI {o:Oper} {j:Nat} {q b:Bool} {bA:Oper} {c3:Nat} (aV:o.guard=some (j,q)) (az:ops[j]? =some bA) (ey:bA.dst=some c3) (ak:look E c3=some (.bool b)) (ha:bn n E a):Region.wanted o (yielded ops a.tmps)=(b == q):=by
 have:=ha.g _ _ ak;cases b<;>cases q<;>simp [Region.wanted,aV,yielded,az,ey,this]
theorem bR {d:Nat} {op:Op} {j:Nat} {q b c:Bool} {bA:Oper} {c3:Nat} (aB:ops[i]? =some ⟨some d,op,ty,pos,aH,some (j,q)⟩) (aA:aO i=0) (az:ops[j]? =some bA) (ey:bA.dst=some c3) (ak:look E c3=some (.bool b)) (hc:(b == q)=c)
  (hr:c=true→∀ w,Ext w0 w→bu P E ⟨some d,op,ty,pos,aH,some (j,q)⟩ w v w) (hd:Nat.blt d n=true)
  (h:cG P n ops Q aO bO ((d,aX c v)::E) w0):cG P n ops Q aO (i::bO) E w0:=fun a ha=>by
 have hw:=iI (o:=⟨some d,op,ty,pos,aH,some (j,q)⟩) rfl az ey ak ha;rw [hc] at hw;refine ⟨_,aB, .inl ⟨aA,aX c v, ?_,h _ (ha.put hd _)⟩⟩;cases c with
 | true=>exact .inl ⟨hw,fun w hx=>by rw [hr rfl w hx n a ha];exact ⟨rfl,rfl⟩⟩
 | false=>exact .inr ⟨hw,rfl⟩
theorem av {d:Nat} {op:Op} {j:Nat} {q b c:Bool} {bA:Oper} {c3:Nat} (aB:ops[i]? =some ⟨some d,op,ty,pos,aH,some (j,q)⟩) (aA:aO i=1) (az:ops[j]? =some bA) (ey:bA.dst=some c3) (ak:look E c3=some (.bool b)) (hc:(b == q)=c)
  (hr:c=true→∀ w,bu P E ⟨some d,op,ty,pos,aH,some (j,q)⟩ w v w) (hd:Nat.blt d n=true)
  (h:cG P n ops Q aO bO ((d,aX c v)::E) w0):cG P n ops Q aO (i::bO) E w0:=fun a ha=>by
 have hw:=iI (o:=⟨some d,op,ty,pos,aH,some (j,q)⟩) rfl az ey ak ha;rw [hc] at hw;refine ⟨_,aB, .inr (.inl ⟨aA,aX c v, ?_,h _ (ha.put hd _)⟩)⟩;cases c with
 | true=>exact .inl ⟨hw,fun w=>hr rfl w n a ha⟩
 | false=>exact .inr ⟨hw,rfl⟩
theorem c7 {d:Nat} {f:FuncId} {xs:Array Operand} {ts:Array TypeId} {args:List Value} {j:Nat} {q b c:Bool} {bA:Oper} {c3:Nat} (aB:ops[i]? =some ⟨some d, .call {callee:= .value (.func f),args:=xs,argTypes:=ts},ty,pos,aH,some (j,q)⟩) (aA:aO i=0) (az:ops[j]? =some bA) (ey:bA.dst=some c3) (ak:look E c3=some (.bool b)) (hc:(b == q)=c)
  (hf:Enters P f) (he:c=true→cU E xs.toList=some args)
  (hr:c=true→∀ w,Ext w0 w→Calls P f args.toArray w fun e w'=>e= .returned v∧Ext w w') (hd:Nat.blt d n=true)
  (h:cG P n ops Q aO bO ((d,aX c v)::E) w0):cG P n ops Q aO (i::bO) E w0:=fun a ha=>by
 have hw:=iI (o:=⟨some d, .call {callee:= .value (.func f),args:=xs,argTypes:=ts},ty,pos,aH,some (j,q)⟩) rfl az ey ak ha;rw [hc] at hw;refine ⟨_,aB, .inl ⟨aA,aX c v, ?_,h _ (ha.put hd _)⟩⟩;cases c with
 | true=>exact .inl ⟨hw,fun w hx=>by rw [ma hf ha (he rfl)];exact ⟨rfl,hr rfl w hx⟩⟩
 | false=>exact .inr ⟨hw,rfl⟩
def n_ (P:Program) (n:Nat) (ops:Array Oper) (o:Oper) (E:List (Nat×Value)) (w:World) (K:List (Nat×Value)→World→Prop):Prop :=
 ∀ (Q:Exit→Act→World→Prop),(∀ bl w',K bl w'→bz P n ops Q [] bl w')→bz P n ops Q [o] E w
theorem zo {ko tD:Exit→Act→World→Prop} {o:Oper} {K:Act→World→Prop} (hp:∀ c a w,¬ ko (.panic c) a w) (bo:¬ LetsOut ko) (h:o.wp P a w K ko):o.wp P a w K tD:=by
 unfold Oper.wp at *
 generalize (execOp a.eval o).run P w=r at *
 cases r with
 | ok m w' =>
  cases m<;>simp only [Oper.upon] at h ⊢ <;>
   first
    | exact h
    | exact Calls.mono h (fun e iF he=>by cases e<;>first | exact he | exact (hp _ _ _ he).elim | exact (bo he).elim)
 | halt x w'=>cases x<;>simp only [Oper.upon] at h ⊢<;>first | exact h | exact (hp _ _ _ h).elim
theorem yO {o:Oper} (aV:o.guard=none) (aB:ops[i]? =some o) {K:Act→World→Prop} {E:List (Nat×Value)} {w:World} {nF:List (Nat×Value)→World→Prop} (h:n_ P n ops o E w nF) (hK:∀ bl w' a',nF bl w'→bn n bl a'→K a' w') (ha:bn n E a):
  wpOp P ops (dg (Q .normal)) i K a w:=by
 have:=h (dg K) (fun bl w' aA a' h_=>hK bl w' a' aA h_) a ha;unfold wpList at this;unfold wpOp;simp only [aB];rw [G8 (iH aV)] at this ⊢;rcases this with h | ⟨h,a,w,ai⟩
 ·exact .inl (zo (fun _ _ _ h=>h) (fun ⟨_,_,h⟩=>h) h)
 ·exact ai.elim
theorem bx {o:Oper} (aV:o.guard=none) (aB:ops[i]? =some o) (aA:aO i=3) (h:∀ w,Ext w0 w→n_ P n ops o E w fun bl w'=>cG P n ops Q aO bO bl w'):cG P n ops Q aO (i::bO) E w0:=fun a ha =>
 ⟨_,aB, .inr (.inr ⟨by omega,fun w hw=>yO aV aB (h w hw) (fun bl w' a' aA h_=>⟨fun ai=>by omega,aA a' h_⟩) ha⟩)⟩
end
structure Mod (S:List Nat) (w w':World):Prop where
 os:w'.os=w.os
 tape:w'.tape=w.tape
 output:w'.output=w.output
 size:w.heap.size≤w'.heap.size
 block:∀ k,k<w.heap.size→k∉S→w'.heap[k]? =w.heap[k]?
section
variable {S n9:List Nat} {w w' w0 ba eD:World} {B:Nat}
theorem Mod.aK (h:Ext w w'):Mod S w w':=⟨h.os,h.tape,h.output,h.size,fun k aA _=>h.block k aA⟩
theorem Mod.below {aj:Nat} (h:Mod S w w') (hS:∀ x∈S,aj≤x) (kG:aj≤w.heap.size):Below aj w w' :=
 ⟨h.os,h.tape,h.output,h.size,fun k aA=>h.block k (by omega) fun hm=>by have:=hS k hm;omega⟩
theorem Ext.mod (h:Ext w0 w) (hm:Mod S w w') (hS:∀ x∈S,w0.heap.size≤x):Ext w0 w':=Below.trans h (hm.below hS h.size)
theorem Mod.b7 (S:List Nat) (w:World):Mod S w w:=⟨rfl,rfl,rfl,GB _,fun _ _ _=>rfl⟩
theorem Mod.md (h:Mod S w ba) (bM:Mod n9 ba eD) (hs:∀ q∈n9,q∈S∨w.heap.size≤q):Mod S w eD :=
 ⟨bM.os.trans h.os,bM.tape.trans h.tape,bM.output.trans h.output,G' h.size bM.size,fun k aA hn=>(bM.block k (Ha aA h.size) fun hm=>(hs k hm).elim hn (fun h=>by omega)).trans (h.block k aA hn)⟩
theorem Mod.trans (h:Mod S w ba) (bM:Mod S ba eD):Mod S w eD :=
 ⟨bM.os.trans h.os,bM.tape.trans h.tape,bM.output.trans h.output,G' h.size bM.size,fun k aA hn=>(bM.block k (Ha aA h.size) hn).trans (h.block k aA hn)⟩
theorem Mod.grown {row:Option Nat} (h:w.grownBy w' row):Mod row.toList w w' :=
 ⟨h.os,h.tape,h.output,h.size,fun k aA hn=>h.block k aA fun e=>hn (by rw [← e];simp)⟩
theorem Mod.setRow (w:World) (b:Nat) (cs:Array Value):Mod [b] w (w.setRow b cs):=by
 refine ⟨Z,Z,Z,by simp [World.setRow],fun k aA hn=> ?_⟩;simp only [World.setRow,Hk];rw [Hg (by simp at hn;omega)]
theorem Mod.setCell (w:World) (p:Addr) (u:Value):Mod [p.block] w (w.setCell p u):=by
 refine ⟨Z,Z,Z,by simp [World.setCell],fun k aA hn=> ?_⟩;exact Below.heap_setCell _ _ _ _ (by simpa using hn)
theorem bt.mod {g:Nat} {cur:List Value} {e:TypeId} {bj:Nat×Nat} (h:bt w g cur e bj) (hm:Mod S w w') (aV:g∉S):bt w' g cur e bj:=by
 unfold bt at *
 rw [hm.block g (Gt.1 h).1 aV];exact h
theorem γ.aG.mod {α:Type} {R:γ α} {E by_:Nat} {f:List Nat} {A:Option Addr} {c:Nat} {l:List α} (h:R.aG E by_ w B f A c l) (hm:Mod S w w') (hd:∀ x∈f,x∉S):R.aG E by_ w' B f A c l :=
 h.keep fun g aV=>hm.block g (h.lt g aV).2 (hd g aV)
end
section
variable {P:Program} {n:Nat} {E bl:List (Nat×Value)} {a:Act} {w w' w0 ba:World} {Q:Exit→Act→World→Prop} {ops:Array Oper} {v:Value}
variable {d:Option Nat} {ty:TypeId} {pos:String} {aH:Array Edge} {g:Option (Nat×Bool)} {x y z:Operand} {t:TypeId} {rest:List Oper}
theorem yH {b p:Nat} {cur cs:List Value} {e:TypeId} (bS:bt w b cur e (0,0)) (hc:v.cells=cs.toArray) (hs:ep P t cs.length) (af:cs.all (·.oneCell')=true) (aE:p+cs.length≤cur.length):
  (storeVar t ⟨b,p,none⟩ v).run P w= .ok () (w.setRow b (cur.take p++cs++cur.drop (p+cs.length)).toArray):=by
 unfold storeVar;simp only [hc,Gu,hs w,Gr,GY,ne_eq,H_,Ht];have:=run_storeCells_at P b p e cs 0 cur.toArray w bS (by simpa using aE) (fun v hv=>GV.1 af v hv);simpa using this
theorem st {b p:Nat} {cur cs new:List Value} {e:TypeId} (hx:ev E x=some (.pointer (some ⟨b,p,none⟩))) (aJ:ev E y=some v) (bS:bt w b cur e (0,0)) (hc:v.cells=cs.toArray) (hs:ep P t cs.length) (af:cs.all (·.oneCell')=true) (aE:Nat.ble (p+cs.length) cur.length=true)
  (hn:cur.take p++cs++cur.drop (p+cs.length)=new)
  (h:∀ ba,Mod [b] w ba→bt ba b new e (0,0)→bz P n ops Q rest E ba):bz P n ops Q (⟨none, .store t x y,ty,pos,aH,none⟩::rest) E w:=by
 refine us (w':=w.setRow b new.toArray) (fun n a ha=> ?_) (h _ (Mod.setRow w b _) (by rw [← hn];exact bS.setRow _));have:=yH (P:=P) bS hc hs af (HX aE);rw [hn] at this;simp only [execOp,ha.ev hx,ha.ev aJ,Instr.storeAt,Instr.sureAddr,Gu,Gv,Gr,this]
theorem bi {om:Builtin} {xs:Array Operand} {ts:Array TypeId} {vs:List Value} (he:cU E xs.toList=some vs) (h:∀ cs,(builtin om ts ty cs vs.toArray).run P w= .ok (.value v) w'):
  bu P E ⟨d, .call {callee:= .builtin om,args:=xs,argTypes:=ts},ty,pos,aH,g⟩ w v w':=fun n a ha=>by
 have hm:xs.map a.eval=vs.toArray:=by rw [← ha.cU he];apply H8;simp
 simp only [execOp,resolve,invoke,hm,Gu,Gv,Gr,h]
theorem pT {A:Option Addr} {len cap e:Nat} (aT:P.underlying t=some (.slice e)) (hx:ev E x=some (.slice A len cap)):bu P E ⟨d, .call {callee:= .builtin .len,args:=#[x],argTypes:=#[t]},ty,pos,aH,g⟩ w (.int .i64 (len:Int)) w :=
 bi (vs:= [.slice A len cap]) (by simp only [cU,hx]) fun cs=>by
  have af:P.underlying t=some (.slice (P.elem t)):=by simp [Program.elem,aT]
  have:=run_len_slice (P:=P) w t ty A len cap af;simp only [builtin,Gu,this,Gr,Gv];rfl
theorem cd {f:FuncId} {fn:Func} (h:P.funcs[f]? =some fn) (af:(fn.name == "runtime.NumGoroutine")=false:=by kernel_rfl) (ai:fn.body.isNone=false:=by kernel_rfl):Enters P f:=⟨fn,h,af,ai⟩
theorem zk {o:Oper} {c:Bool} (hw:∀ a,bn n E a→Region.wanted o (yielded ops a.tmps)=c) (af:c=true→∀ a,bn n E a→o.wp P a w (wpList P ops Q rest) Q) (ai:c=false→∀ a,bn n E a→wpList P ops Q rest (a.put o.dst undef) w):bz P n ops Q (o::rest) E w:=fun a ha=>by
 unfold wpList;rw [hw a ha];cases c with
 | true=>rw [G8 rfl];exact .inl (af Z a ha)
 | false=>rw [Hg (by decide)];exact ai Z a ha
theorem dC {d:Nat} {op:Op} {j:Nat} {q b c:Bool} {bA:Oper} {c3:Nat} (az:ops[j]? =some bA) (ey:bA.dst=some c3) (ak:look E c3=some (.bool b)) (hc:(b == q)=c)
  (hr:c=true→bu P E ⟨some d,op,ty,pos,aH,some (j,q)⟩ w v w) (hd:Nat.blt d n=true) (h:bz P n ops Q rest ((d,aX c v)::E) w):bz P n ops Q (⟨some d,op,ty,pos,aH,some (j,q)⟩::rest) E w :=
 zk (c:=c) (fun a ha=>by rw [iI (o:=⟨some d,op,ty,pos,aH,some (j,q)⟩) rfl az ey ak ha,hc])
  (fun hc a ha=>by unfold Oper.wp;rw [hr hc n a ha];subst hc;exact h _ (ha.put hd v)) (fun hc a ha=>by subst hc;exact h _ (ha.put hd undef))
theorem bN {d:Option Nat} {op:Op} {j:Nat} {q:Bool} {bA:Oper} {c3:Nat} (az:ops[j]? =some bA) (ey:bA.dst=some c3) (ak:look E c3=some (.bool q)) (h:bz P n ops Q (⟨d,op,ty,pos,aH,none⟩::rest) E w):bz P n ops Q (⟨d,op,ty,pos,aH,some (j,q)⟩::rest) E w:=fun a ha=>by
 have h:=h a ha;have hw:=iI (o:=⟨d,op,ty,pos,aH,some (j,q)⟩) (q:=q) rfl az ey ak ha;unfold wpList at h ⊢;rw [G8 (iH rfl)] at h;rw [hw,G8 (by cases q<;>rfl)];exact h
theorem h1 {x:Operand} {b c:Bool} (h:ev E x=some (.bool b)) (e:b=c):ev E x=some (.bool c):=by rw [h,e]
def eX (E:List (Nat×Value)):List (Nat×Operand)→Option (List (Nat×Value))
 | []=>some []
 | (i,x)::r=>match ev E x with
  | some v=>match eX E r with
   | some l=>some ((i,v)::l)
   | none=>none
  | none=>none
theorem bn.eX (h:bn n E a):∀ {l:List (Nat×Operand)} {vs:List (Nat×Value)},eX E l=some vs→l.map (fun (i,x)=>(i,a.eval x))=vs
 | [],vs,e=>by simp only [Proofs.Ytifffjhhammeiaa.eX] at e;exact Gn e
 | (i,x)::r,vs,e=>by
  simp only [Proofs.Ytifffjhhammeiaa.eX] at e;cases hx:Proofs.Ytifffjhhammeiaa.ev E x with
  | none=>rw [hx] at e;cases e
  | some v =>
   rw [hx] at e;simp only at e;cases hr:Proofs.Ytifffjhhammeiaa.eX E r with
   | none=>rw [hr] at e;cases e
   | some l =>
    rw [hr] at e;simp only at e;obtain rfl:=Gn e;rw [G6,bn.eX h hr];simp only [h.ev hx]
theorem tU {ps:Array (Nat×Operand)} {l:List (Nat×Value)} (he:eX E ps.toList=some l) (hr:(Instr.build t l.toArray).run P w= .ok v w):bu P E ⟨d, .build t ps,ty,pos,aH,g⟩ w v w:=fun n a ha=>by
 have c4:ps.map (fun (i,x)=>(i,a.eval x))=l.toArray:=by rw [← ha.eX he];apply H8;simp
 simp only [execOp,c4,Gu,hr,Gr,Gv]
def bE (A:Option Addr):Nat:=match A with | some a=>a.block | none=>0
def bG (A:Option Addr):Nat:=match A with | some a=>a.off | none=>0
theorem γ.ar.au {α:Type} {R:γ α} {by_ c:Nat} {A:Option Addr} {l:List α} (h:R.ar by_ w A c l) (aU:0<l.length):A=some ⟨bE A,bG A,none⟩:=by
 obtain ⟨b,o,rfl,_⟩:=h.at_ aU;rfl
theorem γ.ar.aL {α:Type} {R:γ α} {by_ c:Nat} {A:Option Addr} {l:List α} (h:R.ar by_ w A c l) (aU:0<l.length):R.ar by_ w (some ⟨bE A,bG A,none⟩) c l:=by
 rw [← h.au aU];exact h
theorem ay {e:TypeId} {size len cap b o:Nat} {lL:IntKind} {i:Int} {A:Option Addr} (j:Nat) (aT:P.underlying t=some (.slice e)) (hs:ep P e size) (hx:ev E x=some (.slice A len cap)) (aB:ev E y=some (.int lL i)) (hA:A=some ⟨b,o,none⟩) (az:i=(j:Int)) (b1:j<len):
  bu P E ⟨d, .indexAddr t x y,ty,pos,aH,g⟩ w (.pointer (some ⟨b,o+j * size,none⟩)) w:=by subst hA;exact wT j aT hs hx aB az b1
theorem aw {α:Type} {l:List α} {j:Nat} {u:α} (h:j<l.length):l[j]? =some (l.getD j u):=by rw [Hb,Gp h];rfl
section
variable {α:Type} {R:γ α} {by_ c b o j:Nat} {l:List α} {cells:α→List Value} {q u:α}
theorem γ.ar.uI (hc:∀ {w cs a},R.has w cs a→cs=cells a) (h:R.ar by_ w (some ⟨b,o,none⟩) c l) (k:Nat) (az:l[j]? =some q) (hu:(cells q)[k]? =some v) (aT:eE P t false):cZ P w t ⟨b,o+j * R.size+k,none⟩ v:=by
 obtain ⟨tR,q1,e,cV⟩:=h.at_ (by have:=(Gq.1 az).1;omega);injection e with e;injection e with c4 c5;subst c4;subst c5
 obtain ⟨es,af,ai⟩:=cV j q az;rw [hc af] at ai;exact cZ.one aT (by rw [Nat.add_assoc];exact ai k v hu)
theorem γ.ar.aN (hc:∀ {w cs a},R.has w cs a→cs=cells a) (h:R.ar by_ w (some ⟨b,o,none⟩) c l) (az:l[j]? =some q) (hu:(cells q)[0]? =some v) (aT:eE P t false):cZ P w t ⟨b,o+j * R.size,none⟩ v:=h.uI hc 0 az hu aT
end
theorem bt.all {b:Nat} {cur:List Value} {e:TypeId} {bj:Nat×Nat} (h:bt w b cur e bj) (aT:eE P t true) (hs:ep P t cur.length):cZ P w t ⟨b,0,none⟩ (.agg cur.toArray):=
 cZ.agg aT hs fun j v az=>by rw [h.cell,GR,az]
end
open Try

section
variable {P:Program} {n:Nat} {E bl:List (Nat×Value)} {a:Act} {w w' w0 ba:World} {Q:Exit→Act→World→Prop} {ops:Array Oper} {v:Value}
theorem ah {x:Int} (h: -9223372036854775808≤x∧x≤9223372036854775807):IntKind.i64.wrap x=x:=IntWalk.i64_in x h
section
variable {d:Option Nat} {ty:TypeId} {pos:String} {aH:Array Edge} {g:Option (Nat×Bool)} {x y:Operand} {t u:TypeId} {k:IntKind} {i j r:Int}
end
theorem bQ {x:Operand} {r:List Operand} {l:List Value} (h:ev E x=some v) (hr:cU E r=some l):cU E (x::r)=some (v::l):=by simp only [cU,h,hr]
theorem xi {t:Nat} {k:IntKind} {i j:Int} (h:look E t=some (.int k i)) (e:i=j):look E t=some (.int k j):=by rw [h,e]
section
variable {c:Operand} {x y:Code} {i j:Int}
theorem cN (hc:ev E c=some (.bool (decide (i<j)))) (af:i<j→W P n x Q E w) (ai:¬ i<j→W P n y Q E w):W P n (.cond c x y) Q E w:=bK hc (fun h=>af (GK h)) (fun h=>ai (H3 h))
theorem dG (hc:ev E c=some (.bool (decide (i≤j)))) (af:i≤j→W P n x Q E w) (ai:¬ i≤j→W P n y Q E w):W P n (.cond c x y) Q E w:=bK hc (fun h=>af (GK h)) (fun h=>ai (H3 h))
theorem fj (hc:ev E c=some (.bool (i == j))) (af:i=j→W P n x Q E w) (ai:¬ i=j→W P n y Q E w):W P n (.cond c x y) Q E w:=bK hc (fun h=>af (by simpa using h)) (fun h=>ai (by simpa using h))
end
end
def hO (P:Program) {α:Type} (R:γ α) (t e:TypeId) (by_:Nat):Prop :=
 ∃ (i:TypeInfo) (z:Value),P.underlying t=some (.slice e)∧P.info? e=some i∧i.zero=some z∧i.size=R.size∧i.bytes=by_∧z.cells.size=R.size∧0<R.size∧∀ (j:Nat) u,z.cells[j]? =some u→R.raw j u
section
variable {P:Program} {n:Nat} {E bl:List (Nat×Value)} {a:Act} {w w' w0 ba:World} {Q:Exit→Act→World→Prop} {ops:Array Oper} {v:Value}
variable {d:Option Nat} {ty:TypeId} {pos:String} {aH:Array Edge} {g:Option (Nat×Bool)} {x y z:Operand} {t:TypeId} {rest:List Oper}
theorem hO.xV {α:Type} {R:γ α} {t e by_ k:Nat} {z:Value} (aT:P.underlying t=some (.slice e)) (aB:(P.info? e).map (fun i=>(i.zero,i.size,i.bytes))=some (some z,k,by_)) (aA:R.size=k) (af:z.cells.size=k) (ai:0<k) (aY:∀ (j:Nat) u,z.cells[j]? =some u→R.raw j u):hO P R t e by_:=by
 cases J:P.info? e with
 | none=>rw [J] at aB;cases aB
 | some i =>
  rw [J] at aB;simp only [HE,Ia,Prod.mk.injEq] at aB;exact ⟨i,z,aT,J,aB.1,by rw [aB.2.1,aA],aB.2.2,by rw [af,aA],by rw [aA];exact ai,aY⟩
def A2 (P:Program) (n:Nat) (c:Code) (Q:Exit→Act→World→Prop) (k:Nat) (E:List (Nat×Value)) (w:World):Prop:=∀ a,bn n E a→Code.rounds P c Q k a w
theorem ap {α:Type} {R:γ α} {e by_ base:Nat} {A dt:Option Addr} {c dc d:Nat} {l k:List α} (uP:hO P R t e by_) (hR:R.iU) (h:R.aG e by_ w base (γ.aq A) A c l) (ai:R.ar by_ w dt dc k)
  (hs:ev E x=some (.slice A l.length c)) (hx:ev E y=some (.slice dt k.length dc)) (hlen:l.length+k.length≤9223372036854775807) (dw:(l.length+k.length) * by_≤140737488355328) (dH:base≤w.heap.size) (hd:Nat.blt d n=true)
  (aA:∀ ba bs bJ,Mod (γ.aq A) w ba→R.aG e by_ ba base (γ.aq bs) bs bJ (l++k)→(∀ q∈γ.aq bs,q∈γ.aq A∨w.heap.size≤q)→(bs=none↔A=none∧k= [])→bz P n ops Q rest ((d, .slice bs (l++k).length bJ)::E) ba):
  bz P n ops Q (⟨some d, .call {callee:= .builtin .append,args:=#[x,y],argTypes:=#[t,t]},ty,pos,aH,none⟩::rest) E w:=fun a ha=>by
 obtain ⟨i,z,c4,c5,ug,ky,uh,ui,uj,uk⟩:=uP;obtain ⟨s1,s2,EF,EG,bw,yI,yJ⟩:=ai;obtain ⟨jG,rb⟩:=γ.rf bw;refine γ.zm Z x y base t e i z c4 c5 ug ky uh ui uj uk (γ.aq A) A c l h dt k.length dc k (bw.map fun es=>(([]:List Nat),es)) (γ.a8.plain hR.1 yI) Z (by rw [rb];exact yJ) (by rw [jG,HI];exact h.nodup) hlen dw dH Z (ha.ev hs) (ha.ev hx) ?_;rintro bs bJ f' ba ⟨l8,rm,Ev,yu,yv,Ex⟩;obtain rfl:=l8.uK hR.2;have hm:Mod (γ.aq A) w ba:=by
  have:=Mod.grown rm
  rwa [γ.jF] at this
 have:=aA ba bs bJ hm l8 (fun q J=>by
  rcases yu q J with h | h | h
  ·exact .inl h
  ·rw [jG] at h;cases h
  ·exact .inr (by omega)) (by rw [yv];exact and_congr_right fun _=>List.length_eq_zero_iff)
 rw [GA] at this;exact this _ (ha.put hd _)
theorem so {α:Type} {R:γ α} {e by_ B j i:Nat} {A:Option Addr} {c:Nat} {l:List α} {q q':α} {p:Addr} {u:Value} (h:R.aG e by_ w B (γ.aq A) A c l) (hR:R.iU) (aB:l[i]? =some q) (az:Nat.blt j R.size=true) (hx:ev E x=some (.pointer (some p))) (hp:p=⟨bE A,bG A+i * R.size+j,none⟩) (aJ:ev E y=some u)
  (hu:∀ (ba:World) cs,R.has w cs q→R.has ba (cs.set j u) q') (af:u.oneCell'=true) (dx:u.cells=#[u]) (hs:ep P t 1)
  (aA:∀ ba,Mod (γ.aq A) w ba→R.aG e by_ ba B (γ.aq A) A c (l.set i q')→bz P n ops Q rest E ba):bz P n ops Q (⟨none, .store t x y,ty,pos,aH,none⟩::rest) E w:=by
 obtain ⟨b,rfl⟩:=h.block (by have:=(Gq.1 aB).1;omega);rw [HL] at az;have wj:p=⟨b,i * R.size+j,none⟩:=by rw [hp];simp [bE,bG]
 subst wj;have wG:=h.yL hR aB az (fun cs hc=>hu _ cs hc);have b1:=(Gq.1 aB).1;have ji:∃ rG,w.cell? ⟨b,i * R.size+j,none⟩=some rG:=by
  obtain ⟨_,ps,_,_,bo,cV⟩:=h;have aE:=bo.1;rw [bo.cell _ (by rw [GU i];exact Ha (by rw [GU];exact (by omega:i * R.size+j<i * R.size+R.size)) (by rw [← Nat.succ_mul];exact GL _ b1))];exact ⟨_,Gp (by rw [aE];exact Ha (by omega:i * R.size+j<i * R.size+R.size) (by rw [← Nat.succ_mul];exact GL _ b1))⟩
 obtain ⟨rG,wN⟩:=ji;have hf:=h.free (i * R.size+j);refine us (w':=w.setCell ⟨b,i * R.size+j,none⟩ u) (fun n a ha=> ?_) (aA _ (Mod.setCell w ⟨b,i * R.size+j,none⟩ u) wG);have wK:(storeVar t ⟨b,i * R.size+j,none⟩ u).run P w= .ok () (w.setCell ⟨b,i * R.size+j,none⟩ u):=by
  unfold storeVar;simp only [dx,Gu,hs w,Gr,GY,Hf,List.length_nil,ne_eq,GR,H_,Ht,storeCells];have:(⟨b,i * R.size+j,none⟩:Addr).add 0=⟨b,i * R.size+j,none⟩:=rfl;rw [this,run_store P w _ u _ af,wN];simp only [hf,Hc,Ht,Gr,Gv]
 simp only [execOp,ha.ev hx,ha.ev aJ,Instr.storeAt,Instr.sureAddr,Gu,Gv,Gr,wK]
def AX (P:Program) {α:Type} [DecidableEq α] (cells:α→List Value) (t:TypeId):Prop:=∀ (a b:α) (w:World),(binOp .eql t (.agg (cells a).toArray) (.agg (cells b).toArray)).run P w= .ok (.bool (decide (a=b))) w∧(binOp .neq t (.agg (cells a).toArray) (.agg (cells b).toArray)).run P w= .ok (.bool (!decide (a=b))) w
end
open Try

section
variable {P:Program} {n:Nat} {E:List (Nat×Value)} {a:Act} {w w0:World} {Q:Exit→Act→World→Prop} {ops:Array Oper} {aO:Nat→Nat}
def yK (r:List Nat) (l:Array Bool):Array Bool:=match r with | []=>l | i::r=>yK r (l.setIfInBounds i true)
def uJ (ops:Array Oper) (aO:Nat→Nat):List Nat→Array Bool→Bool
 | [],_=>true
 | i::r,l=>(match aO i with
   | 0=>Region.free .any ops l i && (Region.ready .any ops l).contains i && jb ops aO l i
   | 1=>Region.free .any ops l i && (Region.ready .any ops l).contains i
   | _=>false) && uJ ops aO r (l.setIfInBounds i true)
def oh (ops:Array Oper) (aO:Nat→Nat) (r:List Nat):Nat→List Nat→Array Bool→Bool
 | 0,R,l=>R.isEmpty && eY ops aO r l
 | f+1,R,l=> !(Region.ready .any ops l).isEmpty && (Region.ready .any ops l).all fun j=>R.contains j && Nat.beq (aO j) 2 && oh ops aO r f (R.erase j) (l.setIfInBounds j true)
structure AZ (P:Program) (n:Nat) (ops:Array Oper) (Q:Exit→Act→World→Prop) (E:List (Nat×Value)) (w0:World) (i d:Nat) (ny:Value→List Nat→World→Prop):Prop where
 mono:∀ v f w w',ny v f w→Ext w w'→ny v f w'
 free:look E d=none
 tU:Nat.blt d n=true
 run:∀ (a:Act) (w:World) (K:Act→World→Prop),bn n E a→Ext w0 w→(∀ v w' f,Ext w w'→(∀ q∈f,w.heap.size≤q∧q<w'.heap.size)→ny v f w'→K (a.put (some d) v) w')→wpOp P ops (dg (Q .normal)) i K a w
abbrev Made:=Nat×Nat×(Value→List Nat→World→Prop)
def AG (P:Program) (ops:Array Oper) (Q:Exit→Act→World→Prop) (aO:Nat→Nat) (B bO:List Nat) (l:Array Bool):Exit→Act→World→Prop
 | .normal,a,w=>Region.noSelect ops=true→l.size=ops.size→oh ops aO bO B.length B l=true→gH P ops (dg (Q .normal)) aO (B.length+bO.length) l a w
 | _,_,_=>False
def x4:List Nat→Bool
 | []=>true
 | x::r=> !r.elem x && x4 r
variable {d i:Nat} {ty:TypeId} {pos:String} {aH:Array Edge} {x y z:Operand} {t:TypeId} {v:Value}
def A0 (cs:List Value) (t:TypeId) (v:Value) (f:List Nat) (w:World):Prop:=∃ b,v= .pointer (some ⟨b,0,none⟩)∧f= [b]∧bt w b cs t (0,0)
end
open Try

section
variable {P:Program} {n:Nat} {E bl:List (Nat×Value)} {a:Act} {w w' w0 ba:World} {Q:Exit→Act→World→Prop} {ops:Array Oper}
variable {d:Option Nat} {ty:TypeId} {pos:String} {aH:Array Edge} {g:Option (Nat×Bool)} {x y z u:Operand} {t:TypeId} {rest:List Oper} {v:Value}
end
def sR (e:MapEntry) (p:Int×Int):Prop:=e.key= .int .i64 p.1∧e.val= .int .i64 p.2
def hU (w:World) (r:Nat) (l:List (Int×Int)):Prop:=∃ (es:Array MapEntry) (clock:Nat),w.heap[r]? =some (.map es clock)∧a8 sR es.toList l
def Bm (l:List (Int×Int)) (k:Int):Option Int:=(l.find? fun p=>p.1 == k).map (·.2)
section
variable {w w':World} {r:Nat} {l:List (Int×Int)} {S:List Nat}
theorem hU.lt (h:hU w r l):r<w.heap.size:=by
 obtain ⟨es,c,af,_⟩:=h;exact (Gt.1 af).1
theorem hU.later (h:hU w r l) (x:Ext w w'):hU w' r l:=by
 have aE:=h.lt;obtain ⟨es,c,af,ai⟩:=h;exact ⟨es,c,by rw [x.block r aE];exact af,ai⟩
end
section
variable {P:Program} {n:Nat} {E bl:List (Nat×Value)} {a:Act} {w w' w0 ba:World} {Q:Exit→Act→World→Prop} {ops:Array Oper}
variable {d:Option Nat} {ty:TypeId} {pos:String} {aH:Array Edge} {g:Option (Nat×Bool)} {x y z u:Operand} {t:TypeId} {rest:List Oper} {v:Value}
end
section
variable {P:Program} {n:Nat} {E bl:List (Nat×Value)} {a:Act} {w w' w0 ba:World} {Q:Exit→Act→World→Prop} {ops:Array Oper}
variable {d:Nat} {ty:TypeId} {pos:String} {aH:Array Edge} {g:Option (Nat×Bool)} {x y z:Operand} {t:TypeId} {rest:List Oper}
end
def EH (A:Option Addr) (c e5 s:Nat):Option Addr:=if c=e5 then A else A.map (·.add (e5 * s))
theorem a8.take {α β:Type} {P:β→α→Prop}:∀ (n:Nat) {l:List β} {m:List α},a8 P l m→a8 P (l.take n) (m.take n)
 | 0,_,_,_=>trivial
 | n+1, [], [],_=>trivial
 | n+1,_::_,_::_,h=>⟨h.1,a8.take n h.2⟩
section
variable {P:Program} {n:Nat} {E bl:List (Nat×Value)} {w:World} {d:Option Nat} {ty:TypeId} {pos:String} {aH:Array Edge} {g:Option (Nat×Bool)} {x y z:Operand} {t:TypeId}
end
open Try

section
variable {P:Program} {n:Nat} {E bl:List (Nat×Value)} {a:Act} {w w' w0 ba:World} {Q:Exit→Act→World→Prop} {ops:Array Oper}
variable {d:Option Nat} {ty:TypeId} {pos:String} {aH:Array Edge} {g:Option (Nat×Bool)} {x y z:Operand} {t:TypeId} {rest:List Oper} {v:Value}
theorem ne {fn:Func} {R:Ending→World→Prop} (h:T n (bodyPost P fn R) E w):N n (bodyPost P fn R) E w:=fun a ha=>h a ha
end
def Raw (aj size j:Nat) (w:World) (A:Option Addr) (c:Nat):Prop :=
 (A=none∧c=0)∨∃ (b:Nat) (cur:List Value) (e:TypeId),A=some ⟨b,0,none⟩∧aj≤b∧bt w b cur e (0,0)∧∀ i,i<c→∃ m:Int,cur[i * size+j]? =some (.int .i64 m)
section
variable {w w':World} {aj size j c i:Nat} {A:Option Addr} {S:List Nat}
theorem Raw.lt (h:Raw aj size j w A c):∀ q∈γ.aq A,aj≤q∧q<w.heap.size:=by
 intro q J;rcases h with ⟨rfl,_⟩ | ⟨b,cur,e,rfl,af,ai,_⟩
 ·simp [γ.aq] at J
 ·obtain rfl:q=b:=Gs.1 J;exact ⟨af,ai.lt⟩
theorem Raw.later (h:Raw aj size j w A c) (x:Ext w w'):Raw aj size j w' A c:=by
 rcases h with h | ⟨b,cur,e,af,ai,aY,bd⟩
 ·exact .inl h
 ·exact .inr ⟨b,cur,e,af,ai,aY.later x,bd⟩
theorem Raw.au (h:Raw aj size j w A c) (aU:0<c):A=some ⟨bE A,bG A,none⟩:=by
 rcases h with ⟨_,h⟩ | ⟨b,cur,e,rfl,_⟩
 ·omega
 ·rfl
theorem Raw.set (h:Raw aj size j w A c) (aB:i<c) (v:Int):Raw aj size j (w.setCell ⟨bE A,bG A+i * size+j,none⟩ (.int .i64 v)) A c:=by
 rcases h with ⟨_,h⟩ | ⟨b,cur,e,rfl,af,aY,bd⟩
 ·omega
 ·rw [show (⟨bE (some ⟨b,0,none⟩),bG (some ⟨b,0,none⟩)+i * size+j,none⟩:Addr)=⟨b,i * size+j,none⟩ from by simp [bE,bG]];refine .inr ⟨b,_,e,Z,af,aY.set _ _,fun k aA=> ?_⟩;obtain ⟨m,hm⟩:=bd k aA;by_cases he:i * size+j=k * size+j
  ·rw [← he] at hm ⊢;exact ⟨v,HU (Gq.1 hm).1⟩
  ·exact ⟨m,by rw [List.getElem?_set_ne he];exact hm⟩
end
open Try
section
theorem uF {B:List Nat} {b n:Nat} (u:∀ q∈B,q<n) (h:n≤b:=by omega):∀ q∈B,q∈ [b]→False:=fun q J ak=>by have:=u q J;have:=Gs.1 ak;omega
theorem Bj {B:List Nat} {b n:Nat} (u:∀ q∈B,n≤q) (h:b<n:=by omega):∀ q∈B,q∈ [b]→False:=fun q J ak=>by have:=u q J;have:=Gs.1 ak;omega
theorem Eo {a b:Nat} (h:a≠b:=by omega):a∉ [b]:=fun e=>h (Gs.1 e)
section
variable {P:Program} {n:Nat} {ops:Array Oper} {Q:Exit→Act→World→Prop} {E:List (Nat×Value)} {w w' w0:World} {v:Value} {ty:TypeId} {pos:String} {aH:Array Edge} {x:Operand} {rest:List Oper} {d i:Nat} {bO:List Nat} {aO:Nat→Nat}
theorem aa {y:Code} (h:W P n y Q E w):bz P n ops (fh P y Q) [] E w:=nl (aP h)
theorem ab {id:Nat} {l:List Oper} {y:Code} (h:bz P n l.toArray (fh P y Q) l E w):W P n (.seq (.region id l.toArray false) y) Q E w:=aC (rg h)
theorem a_ {y:Code} (h:W P n y Q E w):W P n .skip (fh P y Q) E w:=iC (aP h)
theorem κ {op:Op} (hr:bu P E ⟨some d,op,ty,pos,aH,none⟩ w v w') (h:bz P n ops Q rest ((d,v)::E) w') (hd:Nat.blt d n=true:=by rfl):bz P n ops Q (⟨some d,op,ty,pos,aH,none⟩::rest) E w:=gb hr hd h
theorem vm (hx:ev E x=some v) (h:bz P n ops Q rest ((d,v)::E) w) (hd:Nat.blt d n=true:=by rfl):bz P n ops Q (⟨some d, .move x,ty,pos,aH,none⟩::rest) E w:=gb (Φ hx) hd h
theorem va (hx:ev E x=some v) (h:bz P n ops Q rest ((d,v)::E) w) (hd:Nat.blt d n=true:=by rfl):bz P n ops Q (⟨some d, .assign x,ty,pos,aH,none⟩::rest) E w:=gb (oe hx) hd h
theorem I {op:Op} (aB:ops[i]? =some ⟨some d,op,ty,pos,aH,none⟩) (hr:∀ w,bu P E ⟨some d,op,ty,pos,aH,none⟩ w v w) (h:cG P n ops Q aO bO ((d,v)::E) w0) (aA:aO i=1:=by rfl) (hd:Nat.blt d n=true:=by rfl):cG P n ops Q aO (i::bO) E w0:=uN aB aA hr hd h
theorem a7 {op:Op} (aB:ops[i]? =some ⟨some d,op,ty,pos,aH,none⟩) (hr:∀ w,Ext w0 w→bu P E ⟨some d,op,ty,pos,aH,none⟩ w v w) (h:cG P n ops Q aO bO ((d,v)::E) w0) (aA:aO i=0:=by rfl) (hd:Nat.blt d n=true:=by rfl):cG P n ops Q aO (i::bO) E w0:=uL aB aA hr hd h
end
theorem bg:∀ {bl E:List (Nat×Value)},bl.map (fun p=>look E p.1)=bl.map (fun p=>some p.2)→Sub bl E
 | [],_,_=>Sub.nil
 | (k,v)::r,E,h=>have bM:look E k::r.map (fun p=>look E p.1)=some v::r.map (fun p=>some p.2):=h
  Sub.cons (List.cons.inj bM).1 (bg (List.cons.inj bM).2)
theorem τ:(∀ (a b:Bool),((a || b)=true)↔(a=true∨b=true))∧(∀ (a b:Bool),((a || b)=false)↔(a=false∧b=false))∧(∀ (a b:Bool),((a && b)=true)↔(a=true∧b=true))∧(∀ (a b:Bool),((a && b)=false)↔(a=false∨b=false))∧(∀ (p:Prop) [Decidable p],(decide p=true)↔p)∧(∀ (p:Prop) [Decidable p],(decide p=false)↔¬ p)∧(∀ (α:Type) [BEq α] [LawfulBEq α] (a b:α),((a == b)=true)↔(a=b))∧(∀ (α:Type) [BEq α] [LawfulBEq α] (a b:α),((a != b)=true)↔(a≠b))∧(∀ (α:Type) [BEq α] [LawfulBEq α] (a b:α),((a == b)=false)↔(a≠b))∧(∀ (α:Type) [BEq α] [LawfulBEq α] (a b:α),((a != b)=false)↔(a=b))∧(∀ b:Bool,((!b)=true)↔(b=false))∧(∀ b:Bool,((!b)=false)↔(b=true))∧(∀ b:Bool,(¬ (b=true))↔(b=false))∧(∀ b:Bool,(¬ (b=false))↔(b=true))∧(∀ a b:Int,(¬ a<b)↔b≤a)∧(∀ a b:Int,(¬ a≤b)↔b<a)∧(∀ a b:Nat,(¬ a<b)↔b≤a)∧(∀ a b:Nat,(¬ a≤b)↔b<a)∧(∀ (α:Type) (a b:α),(a≠b)↔¬ (a=b))∧(∀ p:Prop,(¬ ¬ p)↔p):=
 ⟨fun a b=>by cases a<;>cases b<;>simp,fun a b=>by cases a<;>cases b<;>simp,fun a b=>by cases a<;>cases b<;>simp,fun a b=>by cases a<;>cases b<;>simp,fun p _=>by simp,fun p _=>by simp,fun α _ _ a b=>by simp,fun α _ _ a b=>by simp,fun α _ _ a b=>by simp,fun α _ _ a b=>by simp,fun b=>by simp,fun b=>by simp,fun b=>by simp,fun b=>by simp,fun _ _=>Int.not_lt,fun _ _=>Int.not_le,fun _ _=>Nat.not_lt,fun _ _=>Nat.not_le,fun _ _ _=>Iff.rfl,fun _=>Classical.not_not⟩
theorem ae (j:Nat) {n:Nat} (h:j<n:=by omega):0<n:=Nat.zero_lt_of_lt h
theorem aW {E:List (Nat×Value)} {t:Nat} {k:IntKind} {i j:Int} (h:look E t=some (.int k i)) (e:i=j:=by first | omega | rfl | (simp<;>omega)):look E t=some (.int k j):=xi h e
theorem cO {a b c:World} (h:Ext a b) (k:Ext b c):Ext a c:=Ext.iD h k
theorem h2 {b n:Nat} (h:n≤b:=by omega):∀ q∈ [b],n≤q:=fun q J=>by rw [Gs.1 J];exact h
theorem um:Enters prog 92 :=cd func92
theorem ag:ep prog 44 1:=fun _=>by kernel_rfl
theorem aM:eE prog 44 false:=fun _=>by kernel_rfl
theorem cp:Enters prog 63 :=cd func63
theorem oy:Enters prog 87 :=cd func87
theorem jf:eE prog 3 false:=fun _=>by kernel_rfl
theorem uB:ep prog 3 1:=fun _=>by kernel_rfl
theorem kB:Enters prog 102 :=cd func102
theorem kC:Enters prog 91 :=cd func91
theorem uC:kq prog 3 (.int .i64 0):=fun _=>by kernel_rfl
theorem kz:Enters prog 90 :=cd func90
theorem fS:eE prog 130 false:=fun _=>by kernel_rfl
theorem jd:ep prog 130 1:=fun _=>by kernel_rfl
theorem ou:Enters prog 46 :=cd func46
theorem uo:kq prog 130 (.int .u64 0):=fun _=>by kernel_rfl
theorem uq:Enters prog 88 :=cd func88
theorem ur:Enters prog 89 :=cd func89
theorem uu:Enters prog 57 :=cd func57
theorem uv:Enters prog 58 :=cd func58
theorem uw:Enters prog 59 :=cd func59
theorem ov:Enters prog 60 :=cd func60
theorem ow:Enters prog 61 :=cd func61
theorem je:Enters prog 62 :=cd func62
theorem fl:Enters prog 64 :=cd func64
theorem fo:Enters prog 65 :=cd func65
theorem c6:Enters prog 45 :=cd func45
theorem kA:Enters prog 18 :=cd func18
theorem ux:Enters prog 19 :=cd func19
theorem uy:Enters prog 20 :=cd func20
theorem gL:Enters prog 21 :=cd func21
theorem uz:Enters prog 22 :=cd func22
theorem ox:Enters prog 23 :=cd func23
theorem uA:Enters prog 24 :=cd func24
end
section
namespace nE
section
variable {α:Type} [Inhabited α] {key:α→Int} {l:List α} {i j n k:Nat} {x:α}
def swp (l:List α) (i j:Nat):List α:=(l.set i (l.getD j default)).set j (l.getD i default)
theorem yP (aB:i<l.length) (az:j<l.length):(swp l i j).Perm l:=by
 have h:=Array.swap_perm (xs:=l.toArray) (i:=i) (j:=j) (by simpa using aB) (by simpa using az);have h:=h.toList;have e:(l.toArray.swap i j (by simpa using aB) (by simpa using az)).toList=swp l i j:=by
  unfold swp;rw [Hb,Hb,Gp aB,Gp az];simp [Array.swap]
 rw [e] at h;simpa using h
def rH (key:α→Int) (l:List α) (j:Nat):List α :=
 if 0<j∧key (l.getD j default)<key (l.getD ((j - 1) / 2) default) then rH key (swp l ((j - 1) / 2) j) ((j - 1) / 2) else l
termination_by j
decreasing_by omega
def il (key:α→Int) (n:Nat) (l:List α) (i:Nat):Nat:=if 2 * i+2<n∧key (l.getD (2 * i+2) default)<key (l.getD (2 * i+1) default) then 2 * i+2 else 2 * i+1
theorem xk:i<il key n l i:=by unfold il;split<;>omega
def ot (key:α→Int) (n:Nat) (l:List α) (i:Nat):List α :=
 if 2 * i+1<n∧key (l.getD (il key n l i) default)<key (l.getD i default) then ot key n (swp l i (il key n l i)) (il key n l i) else l
termination_by n - i
decreasing_by rename_i h;have:=xk (key:=key) (n:=n) (l:=l) (i:=i);omega
def nD (key:α→Int) (n:Nat) (l:List α):Prop:=∀ i,0<i→i<n→key (l.getD ((i - 1) / 2) default)≤key (l.getD i default)
theorem nD.min (h:nD key n l):∀ i,i<n→key (l.getD 0 default)≤key (l.getD i default):=by
 intro i;induction i using Nat.strongRecOn with
 | ind i cq =>
  intro aB;by_cases aU:0<i
  ·exact Int.le_trans (cq ((i - 1) / 2) (by omega) (by omega)) (h i aU aB)
  ·have:i=0:=by omega
   subst this;exact Int.le_refl _
def push (key:α→Int) (l:List α) (x:α):List α:=rH key (l++ [x]) l.length
def yt (key:α→Int) (l:List α):List α:=ot key (l.length - 1) (swp l 0 (l.length - 1)) 0
def Er (key:α→Int) (l:List α):List α:=(yt key l).take (l.length - 1)
end
end nE
end
open Try

namespace γ
variable {α:Type} {R:γ α}
end γ
section
variable {P:Program} {n:Nat} {E bl:List (Nat×Value)} {a:Act} {w w' w0 ba:World} {Q:Exit→Act→World→Prop} {ops:Array Oper} {v:Value}
variable {d:Option Nat} {ty:TypeId} {pos:String} {aH:Array Edge} {g:Option (Nat×Bool)} {x y z:Operand} {t:TypeId} {rest:List Oper}
def yp (A:Option Addr) (A4:Nat):Option Addr:=A
end
theorem γ.ar.pre {α:Type} {R:γ α} {by_ c:Nat} {A:Option Addr} {l:List α} {w:World} (h:R.ar by_ w A c l) (k:Nat):R.ar by_ w (yp A k) c (l.take k):=h.jI k
open Try
section
variable {P:Program} {n:Nat} {E:List (Nat×Value)} {w:World} {Q:Exit→Act→World→Prop} {ops:Array Oper} {aO:Nat→Nat}
def AH (P:Program) (ops:Array Oper) (Q:Exit→Act→World→Prop) (aO:Nat→Nat) (AD AE:List Nat):Exit→Act→World→Prop :=
 dg (λ a w=>fA P ops (dg (Q .normal)) aO AD a w∧fA P ops (dg (Q .normal)) aO AE a w)
end
open Try
open Try

structure cz where
 x:Int
 y:Int
 deriving DecidableEq,Inhabited
namespace cz
def cells (a:cz):List Value:= [.int .i64 (a.x), .int .i64 (a.y)]
def ok (a:cz):Prop:=(Lit.int .i64 a.x).wf=true∧(Lit.int .i64 a.y).wf=true
def raw (j:Nat) (u:Value):Prop:=match j with
 | 0=>∃ n:Int,u= .int .i64 n
 | 1=>∃ n:Int,u= .int .i64 n
 | _=>True
theorem kv (a:cz):∀ (j:Nat) u,a.cells[j]? =some u→raw j u:=by
 intro j u hu
 match j,hu with
 | 0,hu=>exact ⟨_,(Gn hu).symm⟩
 | 1,hu=>exact ⟨_,(Gn hu).symm⟩
 | j+2,hu=>exact trivial
theorem ku (a:cz):∀ u∈a.cells,u.oneCell'=true:=by
 intro u hu;unfold cells at hu;simp only [G5,List.not_mem_nil,or_false] at hu;rcases hu with rfl | rfl<;>rfl
def rep:γ cz:=γ.flat 2 cells ok raw (λ _=>rfl) ku kv
def zero:Value:= .agg #[.int .i64 0, .int .i64 0]
theorem at_ {by_:Nat} {w:World} {A:Option Addr} {c:Nat} {l:List cz} (h:rep.ar by_ w A c l) (aU:0<l.length):
  ∃ b o,A=some ⟨b,o,none⟩∧∀ (i:Nat) (a:cz),l[i]? =some a→w.cell? ⟨b,o+i * 2,none⟩=some (.int .i64 (a.x))∧w.cell? ⟨b,o+i * 2+1,none⟩=some (.int .i64 (a.y)):=by
 obtain ⟨b,o,e,hc⟩:=h.at_ aU;refine ⟨b,o,e,λ i a ha=> ?_⟩;obtain ⟨es,⟨rfl,_⟩,az⟩:=hc i a ha;exact ⟨az 0 _ Z,az 1 _ Z⟩
def sh:bP:=(.cons (.int .i64) (.cons (.int .i64) .nil))
end cz
open Try

structure cM where
 id:Int
 owner:Int
 kind:Int
 spot:cz
 fY:Int
 load:Int
 deriving DecidableEq,Inhabited
namespace cM
def cells (a:cM):List Value:= [.int .i64 (a.id), .int .i64 (a.owner), .int .i64 (a.kind), .int .i64 (a.spot.x), .int .i64 (a.spot.y), .int .i64 (a.fY), .int .i64 (a.load)]
def ok (a:cM):Prop:=(Lit.int .i64 a.id).wf=true∧(Lit.int .i64 a.owner).wf=true∧(Lit.int .i64 a.kind).wf=true∧(Lit.int .i64 a.spot.x).wf=true∧(Lit.int .i64 a.spot.y).wf=true∧(Lit.int .i64 a.fY).wf=true∧(Lit.int .i64 a.load).wf=true
def raw (j:Nat) (u:Value):Prop:=match j with
 | 0=>∃ n:Int,u= .int .i64 n
 | 1=>∃ n:Int,u= .int .i64 n
 | 2=>∃ n:Int,u= .int .i64 n
 | 3=>∃ n:Int,u= .int .i64 n
 | 4=>∃ n:Int,u= .int .i64 n
 | 5=>∃ n:Int,u= .int .i64 n
 | 6=>∃ n:Int,u= .int .i64 n
 | _=>True
theorem kv (a:cM):∀ (j:Nat) u,a.cells[j]? =some u→raw j u:=by
 intro j u hu
 match j,hu with
 | 0,hu=>exact ⟨_,(Gn hu).symm⟩
 | 1,hu=>exact ⟨_,(Gn hu).symm⟩
 | 2,hu=>exact ⟨_,(Gn hu).symm⟩
 | 3,hu=>exact ⟨_,(Gn hu).symm⟩
 | 4,hu=>exact ⟨_,(Gn hu).symm⟩
 | 5,hu=>exact ⟨_,(Gn hu).symm⟩
 | 6,hu=>exact ⟨_,(Gn hu).symm⟩
 | j+7,hu=>exact trivial
theorem ku (a:cM):∀ u∈a.cells,u.oneCell'=true:=by
 intro u hu;unfold cells at hu;simp only [G5,List.not_mem_nil,or_false] at hu;rcases hu with rfl | rfl | rfl | rfl | rfl | rfl | rfl<;>rfl
def rep:γ cM:=γ.flat 7 cells ok raw (λ _=>rfl) ku kv
def zero:Value:= .agg #[.int .i64 0, .int .i64 0, .int .i64 0, .int .i64 0, .int .i64 0, .int .i64 0, .int .i64 0]
theorem at_ {by_:Nat} {w:World} {A:Option Addr} {c:Nat} {l:List cM} (h:rep.ar by_ w A c l) (aU:0<l.length):
  ∃ b o,A=some ⟨b,o,none⟩∧∀ (i:Nat) (a:cM),l[i]? =some a→w.cell? ⟨b,o+i * 7,none⟩=some (.int .i64 (a.id))∧w.cell? ⟨b,o+i * 7+1,none⟩=some (.int .i64 (a.owner))∧w.cell? ⟨b,o+i * 7+2,none⟩=some (.int .i64 (a.kind))∧w.cell? ⟨b,o+i * 7+3,none⟩=some (.int .i64 (a.spot.x))∧w.cell? ⟨b,o+i * 7+4,none⟩=some (.int .i64 (a.spot.y))∧w.cell? ⟨b,o+i * 7+5,none⟩=some (.int .i64 (a.fY))∧w.cell? ⟨b,o+i * 7+6,none⟩=some (.int .i64 (a.load)):=by
 obtain ⟨b,o,e,hc⟩:=h.at_ aU;refine ⟨b,o,e,λ i a ha=> ?_⟩;obtain ⟨es,⟨rfl,_⟩,az⟩:=hc i a ha;exact ⟨az 0 _ Z,az 1 _ Z,az 2 _ Z,az 3 _ Z,az 4 _ Z,az 5 _ Z,az 6 _ Z⟩
def sh:bP:=(.cons (.int .i64) (.cons (.int .i64) (.cons (.int .i64) (.cons (.cons (.int .i64) (.cons (.int .i64) .nil)) (.cons (.int .i64) (.cons (.int .i64) .nil))))))
end cM
open Try

structure dM where
 wide:Int
 high:Int
 eM:List Int
 deriving DecidableEq,Inhabited
structure cn where
 field:dM
 du:List cz
 f_:List Int
 e9:List Int
 dj:List cM
 next:Int
 now:Int
 deriving DecidableEq,Inhabited
namespace dM
def yq (p:Int):Bool:=c9 p 0 3
def er (f:dM):Int :=
 if c9 f.wide 1 40 && c9 f.high 1 40 then (if decide ((f.eM.length:Int)=f.wide * f.high) && f.eM.all yq then 0 else 4) else 1
def lM (f:dM) (c:cz):Bool:=c9 c.x 0 (f.wide - 1) && c9 c.y 0 (f.high - 1)
def place (f:dM) (c:cz):Int:=f.eM.getD (c.y * f.wide+c.x).toNat 0
def ground (f:dM) (c:cz):Bool:=f.lM c && f.place c != 1
end dM
namespace dM
def A5 (f:dM) (c:cz):Int:=if f.er≠0 then f.er else if f.lM c then 0 else 7
def A6 (f:dM) (c:cz):Int:=if f.er≠0 then 0 else if f.lM c then f.place c else 0
end dM
def D_ (k:Int):Option (Int×Int×Int×Int):=if k=1 then some (10,1,1,5) else if k=2 then some (20,2,4,12) else none
namespace cn
def yh (W:cn) (i:Nat):Bool:=W.field.ground (W.du.getD i default) && !(W.du.take i).contains (W.du.getD i default) && c9 (W.f_.getD i 0) 0 1000000
def yr (W:cn):Bool:=decide (W.f_.length=W.du.length) && (List.range W.du.length).all W.yh
def yi (W:cn) (i:Nat):Bool:=c9 (W.e9.getD i 0) 0 1000000 && (decide (W.e9.getD i 0≤0) || W.field.eM.getD i 0 == 3)
def xT (W:cn):Bool:=decide (W.e9.length=W.field.eM.length) && (List.range W.e9.length).all W.yi
def lR (W:cn) (i:Nat):Int:=if i=0 then 0 else (W.dj.getD (i - 1) default).id
def pR (k:Int):Int:=if k=1 then 10 else if k=2 then 20 else 0
def qY (k:Int):Int:=if k=1 then 5 else 0
def yj (W:cn) (xn x9:Int) (t:cM):Bool :=
 c9 t.kind 1 2 && c9 t.id xn x9 && c9 t.owner 0 ((W.du.length:Int) - 1) && W.field.ground t.spot && c9 t.fY 1 (pR t.kind) && c9 t.load 0 (qY t.kind)
def mg (W:cn) (k:Nat):List cz:=(W.dj.take k).map (·.spot)
def yk (W:cn) (i:Nat):Bool:=W.yj (wrap64 (W.lR i+1)) (wrap64 (W.next - 1)) (W.dj.getD i default) && !(W.mg i).contains (W.dj.getD i default).spot
def yQ (W:cn):Bool:=(List.range W.dj.length).all W.yk && (c9 W.next 1 1000000 && c9 W.now 0 1000000)
def er (W:cn):Int :=
 if W.field.er≠0 then W.field.er else if 8<W.du.length∨100<W.dj.length then 2 else if W.yr && W.xT && W.yQ then 0 else 4
structure j3 where
 P:Option Addr
 B:Option Addr
 S:Option Addr
 M:Option Addr
 T:Option Addr
 p:Nat
 b:Nat
 s:Nat
 m:Nat
 t:Nat
def Bi (A:Option Addr) (c:Nat) (f:dM):List Value:= [.int .i64 f.wide, .int .i64 f.high, .slice A f.eM.length c]
def cells (h:j3) (W:cn):List Value :=
 [.int .i64 W.field.wide, .int .i64 W.field.high, .slice h.P W.field.eM.length h.p, .slice h.B W.du.length h.b, .slice h.S W.f_.length h.s, .slice h.M W.e9.length h.m, .slice h.T W.dj.length h.t, .int .i64 W.next, .int .i64 W.now]
structure Has (w:World) (h:j3) (W:cn):Prop where
 P:l'.ar 8 w h.P h.p W.field.eM
 B:cz.rep.ar 16 w h.B h.b W.du
 S:l'.ar 8 w h.S h.s W.f_
 M:l'.ar 8 w h.M h.m W.e9
 T:cM.rep.ar 56 w h.T h.t W.dj
 Ep:iA W.field.wide∧iA W.field.high∧iA W.next∧iA W.now
def uM:bP:= .cons (.int .i64) (.cons (.int .i64) (.cons (.slice (.int .i64) 8) .nil))
def sh:bP:= .cons uM (.cons (.slice cz.sh 16) (.cons (.slice (.int .i64) 8) (.cons (.slice (.int .i64) 8) (.cons (.slice cM.sh 56) (.cons (.int .i64) (.cons (.int .i64) .nil))))))
end cn
open Try

namespace cn
end cn
def D7 (id:Int) (t:cM):Bool:=t.id == id
def D6 (p:cz) (t:cM):Bool:=decide (t.spot=p)
def Gj (W:cn) (p:cM→Bool):Int:=if W.er=0 then max (pN p W.dj) 0 else 0
def Gi (W:cn) (p:cM→Bool):Bool:=decide (W.er=0) && decide (0≤pN p W.dj)
def x1 (c:cz) (r:Int) (t:cM):Bool:=c9 c.x (t.spot.x - r) (t.spot.x+r) && c9 c.y (t.spot.y - r) (t.spot.y+r)
def En (W:cn) (c:cz) (r:Int):List Int:=(W.dj.filter (x1 c r)).map (·.id)
def Em (W:cn) (r:Int):Int:=if W.er≠0 then W.er else if c9 r 0 12 then 0 else 1
open Try

open Try
structure tG (f:dM) (q0:Nat) (t:cM):Prop where
 kind:t.kind=1∨t.kind=2
 owner:0≤t.owner∧t.owner<(q0:Int)
 ground:f.ground t.spot=true
 fY:1≤t.fY∧t.fY≤cn.pR t.kind
 load:0≤t.load∧t.load≤cn.qY t.kind
structure Good (W:cn):Prop where
 field:W.field.er=0
 q0:W.du.length≤8
 cJ:W.dj.length≤100
 sl:W.f_.length=W.du.length
 du:∀ (i:Nat) c,W.du[i]? =some c→W.field.ground c=true∧(W.du.take i).contains c=false
 f_:∀ (i:Nat) s,W.f_[i]? =some s→0≤s∧s≤1000000
 Ej:W.e9.length=W.field.eM.length
 e9:∀ (i:Nat) m,W.e9[i]? =some m→0≤m∧m≤1000000∧(m≤0∨W.field.eM.getD i 0=3)
 dj:∀ (i:Nat) t,W.dj[i]? =some t→tG W.field W.du.length t
 ids:∀ (i:Nat) t,W.dj[i]? =some t→W.lR i<t.id∧t.id<W.next∧0≤W.lR i
 mg:∀ (i:Nat) t,W.dj[i]? =some t→(W.mg i).contains t.spot=false
 next:1≤W.next∧W.next≤1000000
 now:0≤W.now∧W.now≤1000000
open Try

def A3.Bk (a:cn.j3):List Nat:=γ.aq a.P++γ.aq a.B++γ.aq a.S++γ.aq a.M++γ.aq a.T
open Try
end Go.Proofs.Ytifffjhhammeiaa
