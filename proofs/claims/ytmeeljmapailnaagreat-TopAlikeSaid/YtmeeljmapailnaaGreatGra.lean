import Derived.Test.YtmeeljmapailnaaGreatGol
set_option linter.unusedVariables false
set_option linter.unusedSimpArgs false
set_option maxRecDepth 100000
set_option maxHeartbeats 4000000
open Go.RowKit
namespace Go.Proofs.YtmeeljmapailnaaGreat
open Tryz
abbrev aTz:=@List.mem_singleton
abbrev aT5:=@List.take_succ_eq_append_getElem
abbrev aVa:=@Int.le_refl
abbrev aWd:=@List.set_eq_take_append_cons_drop
abbrev aWC:=@List.getElem?_set
abbrev aXU:=@List.perm_append_singleton
abbrev aXW:=@List.Perm.refl
abbrev aYb:=@List.cons.inj
abbrev aYM:=@Int.not_le
section
theorem b0 {B:List Nat} {b n:Nat} (u:∀ q∈B,q<n) (h:n≤b:=by omega):∀ q∈B,q∈ [b]→False:=fun q I γ=>by have:=u q I;have:=aTz.1 γ;omega
theorem bJ {B:List Nat} {b n:Nat} (u:∀ q∈B,n≤q) (h:b<n:=by omega):∀ q∈B,q∈ [b]→False:=fun q I γ=>by have:=u q I;have:=aTz.1 γ;omega
theorem aQ {a b:Nat} (h:a≠b:=by omega):a∉ [b]:=fun e=>h (aTz.1 e)
section
variable {P:Program} {n:Nat} {ops:Array Oper} {Q:Exit→Act→World→Prop} {E:List (Nat×Value)} {w w' w0:World} {v:Value} {ty:TypeId} {pos:String} {af:Array Edge} {x:Operand} {rest:List Oper} {d i:Nat} {bV:List Nat} {aT:Nat→Nat}
theorem ag {y:Code} (h:W P n y Q E w):cy P n ops (rp P y Q) [] E w:=nl (aP h)
theorem ah {id:Nat} {l:List Oper} {y:Code} (h:cy P n l.toArray (rp P y Q) l E w):W P n (.seq (.region id l.toArray false) y) Q E w:=ay (rg h)
theorem bl {y:Code} (h:W P n y Q E w):W P n .skip (rp P y Q) E w:=ei (aP h)
theorem Φ {op:Op} (hr:cQ P E ⟨some d,op,ty,pos,af,none⟩ w v w') (h:cy P n ops Q rest ((d,v)::E) w') (hd:Nat.blt d n=true:=by rfl):cy P n ops Q (⟨some d,op,ty,pos,af,none⟩::rest) E w:=iV hr hd h
theorem vm (hx:ev E x=some v) (h:cy P n ops Q rest ((d,v)::E) w) (hd:Nat.blt d n=true:=by rfl):cy P n ops Q (⟨some d, .move x,ty,pos,af,none⟩::rest) E w:=iV (hy hx) hd h
theorem va (hx:ev E x=some v) (h:cy P n ops Q rest ((d,v)::E) w) (hd:Nat.blt d n=true:=by rfl):cy P n ops Q (⟨some d, .assign x,ty,pos,af,none⟩::rest) E w:=iV (fG hx) hd h
theorem aB {op:Op} (ar:ops[i]? =some ⟨some d,op,ty,pos,af,none⟩) (hr:∀ w,cQ P E ⟨some d,op,ty,pos,af,none⟩ w v w) (h:fM P n ops Q aT bV ((d,v)::E) w0) (au:aT i=1:=by rfl) (hd:Nat.blt d n=true:=by rfl):fM P n ops Q aT (i::bV) E w0:=qJ ar au hr hd h
theorem bx {op:Op} (ar:ops[i]? =some ⟨some d,op,ty,pos,af,none⟩) (hr:∀ w,Ext w0 w→cQ P E ⟨some d,op,ty,pos,af,none⟩ w v w) (h:fM P n ops Q aT bV ((d,v)::E) w0) (au:aT i=0:=by rfl) (hd:Nat.blt d n=true:=by rfl):fM P n ops Q aT (i::bV) E w0:=afm ar au hr hd h
end
theorem hB:∀ {cO E:List (Nat×Value)},cO.map (fun p=>look E p.1)=cO.map (fun p=>some p.2)→Sub cO E
 | [],_,_=>Sub.nil
 | (k,v)::r,E,h=>have c7:look E k::r.map (fun p=>look E p.1)=some v::r.map (fun p=>some p.2):=h
  Sub.cons (aYb c7).1 (hB (aYb c7).2)
theorem ch:(∀ (a b:Bool),((a || b)=true)↔(a=true∨b=true))∧(∀ (a b:Bool),((a || b)=false)↔(a=false∧b=false))∧(∀ (a b:Bool),((a && b)=true)↔(a=true∧b=true))∧(∀ (a b:Bool),((a && b)=false)↔(a=false∨b=false))∧(∀ (p:Prop) [Decidable p],(decide p=true)↔p)∧(∀ (p:Prop) [Decidable p],(decide p=false)↔¬ p)∧(∀ (α:Type) [BEq α] [LawfulBEq α] (a b:α),((a == b)=true)↔(a=b))∧(∀ (α:Type) [BEq α] [LawfulBEq α] (a b:α),((a != b)=true)↔(a≠b))∧(∀ (α:Type) [BEq α] [LawfulBEq α] (a b:α),((a == b)=false)↔(a≠b))∧(∀ (α:Type) [BEq α] [LawfulBEq α] (a b:α),((a != b)=false)↔(a=b))∧(∀ b:Bool,((!b)=true)↔(b=false))∧(∀ b:Bool,((!b)=false)↔(b=true))∧(∀ b:Bool,(¬ (b=true))↔(b=false))∧(∀ b:Bool,(¬ (b=false))↔(b=true))∧(∀ a b:Int,(¬ a<b)↔b≤a)∧(∀ a b:Int,(¬ a≤b)↔b<a)∧(∀ a b:Nat,(¬ a<b)↔b≤a)∧(∀ a b:Nat,(¬ a≤b)↔b<a)∧(∀ (α:Type) (a b:α),(a≠b)↔¬ (a=b))∧(∀ p:Prop,(¬ ¬ p)↔p):=
 ⟨fun a b=>by cases a<;>cases b<;>simp,fun a b=>by cases a<;>cases b<;>simp,fun a b=>by cases a<;>cases b<;>simp,fun a b=>by cases a<;>cases b<;>simp,fun p _=>by simp,fun p _=>by simp,fun α _ _ a b=>by simp,fun α _ _ a b=>by simp,fun α _ _ a b=>by simp,fun α _ _ a b=>by simp,fun b=>by simp,fun b=>by simp,fun b=>by simp,fun b=>by simp,fun _ _=>Int.not_lt,fun _ _=>aYM,fun _ _=>Nat.not_lt,fun _ _=>Nat.not_le,fun _ _ _=>Iff.rfl,fun _=>Classical.not_not⟩
theorem aO (j:Nat) {n:Nat} (h:j<n:=by omega):0<n:=Nat.zero_lt_of_lt h
theorem bH {E:List (Nat×Value)} {t:Nat} {k:IntKind} {i j:Int} (h:look E t=some (.int k i)) (e:i=j:=by first | omega | rfl | (simp<;>omega)):look E t=some (.int k j):=FR h e
theorem ab {a b c:World} (h:Ext a b) (k:Ext b c):Ext a c:=Ext.nL h k
theorem bC {b n:Nat} (h:n≤b:=by omega):∀ q∈ [b],n≤q:=fun q I=>by rw [aTz.1 I];exact h
abbrev J (x:Int):Value:= .int .i64 x
def rG (ops:Array Oper) (E:List (Nat×Value)) (j:Nat):Option Value:=ops[j]?.bind fun o=>o.dst.bind fun d=>look E d
theorem Qy {ops:Array Oper} {E:List (Nat×Value)} {j:Nat} {v:Value} (h:rG ops E j=some v):∃ dc ik,ops[j]? =some dc∧dc.dst=some ik∧look E ik=some v:=by
 unfold rG at h;cases τ:ops[j]? with
 | none=>rw [τ] at h;cases h
 | some o =>
  rw [τ] at h;cases ae:o.dst with
  | none=>simp [ae] at h
  | some d=>exact ⟨o,d,rfl,ae,by simpa [ae] using h⟩
theorem aMS {ops:Array Oper} {E:List (Nat×Value)} {j:Nat} {b c:Bool} (h:rG ops E j=some (.bool b)) (e:b=c):rG ops E j=some (.bool c):=by rw [h,e]
theorem b7 {S:List Nat} {a b:Nat} (h:∀ q∈S,a≤q∧q<b):∀ q∈S,q<b:=fun q I=>(h q I).2
theorem dM {S:List Nat} {a b:Nat} (h:∀ q∈S,a≤q∧q<b):∀ q∈S,a≤q:=fun q I=>(h q I).1
section
variable {P:Program} {n:Nat} {ops:Array Oper} {Q:Exit→Act→World→Prop} {E:List (Nat×Value)} {w w' w0:World} {v:Value} {ty:TypeId} {pos:String} {af:Array Edge} {x y:Operand} {rest:List Oper} {d i j:Nat} {bV:List Nat} {aT:Nat→Nat} {op:Op} {q b:Bool} {f:FuncId} {xs:Array Operand} {ts:Array TypeId} {args:List Value} {t:TypeId}
theorem bh (γ:rG ops E j=some (.bool b)) (hr:(b == q)=true→cQ P E ⟨some d,op,ty,pos,af,some (j,q)⟩ w v w) (h:cy P n ops Q rest ((d,fO (b == q) v)::E) w) (hd:Nat.blt d n=true:=by rfl):cy P n ops Q (⟨some d,op,ty,pos,af,some (j,q)⟩::rest) E w:=by
 obtain ⟨_,_,τ,ae,aw⟩:=Qy γ;exact aGX τ ae aw Z hr hd h
theorem ams (γ:rG ops E j=some (.bool b)) (hx:(b == q)=true→ev E x=some v) (h:cy P n ops Q rest ((d,fO (b == q) v)::E) w) (hd:Nat.blt d n=true:=by rfl):cy P n ops Q (⟨some d, .move x,ty,pos,af,some (j,q)⟩::rest) E w:=bh γ (fun hc=>hy (hx hc)) h hd
theorem eN (γ:rG ops E j=some (.bool b)) (hx:ev E x=some v) (h:cy P n ops Q rest ((d,fO (b == q) v)::E) w) (hd:Nat.blt d n=true:=by rfl):cy P n ops Q (⟨some d, .move x,ty,pos,af,some (j,q)⟩::rest) E w:=bh γ (fun _=>hy hx) h hd
theorem aax (γ:rG ops E j=some (.bool b)) (h:cy P n ops Q rest ((d,fO (b == q) undef)::E) w) (I:(b == q)=false:=by rfl) (hd:Nat.blt d n=true:=by rfl):cy P n ops Q (⟨some d,op,ty,pos,af,some (j,q)⟩::rest) E w:=bh γ (fun hc=>by rw [I] at hc;cases hc) h hd
theorem nM (γ:rG ops E j=some (.bool b)) (hf:Enters P f) (he:(b == q)=true→gX E xs.toList=some args) (hr:(b == q)=true→Calls P f args.toArray w fun e w'=>e= .returned v∧Ext w w') (h:∀ w',Ext w w'→cy P n ops Q rest ((d,fO (b == q) v)::E) w') (hd:Nat.blt d n=true:=by rfl):cy P n ops Q (⟨some d, .call {callee:= .value (.func f),args:=xs,argTypes:=ts},ty,pos,af,some (j,q)⟩::rest) E w:=by
 obtain ⟨_,_,τ,ae,aw⟩:=Qy γ;exact aGW τ ae aw Z hf he hr hd h
theorem dT (ar:ops[i]? =some ⟨some d,op,ty,pos,af,some (j,q)⟩) (γ:rG ops E j=some (.bool b)) (hr:(b == q)=true→∀ w,Ext w0 w→cQ P E ⟨some d,op,ty,pos,af,some (j,q)⟩ w v w) (h:fM P n ops Q aT bV ((d,fO (b == q) v)::E) w0) (au:aT i=0:=by rfl) (hd:Nat.blt d n=true:=by rfl):fM P n ops Q aT (i::bV) E w0:=by
 obtain ⟨_,_,τ,ae,aw⟩:=Qy γ;exact avC ar au τ ae aw Z hr hd h
theorem cd (ar:ops[i]? =some ⟨some d,op,ty,pos,af,some (j,q)⟩) (γ:rG ops E j=some (.bool b)) (hr:(b == q)=true→∀ w,cQ P E ⟨some d,op,ty,pos,af,some (j,q)⟩ w v w) (h:fM P n ops Q aT bV ((d,fO (b == q) v)::E) w0) (au:aT i=1:=by rfl) (hd:Nat.blt d n=true:=by rfl):fM P n ops Q aT (i::bV) E w0:=by
 obtain ⟨_,_,τ,ae,aw⟩:=Qy γ;exact avD ar au τ ae aw Z hr hd h
theorem aMx (ar:ops[i]? =some ⟨some d, .move x,ty,pos,af,some (j,q)⟩) (γ:rG ops E j=some (.bool b)) (hx:(b == q)=true→ev E x=some v) (h:fM P n ops Q aT bV ((d,fO (b == q) v)::E) w0) (au:aT i=1:=by rfl) (hd:Nat.blt d n=true:=by rfl):fM P n ops Q aT (i::bV) E w0:=cd ar γ (fun hc _=>hy (hx hc)) h au hd
theorem eS (ar:ops[i]? =some ⟨some d, .move x,ty,pos,af,some (j,q)⟩) (γ:rG ops E j=some (.bool b)) (hx:ev E x=some v) (h:fM P n ops Q aT bV ((d,fO (b == q) v)::E) w0) (au:aT i=1:=by rfl) (hd:Nat.blt d n=true:=by rfl):fM P n ops Q aT (i::bV) E w0:=cd ar γ (fun _ _=>hy hx) h au hd
theorem di (ar:ops[i]? =some ⟨some d,op,ty,pos,af,some (j,q)⟩) (γ:rG ops E j=some (.bool b)) (h:fM P n ops Q aT bV ((d,fO (b == q) undef)::E) w0) (I:(b == q)=false:=by rfl) (au:aT i=1:=by rfl) (hd:Nat.blt d n=true:=by rfl):fM P n ops Q aT (i::bV) E w0:=cd ar γ (fun hc=>by rw [I] at hc;cases hc) h au hd
theorem jS (ar:ops[i]? =some ⟨some d,op,ty,pos,af,some (j,q)⟩) (γ:rG ops E j=some (.bool b)) (h:fM P n ops Q aT bV ((d,fO (b == q) undef)::E) w0) (I:(b == q)=false:=by rfl) (au:aT i=0:=by rfl) (hd:Nat.blt d n=true:=by rfl):fM P n ops Q aT (i::bV) E w0:=dT ar γ (fun hc=>by rw [I] at hc;cases hc) h au hd
theorem a1 (ar:ops[i]? =some ⟨some d, .move x,ty,pos,af,none⟩) (hx:ev E x=some v) (h:fM P n ops Q aT bV ((d,v)::E) w0) (au:aT i=1:=by rfl) (hd:Nat.blt d n=true:=by rfl):fM P n ops Q aT (i::bV) E w0:=qJ ar au (fun _=>hy hx) hd h
theorem cR {id:Nat} (ll:List (Nat×Nat)) (bV:List Nat) (h:fM P n ops Q (nA ll) bV E w) (hm:P.follows .mixedOrders=true:=by kernel_rfl) (bj:(Region.noSelect ops && (bV.length == ops.size) && kd ops (nA ll) bV (Array.replicate ops.size false))=true:=by kernel_rfl):W P n (.region id ops true) Q E w:=rd ll bV hm bj h
theorem fb {p c:Nat} {cur:List Value} {e:TypeId} (hx:ev E x=some (.pointer (some ⟨c,p,none⟩))) (aF:ev E y=some v) (bj:aR w c cur e (0,0)) (hc:v.cells= [v].toArray) (hs:eK P t 1) (τ:v.oneCell'=true) (aC:Nat.ble (p+1) cur.length=true)
  (h:∀ aS,Mod [c] w aS→aR aS c (cur.set p v) e (0,0)→cy P n ops Q rest E aS):cy P n ops Q (⟨none, .store t x y,ty,pos,af,none⟩::rest) E w :=
 st (new:=cur.set p v) hx aF bj hc hs (by simp [τ]) aC (by rw [aWd,aTO (show p<cur.length from aVq aC)];simp) h
end
theorem jb:Fd prog 55 0 0:=fun _ _ _=>by kernel_rfl
theorem a6:eQ prog 3 false:=fun _=>by kernel_rfl
theorem jd:Fd prog 55 1 1:=fun _ _ _=>by kernel_rfl
theorem cv:eQ prog 55 true:=fun _=>by kernel_rfl
theorem b2:eK prog 55 2:=fun _=>by kernel_rfl
theorem Qd:Enters prog 165 :=b3 func165
theorem Qf:Enters prog 166 :=b3 func166
theorem dI:eK prog 3 1:=fun _=>by kernel_rfl
theorem oR:eK prog 304 4:=fun _=>by kernel_rfl
theorem Qh:Fd prog 304 2 3:=fun _ _ _=>by kernel_rfl
theorem PZ:eQ prog 304 true:=fun _=>by kernel_rfl
theorem pJ:eQ prog 247 false:=fun _=>by kernel_rfl
theorem P3:Enters prog 210 :=b3 func210
theorem P4:Enters prog 211 :=b3 func211
theorem aeA:eK prog 247 1:=fun _=>by kernel_rfl
theorem aeC:l9 prog 304 (.agg #[.int .i64 0, .int .i64 0, .int .i64 0, .int .i64 0]):=fun _=>by kernel_rfl
theorem at4:Enters prog 215 :=b3 func215
theorem K0:Enters prog 185 :=b3 func185
theorem aud:Enters prog 192 :=b3 func192
theorem aui:Enters prog 193 :=b3 func193
theorem aus:Enters prog 214 :=b3 func214
theorem aeJ:Fd prog 249 0 0:=fun _ _ _=>by kernel_rfl
theorem K3:Fd prog 24 0 0:=fun _ _ _=>by kernel_rfl
theorem la:eQ prog 24 true:=fun _=>by kernel_rfl
theorem ld:eK prog 24 3:=fun _=>by kernel_rfl
theorem rC:Enters prog 143 :=b3 func143
theorem auN:Enters prog 171 :=b3 func171
theorem auT:l9 prog 244 (.agg #[.int .i64 0, .int .i64 0, .int .i64 0, .int .i64 0, .int .i64 0, .int .i64 0, .int .i64 0, .int .i64 0]):=fun _=>by kernel_rfl
theorem aeV:eK prog 244 8:=fun _=>by kernel_rfl
theorem au5:eQ prog 244 true:=fun _=>by kernel_rfl
theorem aeX:Fd prog 249 1 3:=fun _ _ _=>by kernel_rfl
theorem aeY:Enters prog 134 :=b3 func134
theorem Fc:Fd prog 249 3 6:=fun _ _ _=>by kernel_rfl
theorem au6:Enters prog 184 :=b3 func184
theorem mN:Enters prog 139 :=b3 func139
theorem oQ:Fd prog 249 2 5:=fun _ _ _=>by kernel_rfl
theorem fV:eQ prog 22 false:=fun _=>by kernel_rfl
theorem au7:Enters prog 186 :=b3 func186
theorem V4:Fd prog 304 0 0:=fun _ _ _=>by kernel_rfl
theorem aeZ:Fd prog 304 1 2:=fun _ _ _=>by kernel_rfl
theorem ae0:Enters prog 138 :=b3 func138
theorem xi:l9 prog 55 (.agg #[.int .i64 0, .int .i64 0]):=fun _=>by kernel_rfl
theorem V5:Enters prog 137 :=b3 func137
theorem V6:Enters prog 169 :=b3 func169
theorem au8:Enters prog 183 :=b3 func183
theorem xj:Fd prog 24 2 2:=fun _ _ _=>by kernel_rfl
theorem ae1:Enters prog 168 :=b3 func168
theorem ae2:Enters prog 170 :=b3 func170
theorem ae3:Enters prog 136 :=b3 func136
theorem au9:Enters prog 140 :=b3 func140
theorem ava:Enters prog 182 :=b3 func182
theorem ae4:Enters prog 167 :=b3 func167
theorem Qe:Fd prog 57 2 2:=fun _ _ _=>by kernel_rfl
theorem V7:Enters prog 11 :=b3 func11
theorem V8:l9 prog 61 (.agg #[.int .i64 0, .int .i64 0, .int .i64 0, .int .i64 0]):=fun _=>by kernel_rfl
theorem V9:eK prog 61 4:=fun _=>by kernel_rfl
theorem tZ:Fd prog 57 3 3:=fun _ _ _=>by kernel_rfl
theorem Fe:Fd prog 57 1 1:=fun _ _ _=>by kernel_rfl
theorem avb:Fd prog 61 1 1:=fun _ _ _=>by kernel_rfl
theorem qI:Fd prog 28 0 0:=fun _ _ _=>by kernel_rfl
theorem avc:Enters prog 135 :=b3 func135
theorem dA:eQ prog 28 true:=fun _=>by kernel_rfl
theorem cm:eK prog 28 9:=fun _=>by kernel_rfl
theorem HN:Enters prog 34 :=b3 func34
theorem ka:Fd prog 28 4 6:=fun _ _ _=>by kernel_rfl
theorem lN:eQ prog 26 false:=fun _=>by kernel_rfl
theorem kr:eK prog 57 7:=fun _=>by kernel_rfl
theorem zm:eQ prog 57 true:=fun _=>by kernel_rfl
theorem K5:l9 prog 57 (.agg #[.int .i64 0, .int .i64 0, .int .i64 0, .int .i64 0, .int .i64 0, .int .i64 0, .int .i64 0]):=fun _=>by kernel_rfl
theorem HO:Fd prog 57 0 0:=fun _ _ _=>by kernel_rfl
theorem V_:eK prog 201 2:=fun _=>by kernel_rfl
theorem avd:eQ prog 201 true:=fun _=>by kernel_rfl
theorem ave:l9 prog 201 (.agg #[.int .i64 0, .int .i64 0]):=fun _=>by kernel_rfl
theorem avf:Fd prog 201 0 0:=fun _ _ _=>by kernel_rfl
theorem Qg:l9 prog 3 (.int .i64 0):=fun _=>by kernel_rfl
theorem avg:Fd prog 201 1 1:=fun _ _ _=>by kernel_rfl
theorem V':eK prog 4 1:=fun _=>by kernel_rfl
theorem Da:eQ prog 4 false:=fun _=>by kernel_rfl
theorem avh:Enters prog 101 :=b3 func101
theorem avi:Fd prog 61 2 2:=fun _ _ _=>by kernel_rfl
theorem pN:l9 prog 28 (.agg #[.int .i64 0, .int .i64 0, .slice none 0 0, .slice none 0 0, .slice none 0 0, .slice none 0 0, .slice none 0 0, .int .i64 0, .int .i64 0]):=fun _=>by kernel_rfl
theorem Bb:Enters prog 77 :=b3 func77
theorem xk:eK prog 22 1:=fun _=>by kernel_rfl
theorem rD:Fd prog 28 1 3:=fun _ _ _=>by kernel_rfl
theorem vx:eQ prog 25 false:=fun _=>by kernel_rfl
theorem t_:Fd prog 28 2 4:=fun _ _ _=>by kernel_rfl
theorem Wa:Enters prog 88 :=b3 func88
theorem Wb:eK prog 25 1:=fun _=>by kernel_rfl
theorem zn:Fd prog 28 3 5:=fun _ _ _=>by kernel_rfl
theorem Wc:Enters prog 89 :=b3 func89
theorem K6:eK prog 26 1:=fun _=>by kernel_rfl
theorem avj:Enters prog 58 :=b3 func58
theorem avk:Enters prog 59 :=b3 func59
theorem Qi:Fd prog 57 4 5:=fun _ _ _=>by kernel_rfl
theorem Wd:eK prog 203 3:=fun _=>by kernel_rfl
theorem avl:eQ prog 203 true:=fun _=>by kernel_rfl
theorem avm:Fd prog 203 0 0:=fun _ _ _=>by kernel_rfl
theorem HP:eQ prog 206 false:=fun _=>by kernel_rfl
theorem avn:Enters prog 103 :=b3 func103
theorem avo:l9 prog 206 (.pointer none):=fun _=>by kernel_rfl
theorem atE:eK prog 206 1:=fun _=>by kernel_rfl
theorem atF:Enters prog 102 :=b3 func102
theorem atG:Fd prog 203 1 1:=fun _ _ _=>by kernel_rfl
theorem atH:Enters prog 104 :=b3 func104
theorem atI:Enters prog 60 :=b3 func60
theorem atJ:Enters prog 61 :=b3 func61
theorem zg:Fd prog 153 1 1:=fun _ _ _=>by kernel_rfl
theorem P0:Enters prog 141 :=b3 func141
theorem P1:Enters prog 142 :=b3 func142
theorem A':Fd prog 57 5 6:=fun _ _ _=>by kernel_rfl
theorem P2:Fd prog 153 2 2:=fun _ _ _=>by kernel_rfl
theorem np:Fd prog 151 0 0:=fun _ _ _=>by kernel_rfl
theorem atK:Enters prog 174 :=b3 func174
theorem aey:Fd prog 153 3 4:=fun _ _ _=>by kernel_rfl
theorem aez:Fd prog 61 3 3:=fun _ _ _=>by kernel_rfl
theorem E8:Fd prog 28 5 7:=fun _ _ _=>by kernel_rfl
theorem atL:Enters prog 144 :=b3 func144
theorem atM:Fd prog 61 0 0:=fun _ _ _=>by kernel_rfl
theorem atN:Fd prog 153 0 0:=fun _ _ _=>by kernel_rfl
theorem KZ:eQ prog 153 true:=fun _=>by kernel_rfl
theorem E9:eK prog 153 5:=fun _=>by kernel_rfl
theorem atO:Enters prog 105 :=b3 func105
theorem atP:Enters prog 106 :=b3 func106
theorem atQ:Enters prog 107 :=b3 func107
theorem atS:Enters prog 62 :=b3 func62
theorem atT:l9 prog 151 (.agg #[.int .i64 0, .int .i64 0, .slice none 0 0, .slice none 0 0, .slice none 0 0, .slice none 0 0, .slice none 0 0, .int .i64 0, .int .i64 0]):=fun _=>by kernel_rfl
theorem atU:eK prog 151 9:=fun _=>by kernel_rfl
theorem atV:l9 prog 153 (.agg #[.int .i64 0, .int .i64 0, .int .i64 0, .int .i64 0, .int .i64 0]):=fun _=>by kernel_rfl
theorem atW:Enters prog 63 :=b3 func63
theorem VL:Fd prog 24 1 1:=fun _ _ _=>by kernel_rfl
theorem VM:Enters prog 48 :=b3 func48
theorem atX:Enters prog 46 :=b3 func46
theorem atY:Enters prog 47 :=b3 func47
theorem atZ:Enters prog 49 :=b3 func49
theorem E_:Fd prog 28 6 8:=fun _ _ _=>by kernel_rfl
theorem P5:l9 prog 69 (.agg #[.int .i64 0, .int .i64 0, .int .i64 0, .int .i64 0, .int .i64 0, .int .i64 0]):=fun _=>by kernel_rfl
theorem pK:Fd prog 69 1 1:=fun _ _ _=>by kernel_rfl
theorem C8:Fd prog 69 2 2:=fun _ _ _=>by kernel_rfl
theorem C9:Fd prog 69 3 3:=fun _ _ _=>by kernel_rfl
theorem C_:Fd prog 69 4 5:=fun _ _ _=>by kernel_rfl
theorem jc:eQ prog 69 true:=fun _=>by kernel_rfl
theorem fl:eK prog 69 6:=fun _=>by kernel_rfl
theorem rB:Fd prog 69 0 0:=fun _ _ _=>by kernel_rfl
theorem HK:Enters prog 130 :=b3 func130
theorem at0:Enters prog 131 :=b3 func131
theorem VN:Enters prog 94 :=b3 func94
theorem VO:Fd prog 143 0 0:=fun _ _ _=>by kernel_rfl
theorem aeB:eQ prog 101 false:=fun _=>by kernel_rfl
theorem at1:eK prog 101 1:=fun _=>by kernel_rfl
theorem VP:Fd prog 143 1 1:=fun _ _ _=>by kernel_rfl
theorem aeD:eQ prog 102 false:=fun _=>by kernel_rfl
theorem at2:eK prog 102 1:=fun _=>by kernel_rfl
theorem E':Fd prog 143 2 2:=fun _ _ _=>by kernel_rfl
theorem P6:eQ prog 103 false:=fun _=>by kernel_rfl
theorem VQ:eK prog 103 1:=fun _=>by kernel_rfl
theorem VR:Enters prog 56 :=b3 func56
theorem at3:l9 prog 143 (.agg #[.slice none 0 0, .slice none 0 0, .slice none 0 0]):=fun _=>by kernel_rfl
theorem aeE:Enters prog 57 :=b3 func57
theorem HL:l9 prog 51 (.agg #[.slice none 0 0, .slice none 0 0, .slice none 0 0]):=fun _=>by kernel_rfl
theorem VS:Enters prog 30 :=b3 func30
theorem Ba:eK prog 51 3:=fun _=>by kernel_rfl
theorem P7:eQ prog 51 true:=fun _=>by kernel_rfl
theorem aeF:Enters prog 31 :=b3 func31
theorem at5:Fd prog 51 0 0:=fun _ _ _=>by kernel_rfl
theorem at6:Enters prog 32 :=b3 func32
theorem at7:Fd prog 51 1 1:=fun _ _ _=>by kernel_rfl
theorem at8:Enters prog 33 :=b3 func33
theorem at9:Fd prog 51 2 2:=fun _ _ _=>by kernel_rfl
theorem aua:eK prog 49 1:=fun _=>by kernel_rfl
theorem aeG:Enters prog 123 :=b3 func123
theorem aub:Enters prog 124 :=b3 func124
theorem P8:Enters prog 86 :=b3 func86
theorem auc:Enters prog 87 :=b3 func87
theorem aeH:Enters prog 50 :=b3 func50
theorem zh:eK prog 48 1:=fun _=>by kernel_rfl
theorem mM:eQ prog 48 false:=fun _=>by kernel_rfl
theorem VT:Enters prog 9 :=b3 func9
theorem Fa:Fd prog 32 0 0:=fun _ _ _=>by kernel_rfl
theorem tY:Fd prog 32 1 9:=fun _ _ _=>by kernel_rfl
theorem zi:eQ prog 30 false:=fun _=>by kernel_rfl
theorem K1:Enters prog 25 :=b3 func25
theorem aue:Enters prog 180 :=b3 func180
theorem iB:eK prog 163 3:=fun _=>by kernel_rfl
theorem vu:eQ prog 163 true:=fun _=>by kernel_rfl
theorem auf:Enters prog 159 :=b3 func159
theorem C':Fd prog 163 1 1:=fun _ _ _=>by kernel_rfl
theorem Fb:Fd prog 163 2 2:=fun _ _ _=>by kernel_rfl
theorem pL:Fd prog 163 0 0:=fun _ _ _=>by kernel_rfl
theorem aug:Enters prog 161 :=b3 func161
theorem auh:Enters prog 160 :=b3 func160
theorem auj:Enters prog 127 :=b3 func127
theorem auk:Enters prog 126 :=b3 func126
theorem HM:l9 prog 163 (.agg #[.slice none 0 0, .int .i64 0, .bool false]):=fun _=>by kernel_rfl
theorem aul:Enters prog 128 :=b3 func128
theorem aum:Enters prog 119 :=b3 func119
theorem aun:Enters prog 83 :=b3 func83
theorem auo:Enters prog 84 :=b3 func84
theorem aup:l9 prog 48 (.slice none 0 0):=fun _=>by kernel_rfl
theorem auq:Enters prog 85 :=b3 func85
theorem aur:Enters prog 122 :=b3 func122
theorem VU:l9 prog 32 (.agg #[.int .i64 0, .int .i64 0, .slice none 0 0, .slice none 0 0, .slice none 0 0, .slice none 0 0, .slice none 0 0, .int .i64 0, .int .i64 0, .slice none 0 0]):=fun _=>by kernel_rfl
theorem pM:eK prog 32 10:=fun _=>by kernel_rfl
theorem zj:eQ prog 32 true:=fun _=>by kernel_rfl
theorem K2:Enters prog 90 :=b3 func90
theorem VV:eK prog 30 1:=fun _=>by kernel_rfl
theorem P9:Enters prog 92 :=b3 func92
theorem VW:Enters prog 95 :=b3 func95
theorem sM:eK prog 35 1:=fun _=>by kernel_rfl
theorem nr:eQ prog 35 false:=fun _=>by kernel_rfl
theorem aeI:Enters prog 162 :=b3 func162
theorem sN:Fd prog 38 0 0:=fun _ _ _=>by kernel_rfl
theorem sO:Fd prog 38 1 1:=fun _ _ _=>by kernel_rfl
theorem vv:eQ prog 36 false:=fun _=>by kernel_rfl
theorem aut:Enters prog 164 :=b3 func164
theorem auu:Enters prog 163 :=b3 func163
theorem nt:eQ prog 38 true:=fun _=>by kernel_rfl
theorem jR:eK prog 38 2:=fun _=>by kernel_rfl
theorem VX:Enters prog 129 :=b3 func129
theorem P_:l9 prog 38 (.agg #[.int .u32 0, .slice none 0 0]):=fun _=>by kernel_rfl
theorem aeK:Enters prog 93 :=b3 func93
theorem VY:Enters prog 132 :=b3 func132
theorem aeL:Enters prog 91 :=b3 func91
theorem aeM:eK prog 36 1:=fun _=>by kernel_rfl
theorem auv:Enters prog 133 :=b3 func133
theorem xh:l9 prog 40 (.agg #[.int .i64 0, .int .i64 0, .slice none 0 0, .slice none 0 0, .slice none 0 0, .slice none 0 0, .slice none 0 0, .int .i64 0, .int .i64 0, .slice none 0 0, .slice none 0 0, .int .u32 0, .slice none 0 0, .int .i64 0]):=fun _=>by kernel_rfl
theorem zk:Fd prog 40 0 0:=fun _ _ _=>by kernel_rfl
theorem qH:Fd prog 40 1 10:=fun _ _ _=>by kernel_rfl
theorem vw:eQ prog 34 false:=fun _=>by kernel_rfl
theorem P':eK prog 34 1:=fun _=>by kernel_rfl
theorem zl:Fd prog 40 2 11:=fun _ _ _=>by kernel_rfl
theorem hX:eQ prog 40 true:=fun _=>by kernel_rfl
theorem ef:eK prog 40 14:=fun _=>by kernel_rfl
theorem auw:Enters prog 45 :=b3 func45
theorem Qa:Fd prog 40 3 13:=fun _ _ _=>by kernel_rfl
theorem aeN:Enters prog 26 :=b3 func26
theorem auy:Enters prog 96 :=b3 func96
theorem auz:Enters prog 97 :=b3 func97
theorem auA:Enters prog 98 :=b3 func98
theorem auB:Enters prog 99 :=b3 func99
theorem auC:Enters prog 100 :=b3 func100
theorem auD:Enters prog 51 :=b3 func51
theorem auE:Enters prog 52 :=b3 func52
theorem K4:Fd prog 71 0 0:=fun _ _ _=>by kernel_rfl
theorem VZ:Fd prog 71 1 1:=fun _ _ _=>by kernel_rfl
theorem auF:Enters prog 53 :=b3 func53
theorem auG:Enters prog 54 :=b3 func54
theorem auH:Fd prog 71 2 7:=fun _ _ _=>by kernel_rfl
theorem auI:Fd prog 71 3 8:=fun _ _ _=>by kernel_rfl
theorem auJ:Enters prog 55 :=b3 func55
theorem auK:Enters prog 27 :=b3 func27
theorem V0:eK prog 9 1:=fun _=>by kernel_rfl
theorem V1:eQ prog 9 false:=fun _=>by kernel_rfl
theorem auL:Enters prog 44 :=b3 func44
theorem aeO:Enters prog 28 :=b3 func28
theorem aeP:Enters prog 6 :=b3 func6
theorem V2:Enters prog 29 :=b3 func29
theorem auM:Enters prog 22 :=b3 func22
theorem dR:eK prog 71 9:=fun _=>by kernel_rfl
theorem l':eQ prog 71 true:=fun _=>by kernel_rfl
theorem aeQ:l9 prog 71 (.agg #[.int .i64 0, .int .i64 0, .int .i64 0, .int .i64 0, .int .i64 0, .int .i64 0, .int .i64 0, .int .i64 0, .int .i64 0]):=fun _=>by kernel_rfl
theorem V3:Enters prog 147 :=b3 func147
theorem Qb:Enters prog 17 :=b3 func17
theorem auO:Enters prog 114 :=b3 func114
theorem Qc:Enters prog 69 :=b3 func69
theorem aeR:Enters prog 68 :=b3 func68
theorem auP:Enters prog 36 :=b3 func36
theorem auQ:Enters prog 35 :=b3 func35
theorem aeS:Enters prog 72 :=b3 func72
theorem auR:Enters prog 24 :=b3 func24
theorem auS:Enters prog 71 :=b3 func71
theorem auU:Enters prog 70 :=b3 func70
theorem auV:Enters prog 74 :=b3 func74
theorem auW:Enters prog 73 :=b3 func73
theorem auX:Enters prog 75 :=b3 func75
theorem auY:Enters prog 37 :=b3 func37
theorem auZ:Enters prog 38 :=b3 func38
theorem au0:Enters prog 39 :=b3 func39
theorem aeT:Enters prog 7 :=b3 func7
theorem aeU:Enters prog 14 :=b3 func14
theorem au1:Enters prog 13 :=b3 func13
theorem au2:Enters prog 16 :=b3 func16
theorem aeW:Enters prog 8 :=b3 func8
theorem au3:Enters prog 18 :=b3 func18
theorem au4:Enters prog 19 :=b3 func19
end
section
namespace cH
section
variable {α:Type} [Inhabited α] {key:α→Int} {l:List α} {i j n k:Nat} {x:α}
def swp (l:List α) (i j:Nat):List α:=(l.set i (l.getD j default)).set j (l.getD i default)
theorem ml:(swp l i j).length=l.length:=by unfold swp;rw [aTH,aTH]
theorem afA {i k:Nat} (ar:i<l.length):(l.set i x).getD k default=if k=i then x else l.getD k default:=by
 rw [aTB,aTB,aWC];by_cases e:i=k
 ·subst e;rw [aTO rfl,aTO rfl];simp [ar]
 ·rw [aTL e,aTL (λ h=>e h.symm)]
theorem D2 (ar:i<l.length) (aA:j<l.length):(swp l i j).getD k default=if k=j then l.getD i default else if k=i then l.getD j default else l.getD k default:=by
 unfold swp;rw [afA (by rw [aTH];exact aA),afA ar]
theorem D3 (ar:i<l.length) (aA:j<l.length):(swp l i j).Perm l:=by
 have h:=Array.swap_perm (xs:=l.toArray) (i:=i) (j:=j) (by simpa using ar) (by simpa using aA);have h:=h.toList;have e:(l.toArray.swap i j (by simpa using ar) (by simpa using aA)).toList=swp l i j:=by
  unfold swp;rw [aTB,aTB,aTF ar,aTF aA];simp [Array.swap]
 rw [e] at h;simpa using h
def qj (key:α→Int) (l:List α) (j:Nat):List α :=
 if 0<j∧key (l.getD j default)<key (l.getD ((j - 1) / 2) default) then qj key (swp l ((j - 1) / 2) j) ((j - 1) / 2) else l
termination_by j
decreasing_by omega
def oc (key:α→Int) (n:Nat) (l:List α) (i:Nat):Nat:=if 2 * i+2<n∧key (l.getD (2 * i+2) default)<key (l.getD (2 * i+1) default) then 2 * i+2 else 2 * i+1
theorem MO:i<oc key n l i:=by unfold oc;split<;>omega
theorem YT (h:2 * i+1<n):oc key n l i<n:=by unfold oc;split<;>omega
theorem aBg:(oc key n l i - 1) / 2=i:=by unfold oc;split<;>omega
theorem ajL (au:0<k) (hn:k<n) (hp:(k - 1) / 2=i):key (l.getD (oc key n l i) default)≤key (l.getD k default):=by
 have:k=2 * i+1∨k=2 * i+2:=by omega
 unfold oc;split
 ·rename_i h
  rcases this with rfl | rfl
  ·omega
  ·exact aVa _
 ·rename_i h
  rcases this with rfl | rfl
  ·exact aVa _
  ·have:¬ key (l.getD (2 * i+2) default)<key (l.getD (2 * i+1) default):=λ fI=>h ⟨hn,fI⟩;omega
def j' (key:α→Int) (n:Nat) (l:List α) (i:Nat):List α :=
 if 2 * i+1<n∧key (l.getD (oc key n l i) default)<key (l.getD i default) then j' key n (swp l i (oc key n l i)) (oc key n l i) else l
termination_by n - i
decreasing_by rename_i h;have:=MO (key:=key) (n:=n) (l:=l) (i:=i);omega
theorem aGN:∀ (j:Nat) (l:List α),(qj key l j).length=l.length:=by
 intro j;induction j using Nat.strongRecOn with
 | ind j bK =>
  intro l;unfold qj;split
  ·rw [bK _ (by omega),ml]
  ·rfl
theorem aGO:∀ (j:Nat) (l:List α),j<l.length→(qj key l j).Perm l:=by
 intro j;induction j using Nat.strongRecOn with
 | ind j bK =>
  intro l aC;unfold qj;split
  ·exact (bK _ (by omega) _ (by rw [ml];omega)).trans (D3 (by omega) aC)
  ·exact aXW _
theorem aep (n:Nat):∀ (m i:Nat) (l:List α),n - i≤m→(j' key n l i).length=l.length:=by
 intro m;induction m with
 | zero=>intro i l h;unfold j';rw [aTL (by omega)]
 | succ m bK =>
  intro i l h;unfold j';split
  ·have:=MO (key:=key) (n:=n) (l:=l) (i:=i);rw [bK _ _ (by omega),ml]
  ·rfl
theorem aeq (n:Nat):∀ (m i:Nat) (l:List α),n - i≤m→n≤l.length→i<l.length→(j' key n l i).Perm l:=by
 intro m;induction m with
 | zero=>intro i l h _ _;unfold j';rw [aTL (by omega)]
 | succ m bK =>
  intro i l h hn ar;unfold j';split
  ·rename_i hc
   have:=MO (key:=key) (n:=n) (l:=l) (i:=i);have:=YT (key:=key) (l:=l) hc.1;exact (bK _ _ (by omega) (by rw [ml];exact hn) (by rw [ml];omega)).trans (D3 ar (by omega))
  ·exact aXW _
theorem atm (n:Nat):∀ (m i:Nat) (l:List α),n - i≤m→n≤l.length→i<l.length→∀ k,n≤k→i<n→(j' key n l i).getD k default=l.getD k default:=by
 intro m;induction m with
 | zero=>intro i l h _ _ k _ _;unfold j';rw [aTL (by omega)]
 | succ m bK =>
  intro i l h hn ar k au dE;unfold j';split
  ·rename_i hc
   have τ:=MO (key:=key) (n:=n) (l:=l) (i:=i);have ae:=YT (key:=key) (l:=l) hc.1;rw [bK _ _ (by omega) (by rw [ml];exact hn) (by rw [ml];omega) k au ae,D2 ar (by omega),aTL (by omega),aTL (by omega)]
  ·rfl
def Heap (key:α→Int) (n:Nat) (l:List α):Prop:=∀ i,0<i→i<n→key (l.getD ((i - 1) / 2) default)≤key (l.getD i default)
theorem aGM (n:Nat):∀ (j:Nat) (l:List α),j<n→n≤l.length→(∀ i,0<i→i<n→i≠j→key (l.getD ((i - 1) / 2) default)≤key (l.getD i default))→
  (∀ i,0<i→i<n→(i - 1) / 2=j→0<j→key (l.getD ((j - 1) / 2) default)≤key (l.getD i default))→Heap key n (qj key l j):=by
 intro j;induction j using Nat.strongRecOn with
 | ind j bK =>
  intro l aA hn τ ae;unfold qj;split
  ·rename_i hc
   obtain ⟨aK,bA⟩:=hc;have aM:∀ k,(swp l ((j - 1) / 2) j).getD k default=if k=j then l.getD ((j - 1) / 2) default else if k=(j - 1) / 2 then l.getD j default else l.getD k default:=λ k=>D2 (by omega) (by omega)
   refine bK _ (by omega) _ (by omega) (by rw [ml];exact hn) (λ i ku dE eY=> ?_) (λ i ku dE hp zq=> ?_)
   ·rw [aM,aM];by_cases e:i=j
    ·subst e;rw [aTO rfl,aTL (by omega),aTO rfl];omega
    ·rw [aTL e,aTL eY];by_cases bb:(i - 1) / 2=j
     ·rw [aTO bb];exact ae i ku dE bb aK
     ·rw [aTL bb];by_cases cP:(i - 1) / 2=(j - 1) / 2
      ·rw [aTO cP];have:=τ i ku dE e;rw [cP] at this;omega
      ·rw [aTL cP];exact τ i ku dE e
   ·rw [aM,aM];rw [aTL (by omega),aTL (by omega)];have Rk:=τ ((j - 1) / 2) zq (by omega) (by omega);by_cases e:i=j
    ·rw [aTO e];exact Rk
    ·rw [aTL e,aTL (by omega)];have:=τ i ku dE e;rw [hp] at this;omega
  ·rename_i hc
   intro i ku dE;by_cases e:i=j
   ·subst e;have:¬ key (l.getD i default)<key (l.getD ((i - 1) / 2) default):=λ h=>hc ⟨ku,h⟩;omega
   ·exact τ i ku dE e
theorem atl (n:Nat):∀ (m i0:Nat) (l:List α),n - i0≤m→i0<l.length→n≤l.length→(∀ i,0<i→i<n→(i - 1) / 2≠i0→key (l.getD ((i - 1) / 2) default)≤key (l.getD i default))→
  (∀ i,0<i→i<n→(i - 1) / 2=i0→0<i0→key (l.getD ((i0 - 1) / 2) default)≤key (l.getD i default))→Heap key n (j' key n l i0):=by
 intro m;induction m with
 | zero =>
  intro i0 l h _ _ τ _;unfold j';rw [aTL (by omega)];intro i ku dE;exact τ i ku dE (by omega)
 | succ m bK =>
  intro i0 l h Ip hn τ ae;unfold j';split
  ·rename_i hc
   obtain ⟨XB,bA⟩:=hc;have g1:=MO (key:=key) (n:=n) (l:=l) (i:=i0);have g2:=YT (key:=key) (l:=l) XB;have g3:=aBg (key:=key) (n:=n) (l:=l) (i:=i0);have g4:=λ k au hn hp=>ajL (key:=key) (n:=n) (l:=l) (i:=i0) (k:=k) au hn hp;generalize aA:oc key n l i0=j at *
   have aM:∀ k,(swp l i0 j).getD k default=if k=j then l.getD i0 default else if k=i0 then l.getD j default else l.getD k default:=λ k=>D2 Ip (by omega)
   refine bK _ _ (by omega) (by rw [ml];omega) (by rw [ml];exact hn) (λ i ku dE eY=> ?_) (λ i ku dE hp zq=> ?_)
   ·rw [aM,aM];rw [aTL eY];by_cases e:(i - 1) / 2=i0
    ·rw [aTO e];by_cases bb:i=j
     ·rw [aTO bb];omega
     ·rw [aTL bb,aTL (by omega)];exact g4 i ku dE e
    ·rw [aTL e];by_cases bb:i=j
     ·omega
     ·rw [aTL bb];by_cases cP:i=i0
      ·rw [aTO cP];have:=ae j (by omega) g2 g3 (by omega);rw [cP];exact this
      ·rw [aTL cP];exact τ i ku dE e
   ·rw [aM,aM,g3];rw [aTL (by omega),aTO rfl,aTL (by omega),aTL (by omega)];have:=τ i ku dE (by omega);rw [hp] at this;exact this
  ·rename_i hc
   intro i ku dE;by_cases e:(i - 1) / 2=i0
   ·have XB:2 * i0+1<n:=by omega
    have:¬ key (l.getD (oc key n l i0) default)<key (l.getD i0 default):=λ h=>hc ⟨XB,h⟩;have:=ajL (key:=key) (n:=n) (l:=l) ku dE e;rw [e];omega
   ·exact τ i ku dE e
theorem Heap.min (h:Heap key n l):∀ i,i<n→key (l.getD 0 default)≤key (l.getD i default):=by
 intro i;induction i using Nat.strongRecOn with
 | ind i bK =>
  intro ar;by_cases aK:0<i
  ·exact Int.le_trans (bK ((i - 1) / 2) (by omega) (by omega)) (h i aK ar)
  ·have:i=0:=by omega
   subst this;exact aVa _
def push (key:α→Int) (l:List α) (x:α):List α:=qj key (l++ [x]) l.length
theorem Nc:(push key l x).length=l.length+1:=by unfold push;rw [aGN,aTE];rfl
theorem akP:(push key l x).Perm (x::l):=(aGO _ _ (by rw [aTE];simp)).trans (aXU x l)
theorem acE (h:k<l.length):(l++ [x]).getD k default=l.getD k default:=by
 rw [aTB,aTB,aTR h]
theorem aDH (h:Heap key l.length l):Heap key (push key l x).length (push key l x):=by
 rw [Nc];refine aGM _ _ _ (by omega) (by simp) (λ i ku dE eY=> ?_) (λ i ku dE hp aK=>by omega);rw [acE (by omega),acE (by omega)];exact h i ku (by omega)
def x_ (key:α→Int) (l:List α):List α:=j' key (l.length - 1) (swp l 0 (l.length - 1)) 0
def om (key:α→Int) (l:List α):List α:=(x_ key l).take (l.length - 1)
theorem akI:(x_ key l).length=l.length:=by unfold x_;rw [aep _ _ _ _ (aTK _),ml]
theorem I9:(om key l).length=l.length - 1:=by unfold om;rw [aTD,akI];omega
theorem akH (aK:0<l.length):(x_ key l).getD (l.length - 1) default=l.getD 0 default:=by
 unfold x_;by_cases τ:l.length - 1=0
 ·unfold j';rw [aTL (by omega),D2 aK (by omega),aTO rfl]
 ·rw [atm _ _ _ _ (aTK _) (by rw [ml];omega) (by rw [ml];omega) _ (aTK _) (by omega),D2 aK (by omega),aTO rfl]
theorem akK (aK:0<l.length):(l.getD 0 default::om key l).Perm l:=by
 have τ:(x_ key l).Perm l:=by
  unfold x_;exact (aeq _ _ _ _ (aTK _) (by rw [ml];omega) (by rw [ml];exact aK)).trans (D3 aK (by omega))
 have ae:om key l++ [l.getD 0 default]=x_ key l:=by
  have e:=akH (key:=key) aK;have aC:=akI (key:=key) (l:=l);unfold om;rw [← e,aTB,aTF (by omega),aUM];rw [← aT5 (by omega)];exact aT0 (by omega)
 exact ((aXU _ _).symm.trans (by rw [ae])).trans τ
theorem akJ (h:Heap key l.length l) (aK:0<l.length):Heap key (om key l).length (om key l):=by
 rw [I9];have hd:Heap key (l.length - 1) (x_ key l):=by
  unfold x_;refine atl _ _ _ _ (aTK _) (by rw [ml];exact aK) (by rw [ml];omega) (λ i ku dE eY=> ?_) (λ i _ _ _ aK=>absurd aK (by omega));rw [D2 aK (by omega),D2 aK (by omega),aTL (by omega),aTL eY,aTL (by omega),aTL (by omega)];exact h i ku (by omega)
 intro i ku dE;have aJ:∀ k,k<l.length - 1→(om key l).getD k default=(x_ key l).getD k default:=λ k au=>by
  unfold om;rw [aTB,aTB,aUf,aTO au]
 rw [aJ _ (by omega),aJ _ dE];exact hd i ku dE
theorem Heap.least (h:Heap key l.length l):∀ y∈l,key (l.getD 0 default)≤key y:=by
 intro y aF;obtain ⟨i,ar,rfl⟩:=aUB.1 aF;have:=h.min i ar
 rwa [show l.getD i default=l[i] by rw [aTB,aTF ar];rfl] at this
end
end cH
end
section
namespace qA
section
variable {α:Type} {c_:α→List α} {k h:α→Int} {src:α→Prop} {x y s b:α} {d rv D:Int} {aD Bf:α→Int} {Q qF:List (α×Int)} {rest:List α} {e:α×Int}
inductive oK (c_:α→List α) (k:α→Int) (src:α→Prop):α→Int→Prop
 | start {s:α} (hs:src s):oK c_ k src s 0
 | step {x y:α} {d:Int} (hx:oK c_ k src x d) (aF:y∈c_ x):oK c_ k src y (d+k y)
def tL (c_:α→List α) (k:α→Int) (src:α→Prop) (x:α) (d:Int):Prop:=oK c_ k src x d∧∀ rv,oK c_ k src x rv→d≤rv
structure jn (c_:α→List α) (k h:α→Int):Prop where
 rW:∀ x,∀ y∈c_ x,0<k y
 aK:∀ x,0≤h x
 au:∀ x,∀ y∈c_ x,h x≤k y+h y
theorem oK.r9 (o:jn c_ k h) (r:oK c_ k src x d):0≤d:=by
 induction r with
 | start _=>exact aVa 0
 | step _ aF bK=>have:=o.rW _ _ aF;omega
theorem tL.uniq (τ:tL c_ k src x d) (ae:tL c_ k src x rv):d=rv:=Int.le_antisymm (τ.2 _ ae.1) (ae.2 _ τ.1)
structure Inv (c_:α→List α) (k h:α→Int) (src:α→Prop) (aD:α→Int) (Q:List (α×Int)) (dp:α) (rest:List α):Prop where
 q:∀ e∈Q,(src e.1∧e.2=0)∨∃ p,0≤aD p∧e.1∈c_ p∧e.2=aD p+k e.1
 neg:∀ x,aD x<0→aD x= -1
 oP:∀ x,0≤aD x→tL c_ k src x (aD x)
 pred:∀ x,0≤aD x→(src x∧aD x=0)∨∃ p,0≤aD p∧x∈c_ p∧aD x=aD p+k x
 M_:∀ x,0≤aD x→∀ y∈c_ x,0≤aD y∨(y,aD x+k y)∈Q∨(x=dp∧y∈rest)
 Nw:∀ s,src s→0≤aD s∨(s,0)∈Q
 mono:∀ x,0≤aD x→∀ e∈Q,aD x+h x≤e.2+h e.1
 ana:rest≠ []→0≤aD dp∧(∀ y∈rest,y∈c_ dp)∧∀ z,0≤aD z→aD z+h z≤aD dp+h dp
theorem Inv.ak2 (i:Inv c_ k h src aD Q x rest) (he:e∈Q):oK c_ k src e.1 e.2:=by
 rcases i.q e he with ⟨τ,ae⟩ | ⟨p,τ,ae,aw⟩
 ·rw [ae];exact .start τ
 ·rw [aw];exact .step (i.oP p τ).1 ae
theorem Inv.front (o:jn c_ k h) (i:Inv c_ k h src aD Q s []) (r:oK c_ k src x d):aD x<0→∃ e∈Q,e.2+h e.1≤d+h x:=by
 induction r with
 | start hs =>
  intro hx;rcases i.Nw _ hs with τ | τ
  ·omega
  ·exact ⟨_,τ,aVa _⟩
 | @step x y d r aF bK =>
  intro aOw;by_cases hx:aD x<0
  ·obtain ⟨e,he,hle⟩:=bK hx;have:=o.au x y aF;exact ⟨e,he,by omega⟩
  ·rcases i.M_ x (by omega) y aF with τ | τ | ⟨_,τ⟩
   ·omega
   ·have:=(i.oP x (by omega)).2 d r;exact ⟨_,τ,by dsimp only;omega⟩
   ·simp at τ
theorem Inv.aDr (i:Inv c_ k h src aD Q x []) (hp:Q.Perm (e::qF)) (hd:0≤aD e.1):Inv c_ k h src aD qF x []:=by
 have hs:∀ z∈qF,z∈Q:=λ z bG=>hp.symm.subset (aTS _ bG);have I:∀ z∈Q,z=e∨z∈qF:=λ z bG=>aTZ.1 (hp.subset bG);refine ⟨λ z bG=>i.q z (hs z bG),i.neg,i.oP,i.pred,λ a ha c hc=> ?_,λ s azp=> ?_,λ a ha z bG=>i.mono a ha z (hs z bG),λ hn=>absurd Z hn⟩
 ·rcases i.M_ a ha c hc with τ | τ | τ
  ·exact .inl τ
  ·rcases I _ τ with ae | ae
   ·left;rw [← ae] at hd;exact hd
   ·exact .inr (.inl ae)
  ·exact .inr (.inr τ)
 ·rcases i.Nw s azp with τ | τ
  ·exact .inl τ
  ·rcases I _ τ with ae | ae
   ·left;rw [← ae] at hd;exact hd
   ·exact .inr ae
theorem Inv.aDq (o:jn c_ k h) (i:Inv c_ k h src aD Q s []) (hp:Q.Perm (e::qF)) (hd:aD e.1<0) (ag0:∀ z∈Q,e.2+h e.1≤z.2+h z.1) (LK:Bf e.1=e.2) (eY:∀ z,z≠e.1→Bf z=aD z):Inv c_ k h src Bf qF e.1 (c_ e.1)∧0≤e.2:=by
 have hs:∀ z∈qF,z∈Q:=λ z bG=>hp.symm.subset (aTS _ bG);have I:∀ z∈Q,z=e∨z∈qF:=λ z bG=>aTZ.1 (hp.subset bG);have Ik:e∈Q:=hp.symm.subset aT1;have ahB:=i.ak2 Ik;have kv:=ahB.r9 o;have mT:∀ z,0≤aD z→Bf z=aD z:=λ z bG=>eY z (λ aY=>by rw [aY] at bG;omega);have vD:tL c_ k src e.1 e.2:=⟨ahB,λ rv r=>by
  obtain ⟨z,bG,hle⟩:=i.front o r hd;have:=ag0 z bG
  omega⟩
 have agP:∀ a,0≤Bf a→Bf a+h a≤e.2+h e.1:=λ a ha=>by
  by_cases aY:a=e.1
  ·subst aY;omega
  ·rw [eY a aY] at ha ⊢;exact i.mono a ha e Ik
 refine ⟨⟨λ z bG=> ?_,λ a ha=> ?_,λ a ha=> ?_,λ a ha=> ?_,λ a ha c hc=> ?_,λ a ha=> ?_,λ a ha z bG=> ?_,λ _=>⟨by omega,λ y aF=>aF,λ a ha=>by rw [LK];exact agP a ha⟩⟩,kv⟩
 ·rcases i.q z (hs z bG) with τ | ⟨p,τ,ae,aw⟩
  ·exact .inl τ
  ·exact .inr ⟨p,by rw [mT p τ];exact τ,ae,by rw [mT p τ];exact aw⟩
 ·by_cases aY:a=e.1
  ·subst aY;omega
  ·rw [eY a aY] at ha ⊢;exact i.neg a ha
 ·by_cases aY:a=e.1
  ·rw [aY,LK];exact vD
  ·rw [eY a aY] at ha ⊢;exact i.oP a ha
 ·by_cases aY:a=e.1
  ·rw [aY,LK];rcases i.q e Ik with τ | ⟨p,τ,ae,aw⟩
   ·exact .inl τ
   ·exact .inr ⟨p,by rw [mT p τ];exact τ,ae,by rw [mT p τ];exact aw⟩
  ·rw [eY a aY] at ha ⊢;rcases i.pred a ha with τ | ⟨p,τ,ae,aw⟩
   ·exact .inl τ
   ·exact .inr ⟨p,by rw [mT p τ];exact τ,ae,by rw [mT p τ];exact aw⟩
 ·by_cases aY:a=e.1
  ·exact .inr (.inr ⟨aY,by rw [← aY];exact hc⟩)
  ·rw [eY a aY] at ha ⊢;rcases i.M_ a ha c hc with τ | τ | ⟨_,τ⟩
   ·left;rw [mT c τ];exact τ
   ·rcases I _ τ with ae | ae
    ·left;have:c=e.1:=by rw [← ae]
     rw [this,LK];exact kv
    ·exact .inr (.inl ae)
   ·simp at τ
 ·rcases i.Nw a ha with τ | τ
  ·left;rw [mT a τ];exact τ
  ·rcases I _ τ with ae | ae
   ·left;have:a=e.1:=by rw [← ae]
    rw [this,LK];exact kv
   ·exact .inr ae
 ·have:=agP a ha;have:=ag0 z (hs z bG);omega
theorem Inv.push (o:jn c_ k h) (i:Inv c_ k h src aD Q x (y::rest)) (hp:qF.Perm ((y,aD x+k y)::Q)):Inv c_ k h src aD qF x rest:=by
 have hs:∀ z∈Q,z∈qF:=λ z bG=>hp.symm.subset (aTS _ bG);have hn:(y,aD x+k y)∈qF:=hp.symm.subset aT1;have I:∀ z∈qF,z=(y,aD x+k y)∨z∈Q:=λ z bG=>aTZ.1 (hp.subset bG);obtain ⟨d_,eU,jj⟩:=i.ana (by simp);have ahL:=eU y aT1;refine ⟨λ z bG=> ?_,i.neg,i.oP,i.pred,λ a ha c hc=> ?_,λ a ha=>(i.Nw a ha).imp id (hs _),λ a ha z bG=> ?_,λ _=>⟨d_,λ c hc=>eU c (aTS _ hc),jj⟩⟩
 ·rcases I z bG with rfl | τ
  ·exact .inr ⟨x,d_,ahL,Z⟩
  ·exact i.q z τ
 ·rcases i.M_ a ha c hc with τ | τ | ⟨τ,ae⟩
  ·exact .inl τ
  ·exact .inr (.inl (hs _ τ))
  ·rcases aTZ.1 ae with aw | aw
   ·subst τ;subst aw;exact .inr (.inl hn)
   ·exact .inr (.inr ⟨τ,aw⟩)
 ·rcases I z bG with rfl | τ
  ·have:=jj a ha;have:=o.au x y ahL;dsimp only;omega
  ·exact i.mono a ha z τ
theorem Inv.skip (i:Inv c_ k h src aD Q x (y::rest)) (aF:0≤aD y):Inv c_ k h src aD Q x rest:=by
 obtain ⟨d_,eU,jj⟩:=i.ana (by simp);refine ⟨i.q,i.neg,i.oP,i.pred,λ a ha c hc=> ?_,i.Nw,i.mono,λ _=>⟨d_,λ c hc=>eU c (aTS _ hc),jj⟩⟩;rcases i.M_ a ha c hc with τ | τ | ⟨τ,ae⟩
 ·exact .inl τ
 ·exact .inr (.inl τ)
 ·rcases aTZ.1 ae with aw | aw
  ·subst aw;exact .inl aF
  ·exact .inr (.inr ⟨τ,aw⟩)
theorem Inv.start (hn:∀ x,aD x= -1) (I:∀ e∈Q,src e.1∧e.2=0) (hs:∀ s,src s→(s,0)∈Q):Inv c_ k h src aD Q x [] :=
 ⟨λ e he=> .inl (I e he),λ a _=>hn a,λ a ha=>by rw [hn a] at ha;omega,λ a ha=>by rw [hn a] at ha;omega,λ a ha=>by rw [hn a] at ha;omega,λ s τ=> .inr (hs s τ),λ a ha=>by rw [hn a] at ha;omega,λ τ=>absurd rfl τ⟩
theorem Inv.all (o:jn c_ k h) (i:Inv c_ k h src aD [] s []) (r:oK c_ k src x d):0≤aD x:=by
 by_cases hx:aD x<0
 ·obtain ⟨e,he,_⟩:=i.front o r hx;simp at he
 ·omega
structure Spec (c_:α→List α) (k h:α→Int) (src:α→Prop) (b:α) (aD:α→Int):Prop where
 neg:∀ x,aD x<0→aD x= -1
 oP:∀ x,0≤aD x→tL c_ k src x (aD x)∧∀ D,tL c_ k src b D→aD x+h x≤D
 known:∀ x d,tL c_ k src x d→(∀ D,tL c_ k src b D→d+h x≤D)→aD x=d
 pred:∀ x,0≤aD x→(src x∧aD x=0)∨∃ p,0≤aD p∧x∈c_ p∧aD x=aD p+k x
theorem Spec.uniq (s1:Spec c_ k h src b aD) (s2:Spec c_ k h src b Bf) (x:α):aD x=Bf x:=by
 by_cases τ:0≤aD x
 ·exact (s2.known x _ (s1.oP x τ).1 (s1.oP x τ).2).symm
 ·by_cases ae:0≤Bf x
  ·exact s1.known x _ (s2.oP x ae).1 (s2.oP x ae).2
  ·rw [s1.neg x (by omega),s2.neg x (by omega)]
theorem Inv.ends (o:jn c_ k h) (i:Inv c_ k h src aD Q s []) (γ:h b=0) (hm:0≤aD b→∀ x,0≤aD x→aD x+h x≤aD b) (he:(0≤aD b∧∀ e∈Q,aD b<e.2+h e.1)∨Q= []):Spec c_ k h src b aD:=by
 refine ⟨i.neg,λ x hx=>⟨i.oP x hx,λ D vD=> ?_⟩,λ x d hd hle=> ?_,i.pred⟩
 ·by_cases τ:0≤aD b
  ·have:=hm τ x hx;rw [vD.uniq (i.oP b τ)];exact this
  ·rcases he with he | he
   ·omega
   ·subst he;exact absurd (i.all o vD.1) τ
 ·by_cases τ:aD x<0
  ·obtain ⟨e,Ik,au⟩:=i.front o hd.1 τ;rcases he with ⟨ae,aw⟩ | ae
   ·have:=hle _ (i.oP b ae);have:=aw e Ik;omega
   ·subst ae;simp at Ik
  ·exact (i.oP x (by omega)).uniq hd
theorem Spec.end_ (s:Spec c_ k h src b aD) (γ:h b=0) (hd:tL c_ k src b D):aD b=D:=s.known b D hd λ aJv τ=>by rw [γ,hd.uniq τ];omega
theorem oK.ahS (o:jn c_ k h) (r:oK c_ k src x d):∃ d,tL c_ k src x d:=by
 have:∀ n:Nat,∀ d,oK c_ k src x d→d.toNat=n→∃ d,tL c_ k src x d:=by
  intro n;induction n using Nat.strongRecOn with
  | ind n bK =>
   intro d r hn;by_cases hex:∃ rv,oK c_ k src x rv∧rv<d
   ·obtain ⟨rv,r',bA⟩:=hex;have:=r'.r9 o;exact bK rv.toNat (by omega) rv r' Z
   ·exact ⟨d,r,λ rv r'=>by
     by_cases bA:rv<d
     ·exact absurd ⟨rv,r',bA⟩ hex
     ·omega⟩
 exact this _ d r Z
end
end qA
end
end Go.Proofs.YtmeeljmapailnaaGreat
