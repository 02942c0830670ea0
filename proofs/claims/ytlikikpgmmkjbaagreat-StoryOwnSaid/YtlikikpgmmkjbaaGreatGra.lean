import Derived.Test.YtlikikpgmmkjbaaGreatGol
set_option linter.unusedVariables false
set_option linter.unusedSimpArgs false
set_option maxRecDepth 100000
set_option maxHeartbeats 4000000
namespace Go.Proofs.YtlikikpgmmkjbaaGreat
open Tryz
section
open Go.RowKit
theorem cj {B:List Nat} {b n:Nat} (u:∀ q∈B,q<n) (h:n≤b):∀ q∈B,q∈ [b]→False:=fun q I Φ=>by have:=u q I;have:=List.mem_singleton.1 Φ;omega
theorem b9 {B:List Nat} {b n:Nat} (u:∀ q∈B,n≤q) (h:b<n):∀ q∈B,q∈ [b]→False:=fun q I Φ=>by have:=u q I;have:=List.mem_singleton.1 Φ;omega
theorem bb {a b:Nat} (h:a≠b):a∉ [b]:=fun e=>h (List.mem_singleton.1 e)
section
variable {P:Program} {n:Nat} {ops:Array Oper} {Q:Exit→Act→World→Prop} {E:List (Nat×Value)} {w w' w0:World} {v:Value} {ty:TypeId} {pos:String} {bn:Array Edge} {x:Operand} {rest:List Oper} {d i:Nat} {bN:List Nat} {aR:Nat→Nat}
theorem ah {y:Code} (h:W P n y Q E w):cm P n ops (oY P y Q) [] E w:=nl (a6 h)
theorem aj {id:Nat} {l:List Oper} {y:Code} (h:cm P n l.toArray (oY P y Q) l E w):W P n (.seq (.region id l.toArray false) y) Q E w:=aD (rg h)
theorem bx {y:Code} (h:W P n y Q E w):W P n .skip (oY P y Q) E w:=hk (a6 h)
theorem J {op:Op} (hr:c8 P E ⟨some d,op,ty,pos,bn,none⟩ w v w') (h:cm P n ops Q rest ((d,v)::E) w') (hd:Nat.blt d n=true:=by rfl):cm P n ops Q (⟨some d,op,ty,pos,bn,none⟩::rest) E w:=gR hr hd h
theorem vm (hx:ev E x=some v) (h:cm P n ops Q rest ((d,v)::E) w) (hd:Nat.blt d n=true:=by rfl):cm P n ops Q (⟨some d, .move x,ty,pos,bn,none⟩::rest) E w:=gR (aJ hx) hd h
theorem va (hx:ev E x=some v) (h:cm P n ops Q rest ((d,v)::E) w) (hd:Nat.blt d n=true:=by rfl):cm P n ops Q (⟨some d, .assign x,ty,pos,bn,none⟩::rest) E w:=gR (eV hx) hd h
theorem aq {op:Op} (ao:ops[i]? =some ⟨some d,op,ty,pos,bn,none⟩) (hr:∀ w,c8 P E ⟨some d,op,ty,pos,bn,none⟩ w v w) (h:iz P n ops Q aR bN ((d,v)::E) w0) (av:aR i=1:=by rfl) (hd:Nat.blt d n=true:=by rfl):iz P n ops Q aR (i::bN) E w0:=r7 ao av hr hd h
theorem bD {op:Op} (ao:ops[i]? =some ⟨some d,op,ty,pos,bn,none⟩) (hr:∀ w,Ext w0 w→c8 P E ⟨some d,op,ty,pos,bn,none⟩ w v w) (h:iz P n ops Q aR bN ((d,v)::E) w0) (av:aR i=0:=by rfl) (hd:Nat.blt d n=true:=by rfl):iz P n ops Q aR (i::bN) E w0:=XM ao av hr hd h
end
theorem rv:∀ {cE E:List (Nat×Value)},cE.map (fun p=>look E p.1)=cE.map (fun p=>some p.2)→Sub cE E
 | [],_,_=>Sub.nil
 | (k,v)::r,E,h=>have cU:look E k::r.map (fun p=>look E p.1)=some v::r.map (fun p=>some p.2):=h
  Sub.cons (List.cons.inj cU).1 (rv (List.cons.inj cU).2)
theorem cB:(∀ (a b:Bool),((a || b)=true)↔(a=true∨b=true))∧(∀ (a b:Bool),((a || b)=false)↔(a=false∧b=false))∧(∀ (a b:Bool),((a && b)=true)↔(a=true∧b=true))∧(∀ (a b:Bool),((a && b)=false)↔(a=false∨b=false))∧(∀ (p:Prop) [Decidable p],(decide p=true)↔p)∧(∀ (p:Prop) [Decidable p],(decide p=false)↔¬ p)∧(∀ (α:Type) [BEq α] [LawfulBEq α] (a b:α),((a == b)=true)↔(a=b))∧(∀ (α:Type) [BEq α] [LawfulBEq α] (a b:α),((a != b)=true)↔(a≠b))∧(∀ (α:Type) [BEq α] [LawfulBEq α] (a b:α),((a == b)=false)↔(a≠b))∧(∀ (α:Type) [BEq α] [LawfulBEq α] (a b:α),((a != b)=false)↔(a=b))∧(∀ b:Bool,((!b)=true)↔(b=false))∧(∀ b:Bool,((!b)=false)↔(b=true))∧(∀ b:Bool,(¬ (b=true))↔(b=false))∧(∀ b:Bool,(¬ (b=false))↔(b=true))∧(∀ a b:Int,(¬ a<b)↔b≤a)∧(∀ a b:Int,(¬ a≤b)↔b<a)∧(∀ a b:Nat,(¬ a<b)↔b≤a)∧(∀ a b:Nat,(¬ a≤b)↔b<a)∧(∀ (α:Type) (a b:α),(a≠b)↔¬ (a=b))∧(∀ p:Prop,(¬ ¬ p)↔p):=
 ⟨fun a b=>by cases a<;>cases b<;>simp,fun a b=>by cases a<;>cases b<;>simp,fun a b=>by cases a<;>cases b<;>simp,fun a b=>by cases a<;>cases b<;>simp,fun p _=>by simp,fun p _=>by simp,fun α _ _ a b=>by simp,fun α _ _ a b=>by simp,fun α _ _ a b=>by simp,fun α _ _ a b=>by simp,fun b=>by simp,fun b=>by simp,fun b=>by simp,fun b=>by simp,fun _ _=>Int.not_lt,fun _ _=>Int.not_le,fun _ _=>Nat.not_lt,fun _ _=>Nat.not_le,fun _ _ _=>Iff.rfl,fun _=>Classical.not_not⟩
theorem a8 (j:Nat) {n:Nat} (h:j<n):0<n:=Nat.zero_lt_of_lt h
theorem τ {a b c:World} (h:Ext a b) (k:Ext b c):Ext a c:=Ext.iK h k
theorem bR {b n:Nat} (h:n≤b):∀ q∈ [b],n≤q:=fun q I=>by rw [List.mem_singleton.1 I];exact h
theorem gJ:Fd prog 49 0 0:=fun _ _ _=>by kernel_rfl
theorem aZ:eL prog 3 false:=fun _=>by kernel_rfl
theorem hh:Fd prog 49 1 1:=fun _ _ _=>by kernel_rfl
theorem bZ:eL prog 49 true:=fun _=>by kernel_rfl
theorem bE:ej prog 49 2:=fun _=>by kernel_rfl
theorem J5:Enters prog 193 :=cd func193 (by kernel_rfl) (by kernel_rfl)
theorem J7:Enters prog 194 :=cd func194 (by kernel_rfl) (by kernel_rfl)
theorem cz:ej prog 3 1:=fun _=>by kernel_rfl
theorem mL:ej prog 313 4:=fun _=>by kernel_rfl
theorem J8:Fd prog 313 2 3:=fun _ _ _=>by kernel_rfl
theorem JT:eL prog 313 true:=fun _=>by kernel_rfl
theorem nF:eL prog 263 false:=fun _=>by kernel_rfl
theorem JX:Enters prog 265 :=cd func265 (by kernel_rfl) (by kernel_rfl)
theorem JZ:Enters prog 266 :=cd func266 (by kernel_rfl) (by kernel_rfl)
theorem W9:ej prog 263 1:=fun _=>by kernel_rfl
theorem Xa:mI prog 313 (.agg #[.int .i64 0, .int .i64 0, .int .i64 0, .int .i64 0]):=fun _=>by kernel_rfl
theorem ajh:Enters prog 268 :=cd func268 (by kernel_rfl) (by kernel_rfl)
theorem FV:Enters prog 219 :=cd func219 (by kernel_rfl) (by kernel_rfl)
theorem ajp:Enters prog 239 :=cd func239 (by kernel_rfl) (by kernel_rfl)
theorem ajz:Enters prog 240 :=cd func240 (by kernel_rfl) (by kernel_rfl)
theorem ajI:Enters prog 267 :=cd func267 (by kernel_rfl) (by kernel_rfl)
theorem Xj:Fd prog 265 0 0:=fun _ _ _=>by kernel_rfl
theorem OA:Fd prog 24 0 0:=fun _ _ _=>by kernel_rfl
theorem kb:eL prog 24 true:=fun _=>by kernel_rfl
theorem kc:ej prog 24 3:=fun _=>by kernel_rfl
theorem o4:Enters prog 158 :=cd func158 (by kernel_rfl) (by kernel_rfl)
theorem ajP:Enters prog 199 :=cd func199 (by kernel_rfl) (by kernel_rfl)
theorem ajQ:mI prog 260 (.agg #[.int .i64 0, .int .i64 0, .int .i64 0, .int .i64 0, .int .i64 0, .int .i64 0, .int .i64 0, .int .i64 0]):=fun _=>by kernel_rfl
theorem Xk:ej prog 260 8:=fun _=>by kernel_rfl
theorem ajR:eL prog 260 true:=fun _=>by kernel_rfl
theorem Xl:Fd prog 265 1 3:=fun _ _ _=>by kernel_rfl
theorem Xm:Enters prog 161 :=cd func161 (by kernel_rfl) (by kernel_rfl)
theorem A6:Fd prog 265 3 6:=fun _ _ _=>by kernel_rfl
theorem ajS:Enters prog 218 :=cd func218 (by kernel_rfl) (by kernel_rfl)
theorem kU:Enters prog 166 :=cd func166 (by kernel_rfl) (by kernel_rfl)
theorem mK:Fd prog 265 2 5:=fun _ _ _=>by kernel_rfl
theorem fl:eL prog 22 false:=fun _=>by kernel_rfl
theorem ajT:Enters prog 220 :=cd func220 (by kernel_rfl) (by kernel_rfl)
theorem OB:Fd prog 313 0 0:=fun _ _ _=>by kernel_rfl
theorem Xn:Fd prog 313 1 2:=fun _ _ _=>by kernel_rfl
theorem Xo:Enters prog 165 :=cd func165 (by kernel_rfl) (by kernel_rfl)
theorem tB:mI prog 49 (.agg #[.int .i64 0, .int .i64 0]):=fun _=>by kernel_rfl
theorem OC:Enters prog 164 :=cd func164 (by kernel_rfl) (by kernel_rfl)
theorem OD:Enters prog 197 :=cd func197 (by kernel_rfl) (by kernel_rfl)
theorem ajU:Enters prog 217 :=cd func217 (by kernel_rfl) (by kernel_rfl)
theorem vt:Fd prog 24 2 2:=fun _ _ _=>by kernel_rfl
theorem Xp:Enters prog 196 :=cd func196 (by kernel_rfl) (by kernel_rfl)
theorem Xq:Enters prog 198 :=cd func198 (by kernel_rfl) (by kernel_rfl)
theorem Xr:Enters prog 163 :=cd func163 (by kernel_rfl) (by kernel_rfl)
theorem ajV:Enters prog 167 :=cd func167 (by kernel_rfl) (by kernel_rfl)
theorem ajW:Enters prog 216 :=cd func216 (by kernel_rfl) (by kernel_rfl)
theorem Xs:Enters prog 195 :=cd func195 (by kernel_rfl) (by kernel_rfl)
theorem J6:Fd prog 66 2 2:=fun _ _ _=>by kernel_rfl
theorem OE:Enters prog 128 :=cd func128 (by kernel_rfl) (by kernel_rfl)
theorem OG:mI prog 207 (.agg #[.int .i64 0, .int .i64 0, .int .i64 0, .int .i64 0]):=fun _=>by kernel_rfl
theorem OH:ej prog 207 4:=fun _=>by kernel_rfl
theorem q2:Fd prog 66 3 3:=fun _ _ _=>by kernel_rfl
theorem A7:Fd prog 66 1 1:=fun _ _ _=>by kernel_rfl
theorem ajX:Fd prog 207 1 1:=fun _ _ _=>by kernel_rfl
theorem o5:Fd prog 28 0 0:=fun _ _ _=>by kernel_rfl
theorem ajY:Enters prog 162 :=cd func162 (by kernel_rfl) (by kernel_rfl)
theorem dr:eL prog 28 true:=fun _=>by kernel_rfl
theorem b2:ej prog 28 9:=fun _=>by kernel_rfl
theorem Df:Enters prog 56 :=cd func56 (by kernel_rfl) (by kernel_rfl)
theorem iB:Fd prog 28 4 6:=fun _ _ _=>by kernel_rfl
theorem jW:eL prog 26 false:=fun _=>by kernel_rfl
theorem h2:ej prog 66 7:=fun _=>by kernel_rfl
theorem vu:eL prog 66 true:=fun _=>by kernel_rfl
theorem FX:mI prog 66 (.agg #[.int .i64 0, .int .i64 0, .int .i64 0, .int .i64 0, .int .i64 0, .int .i64 0, .int .i64 0]):=fun _=>by kernel_rfl
theorem Dg:Fd prog 66 0 0:=fun _ _ _=>by kernel_rfl
theorem OI:ej prog 223 2:=fun _=>by kernel_rfl
theorem ajZ:eL prog 223 true:=fun _=>by kernel_rfl
theorem aj0:mI prog 223 (.agg #[.int .i64 0, .int .i64 0]):=fun _=>by kernel_rfl
theorem aj1:Fd prog 223 0 0:=fun _ _ _=>by kernel_rfl
theorem OJ:mI prog 3 (.int .i64 0):=fun _=>by kernel_rfl
theorem aj2:Fd prog 223 1 1:=fun _ _ _=>by kernel_rfl
theorem OK:ej prog 4 1:=fun _=>by kernel_rfl
theorem aj3:eL prog 4 false:=fun _=>by kernel_rfl
theorem aj4:Enters prog 134 :=cd func134 (by kernel_rfl) (by kernel_rfl)
theorem aj5:Fd prog 207 2 2:=fun _ _ _=>by kernel_rfl
theorem l8:mI prog 28 (.agg #[.int .i64 0, .int .i64 0, .slice none 0 0, .slice none 0 0, .slice none 0 0, .slice none 0 0, .slice none 0 0, .int .i64 0, .int .i64 0]):=fun _=>by kernel_rfl
theorem A8:Enters prog 27 :=cd func27 (by kernel_rfl) (by kernel_rfl)
theorem yP:ej prog 22 1:=fun _=>by kernel_rfl
theorem q3:Fd prog 28 1 3:=fun _ _ _=>by kernel_rfl
theorem tC:eL prog 25 false:=fun _=>by kernel_rfl
theorem vv:Fd prog 28 2 4:=fun _ _ _=>by kernel_rfl
theorem Xt:Enters prog 101 :=cd func101 (by kernel_rfl) (by kernel_rfl)
theorem Xu:ej prog 25 1:=fun _=>by kernel_rfl
theorem A9:Fd prog 28 3 5:=fun _ _ _=>by kernel_rfl
theorem OL:Enters prog 26 :=cd func26 (by kernel_rfl) (by kernel_rfl)
theorem J9:ej prog 26 1:=fun _=>by kernel_rfl
theorem aj6:Enters prog 95 :=cd func95 (by kernel_rfl) (by kernel_rfl)
theorem aj7:Enters prog 96 :=cd func96 (by kernel_rfl) (by kernel_rfl)
theorem Dh:Fd prog 66 4 5:=fun _ _ _=>by kernel_rfl
theorem OM:ej prog 225 3:=fun _=>by kernel_rfl
theorem aj8:eL prog 225 true:=fun _=>by kernel_rfl
theorem aj9:Fd prog 225 0 0:=fun _ _ _=>by kernel_rfl
theorem Di:eL prog 227 false:=fun _=>by kernel_rfl
theorem aka:Enters prog 136 :=cd func136 (by kernel_rfl) (by kernel_rfl)
theorem akb:mI prog 227 (.pointer none):=fun _=>by kernel_rfl
theorem aiS:ej prog 227 1:=fun _=>by kernel_rfl
theorem aiT:Enters prog 135 :=cd func135 (by kernel_rfl) (by kernel_rfl)
theorem aiU:Fd prog 225 1 1:=fun _ _ _=>by kernel_rfl
theorem aiV:Enters prog 137 :=cd func137 (by kernel_rfl) (by kernel_rfl)
theorem aiW:Enters prog 97 :=cd func97 (by kernel_rfl) (by kernel_rfl)
theorem aiX:Enters prog 98 :=cd func98 (by kernel_rfl) (by kernel_rfl)
theorem vr:Fd prog 178 1 1:=fun _ _ _=>by kernel_rfl
theorem JU:Enters prog 168 :=cd func168 (by kernel_rfl) (by kernel_rfl)
theorem JV:Enters prog 169 :=cd func169 (by kernel_rfl) (by kernel_rfl)
theorem yK:Fd prog 66 5 6:=fun _ _ _=>by kernel_rfl
theorem JW:Fd prog 178 2 2:=fun _ _ _=>by kernel_rfl
theorem lh:Fd prog 176 0 0:=fun _ _ _=>by kernel_rfl
theorem aiY:Enters prog 202 :=cd func202 (by kernel_rfl) (by kernel_rfl)
theorem W7:Fd prog 178 3 4:=fun _ _ _=>by kernel_rfl
theorem W8:Fd prog 207 3 3:=fun _ _ _=>by kernel_rfl
theorem FR:Fd prog 28 5 7:=fun _ _ _=>by kernel_rfl
theorem aiZ:Enters prog 170 :=cd func170 (by kernel_rfl) (by kernel_rfl)
theorem ai0:Fd prog 207 0 0:=fun _ _ _=>by kernel_rfl
theorem ai1:Fd prog 178 0 0:=fun _ _ _=>by kernel_rfl
theorem FT:eL prog 178 true:=fun _=>by kernel_rfl
theorem A4:ej prog 178 5:=fun _=>by kernel_rfl
theorem ai2:Enters prog 138 :=cd func138 (by kernel_rfl) (by kernel_rfl)
theorem ai3:Enters prog 139 :=cd func139 (by kernel_rfl) (by kernel_rfl)
theorem ai4:Enters prog 140 :=cd func140 (by kernel_rfl) (by kernel_rfl)
theorem ai5:Enters prog 99 :=cd func99 (by kernel_rfl) (by kernel_rfl)
theorem ai6:mI prog 176 (.agg #[.int .i64 0, .int .i64 0, .slice none 0 0, .slice none 0 0, .slice none 0 0, .slice none 0 0, .slice none 0 0, .int .i64 0, .int .i64 0]):=fun _=>by kernel_rfl
theorem ai7:ej prog 176 9:=fun _=>by kernel_rfl
theorem ai8:mI prog 178 (.agg #[.int .i64 0, .int .i64 0, .int .i64 0, .int .i64 0, .int .i64 0]):=fun _=>by kernel_rfl
theorem ai9:Enters prog 100 :=cd func100 (by kernel_rfl) (by kernel_rfl)
theorem JY:mI prog 51 (.agg #[.int .i64 0, .int .i64 0, .int .i64 0, .int .i64 0, .int .i64 0, .int .i64 0]):=fun _=>by kernel_rfl
theorem nG:Fd prog 51 1 1:=fun _ _ _=>by kernel_rfl
theorem yL:Fd prog 51 2 2:=fun _ _ _=>by kernel_rfl
theorem yM:Fd prog 51 3 3:=fun _ _ _=>by kernel_rfl
theorem yN:Fd prog 51 4 5:=fun _ _ _=>by kernel_rfl
theorem je:eL prog 51 true:=fun _=>by kernel_rfl
theorem e6:ej prog 51 6:=fun _=>by kernel_rfl
theorem w1:Fd prog 51 0 0:=fun _ _ _=>by kernel_rfl
theorem Dd:Enters prog 145 :=cd func145 (by kernel_rfl) (by kernel_rfl)
theorem aja:Enters prog 146 :=cd func146 (by kernel_rfl) (by kernel_rfl)
theorem ajb:Enters prog 104 :=cd func104 (by kernel_rfl) (by kernel_rfl)
theorem Oq:Fd prog 169 0 0:=fun _ _ _=>by kernel_rfl
theorem W_:eL prog 123 false:=fun _=>by kernel_rfl
theorem ajc:ej prog 123 1:=fun _=>by kernel_rfl
theorem Ot:Fd prog 169 1 1:=fun _ _ _=>by kernel_rfl
theorem W':eL prog 124 false:=fun _=>by kernel_rfl
theorem ajd:ej prog 124 1:=fun _=>by kernel_rfl
theorem A5:Fd prog 169 2 2:=fun _ _ _=>by kernel_rfl
theorem J0:eL prog 125 false:=fun _=>by kernel_rfl
theorem Ou:ej prog 125 1:=fun _=>by kernel_rfl
theorem Ov:Enters prog 87 :=cd func87 (by kernel_rfl) (by kernel_rfl)
theorem aje:mI prog 169 (.agg #[.slice none 0 0, .slice none 0 0, .slice none 0 0]):=fun _=>by kernel_rfl
theorem Xb:Enters prog 94 :=cd func94 (by kernel_rfl) (by kernel_rfl)
theorem FU:mI prog 60 (.agg #[.slice none 0 0, .slice none 0 0, .slice none 0 0]):=fun _=>by kernel_rfl
theorem Ow:Enters prog 60 :=cd func60 (by kernel_rfl) (by kernel_rfl)
theorem yO:ej prog 60 3:=fun _=>by kernel_rfl
theorem J1:eL prog 60 true:=fun _=>by kernel_rfl
theorem De:Fd prog 28 6 8:=fun _ _ _=>by kernel_rfl
theorem Xc:Enters prog 61 :=cd func61 (by kernel_rfl) (by kernel_rfl)
theorem ajf:Fd prog 60 0 0:=fun _ _ _=>by kernel_rfl
theorem ajg:Enters prog 62 :=cd func62 (by kernel_rfl) (by kernel_rfl)
theorem aji:Fd prog 60 1 1:=fun _ _ _=>by kernel_rfl
theorem ajj:Enters prog 63 :=cd func63 (by kernel_rfl) (by kernel_rfl)
theorem ajk:Fd prog 60 2 2:=fun _ _ _=>by kernel_rfl
theorem ajl:ej prog 58 1:=fun _=>by kernel_rfl
theorem Xd:Enters prog 92 :=cd func92 (by kernel_rfl) (by kernel_rfl)
theorem ajm:Enters prog 83 :=cd func83 (by kernel_rfl) (by kernel_rfl)
theorem ajn:Fd prog 24 1 1:=fun _ _ _=>by kernel_rfl
theorem J2:Enters prog 57 :=cd func57 (by kernel_rfl) (by kernel_rfl)
theorem ajo:Enters prog 58 :=cd func58 (by kernel_rfl) (by kernel_rfl)
theorem Xe:Enters prog 20 :=cd func20 (by kernel_rfl) (by kernel_rfl)
theorem p2:ej prog 44 1:=fun _=>by kernel_rfl
theorem tA:eL prog 44 false:=fun _=>by kernel_rfl
theorem Xf:Enters prog 25 :=cd func25 (by kernel_rfl) (by kernel_rfl)
theorem w2:Fd prog 31 0 0:=fun _ _ _=>by kernel_rfl
theorem kC:Fd prog 31 1 9:=fun _ _ _=>by kernel_rfl
theorem l7:eL prog 29 false:=fun _=>by kernel_rfl
theorem FW:Enters prog 47 :=cd func47 (by kernel_rfl) (by kernel_rfl)
theorem q1:eL prog 31 true:=fun _=>by kernel_rfl
theorem lj:ej prog 31 10:=fun _=>by kernel_rfl
theorem Ox:Enters prog 46 :=cd func46 (by kernel_rfl) (by kernel_rfl)
theorem ajq:Enters prog 115 :=cd func115 (by kernel_rfl) (by kernel_rfl)
theorem ajr:Enters prog 84 :=cd func84 (by kernel_rfl) (by kernel_rfl)
theorem ajs:Enters prog 85 :=cd func85 (by kernel_rfl) (by kernel_rfl)
theorem ajt:mI prog 44 (.slice none 0 0):=fun _=>by kernel_rfl
theorem aju:Enters prog 86 :=cd func86 (by kernel_rfl) (by kernel_rfl)
theorem ajv:Enters prog 121 :=cd func121 (by kernel_rfl) (by kernel_rfl)
theorem ajw:Enters prog 79 :=cd func79 (by kernel_rfl) (by kernel_rfl)
theorem Xg:Enters prog 51 :=cd func51 (by kernel_rfl) (by kernel_rfl)
theorem ajx:Enters prog 53 :=cd func53 (by kernel_rfl) (by kernel_rfl)
theorem ajy:Enters prog 52 :=cd func52 (by kernel_rfl) (by kernel_rfl)
theorem ajA:ej prog 9 1:=fun _=>by kernel_rfl
theorem ajB:eL prog 9 false:=fun _=>by kernel_rfl
theorem ajC:Enters prog 54 :=cd func54 (by kernel_rfl) (by kernel_rfl)
theorem ajD:Enters prog 55 :=cd func55 (by kernel_rfl) (by kernel_rfl)
theorem ajE:Enters prog 48 :=cd func48 (by kernel_rfl) (by kernel_rfl)
theorem J3:mI prog 31 (.agg #[.int .i64 0, .int .i64 0, .slice none 0 0, .slice none 0 0, .slice none 0 0, .slice none 0 0, .slice none 0 0, .int .i64 0, .int .i64 0, .slice none 0 0]):=fun _=>by kernel_rfl
theorem Xh:Enters prog 13 :=cd func13 (by kernel_rfl) (by kernel_rfl)
theorem ajF:Enters prog 16 :=cd func16 (by kernel_rfl) (by kernel_rfl)
theorem ajG:Enters prog 17 :=cd func17 (by kernel_rfl) (by kernel_rfl)
theorem ajH:Enters prog 18 :=cd func18 (by kernel_rfl) (by kernel_rfl)
theorem Oy:Enters prog 19 :=cd func19 (by kernel_rfl) (by kernel_rfl)
theorem J4:Enters prog 28 :=cd func28 (by kernel_rfl) (by kernel_rfl)
theorem Oz:ej prog 29 1:=fun _=>by kernel_rfl
theorem ajJ:Enters prog 23 :=cd func23 (by kernel_rfl) (by kernel_rfl)
theorem Xi:Enters prog 29 :=cd func29 (by kernel_rfl) (by kernel_rfl)
theorem ajK:Enters prog 14 :=cd func14 (by kernel_rfl) (by kernel_rfl)
theorem ajL:Enters prog 30 :=cd func30 (by kernel_rfl) (by kernel_rfl)
theorem ajM:Enters prog 31 :=cd func31 (by kernel_rfl) (by kernel_rfl)
theorem ajN:Enters prog 32 :=cd func32 (by kernel_rfl) (by kernel_rfl)
theorem ajO:Enters prog 21 :=cd func21 (by kernel_rfl) (by kernel_rfl)
end
section
open Go.RowKit
namespace b8
section
variable {α:Type} [Inhabited α] {key:α→Int} {l:List α} {i j n k:Nat} {x:α}
def swp (l:List α) (i j:Nat):List α:=(l.set i (l.getD j default)).set j (l.getD i default)
theorem kF:(swp l i j).length=l.length:=by unfold swp;rw [List.length_set,List.length_set]
theorem XY {i k:Nat} (ao:i<l.length):(l.set i x).getD k default=if k=i then x else l.getD k default:=by
 rw [List.getD_eq_getElem?_getD,List.getD_eq_getElem?_getD,List.getElem?_set];by_cases e:i=k
 ·subst e;rw [if_pos rfl,if_pos rfl];simp [ao]
 ·rw [if_neg e,if_neg (λ h=>e h.symm)]
theorem zM (ao:i<l.length) (ay:j<l.length):(swp l i j).getD k default=if k=j then l.getD i default else if k=i then l.getD j default else l.getD k default:=by
 unfold swp;rw [XY (by rw [List.length_set];exact ay),XY ao]
theorem zN (ao:i<l.length) (ay:j<l.length):(swp l i j).Perm l:=by
 have h:=Array.swap_perm (xs:=l.toArray) (i:=i) (j:=j) (by simpa using ao) (by simpa using ay);have h:=h.toList;have e:(l.toArray.swap i j (by simpa using ao) (by simpa using ay)).toList=swp l i j:=by
  unfold swp;rw [List.getD_eq_getElem?_getD,List.getD_eq_getElem?_getD,List.getElem?_eq_getElem ao,List.getElem?_eq_getElem ay];simp [Array.swap]
 rw [e] at h;simpa using h
def n5 (key:α→Int) (l:List α) (j:Nat):List α :=
 if 0<j∧key (l.getD j default)<key (l.getD ((j - 1) / 2) default) then n5 key (swp l ((j - 1) / 2) j) ((j - 1) / 2) else l
termination_by j
decreasing_by omega
def ma (key:α→Int) (n:Nat) (l:List α) (i:Nat):Nat:=if 2 * i+2<n∧key (l.getD (2 * i+2) default)<key (l.getD (2 * i+1) default) then 2 * i+2 else 2 * i+1
theorem Hs:i<ma key n l i:=by unfold ma;split<;>omega
theorem Q4 (h:2 * i+1<n):ma key n l i<n:=by unfold ma;split<;>omega
theorem apE:(ma key n l i - 1) / 2=i:=by unfold ma;split<;>omega
theorem abb (av:0<k) (hn:k<n) (hp:(k - 1) / 2=i):key (l.getD (ma key n l i) default)≤key (l.getD k default):=by
 have:k=2 * i+1∨k=2 * i+2:=by omega
 unfold ma;split
 ·rename_i h
  rcases this with rfl | rfl
  ·omega
  ·exact Int.le_refl _
 ·rename_i h
  rcases this with rfl | rfl
  ·exact Int.le_refl _
  ·have:¬ key (l.getD (2 * i+2) default)<key (l.getD (2 * i+1) default):=λ ey=>h ⟨hn,ey⟩;omega
def iA (key:α→Int) (n:Nat) (l:List α) (i:Nat):List α :=
 if 2 * i+1<n∧key (l.getD (ma key n l i) default)<key (l.getD i default) then iA key n (swp l i (ma key n l i)) (ma key n l i) else l
termination_by n - i
decreasing_by rename_i h;have:=Hs (key:=key) (n:=n) (l:=l) (i:=i);omega
theorem auD:∀ (j:Nat) (l:List α),(n5 key l j).length=l.length:=by
 intro j;induction j using Nat.strongRecOn with
 | ind j bk =>
  intro l;unfold n5;split
  ·rw [bk _ (by omega),kF]
  ·rfl
theorem auE:∀ (j:Nat) (l:List α),j<l.length→(n5 key l j).Perm l:=by
 intro j;induction j using Nat.strongRecOn with
 | ind j bk =>
  intro l az;unfold n5;split
  ·exact (bk _ (by omega) _ (by rw [kF];omega)).trans (zN (by omega) az)
  ·exact List.Perm.refl _
theorem WX (n:Nat):∀ (m i:Nat) (l:List α),n - i≤m→(iA key n l i).length=l.length:=by
 intro m;induction m with
 | zero=>intro i l h;unfold iA;rw [if_neg (by omega)]
 | succ m bk =>
  intro i l h;unfold iA;split
  ·have:=Hs (key:=key) (n:=n) (l:=l) (i:=i);rw [bk _ _ (by omega),kF]
  ·rfl
theorem WY (n:Nat):∀ (m i:Nat) (l:List α),n - i≤m→n≤l.length→i<l.length→(iA key n l i).Perm l:=by
 intro m;induction m with
 | zero=>intro i l h _ _;unfold iA;rw [if_neg (by omega)]
 | succ m bk =>
  intro i l h hn ao;unfold iA;split
  ·rename_i hc
   have:=Hs (key:=key) (n:=n) (l:=l) (i:=i);have:=Q4 (key:=key) (l:=l) hc.1;exact (bk _ _ (by omega) (by rw [kF];exact hn) (by rw [kF];omega)).trans (zN ao (by omega))
  ·exact List.Perm.refl _
theorem aiA (n:Nat):∀ (m i:Nat) (l:List α),n - i≤m→n≤l.length→i<l.length→∀ k,n≤k→i<n→(iA key n l i).getD k default=l.getD k default:=by
 intro m;induction m with
 | zero=>intro i l h _ _ k _ _;unfold iA;rw [if_neg (by omega)]
 | succ m bk =>
  intro i l h hn ao k av cM;unfold iA;split
  ·rename_i hc
   have γ:=Hs (key:=key) (n:=n) (l:=l) (i:=i);have aa:=Q4 (key:=key) (l:=l) hc.1;rw [bk _ _ (by omega) (by rw [kF];exact hn) (by rw [kF];omega) k av aa,zM ao (by omega),if_neg (by omega),if_neg (by omega)]
  ·rfl
def Heap (key:α→Int) (n:Nat) (l:List α):Prop:=∀ i,0<i→i<n→key (l.getD ((i - 1) / 2) default)≤key (l.getD i default)
theorem auC (n:Nat):∀ (j:Nat) (l:List α),j<n→n≤l.length→(∀ i,0<i→i<n→i≠j→key (l.getD ((i - 1) / 2) default)≤key (l.getD i default))→
  (∀ i,0<i→i<n→(i - 1) / 2=j→0<j→key (l.getD ((j - 1) / 2) default)≤key (l.getD i default))→Heap key n (n5 key l j):=by
 intro j;induction j using Nat.strongRecOn with
 | ind j bk =>
  intro l ay hn γ aa;unfold n5;split
  ·rename_i hc
   obtain ⟨aE,bl⟩:=hc;have aO:∀ k,(swp l ((j - 1) / 2) j).getD k default=if k=j then l.getD ((j - 1) / 2) default else if k=(j - 1) / 2 then l.getD j default else l.getD k default:=λ k=>zM (by omega) (by omega)
   refine bk _ (by omega) _ (by omega) (by rw [kF];exact hn) (λ i iR cM dK=> ?_) (λ i iR cM hp vw=> ?_)
   ·rw [aO,aO];by_cases e:i=j
    ·subst e;rw [if_pos rfl,if_neg (by omega),if_pos rfl];omega
    ·rw [if_neg e,if_neg dK];by_cases bc:(i - 1) / 2=j
     ·rw [if_pos bc];exact aa i iR cM bc aE
     ·rw [if_neg bc];by_cases cy:(i - 1) / 2=(j - 1) / 2
      ·rw [if_pos cy];have:=γ i iR cM e;rw [cy] at this;omega
      ·rw [if_neg cy];exact γ i iR cM e
   ·rw [aO,aO];rw [if_neg (by omega),if_neg (by omega)];have K4:=γ ((j - 1) / 2) vw (by omega) (by omega);by_cases e:i=j
    ·rw [if_pos e];exact K4
    ·rw [if_neg e,if_neg (by omega)];have:=γ i iR cM e;rw [hp] at this;omega
  ·rename_i hc
   intro i iR cM;by_cases e:i=j
   ·subst e;have:¬ key (l.getD i default)<key (l.getD ((i - 1) / 2) default):=λ h=>hc ⟨iR,h⟩;omega
   ·exact γ i iR cM e
theorem aiz (n:Nat):∀ (m i0:Nat) (l:List α),n - i0≤m→i0<l.length→n≤l.length→(∀ i,0<i→i<n→(i - 1) / 2≠i0→key (l.getD ((i - 1) / 2) default)≤key (l.getD i default))→
  (∀ i,0<i→i<n→(i - 1) / 2=i0→0<i0→key (l.getD ((i0 - 1) / 2) default)≤key (l.getD i default))→Heap key n (iA key n l i0):=by
 intro m;induction m with
 | zero =>
  intro i0 l h _ _ γ _;unfold iA;rw [if_neg (by omega)];intro i iR cM;exact γ i iR cM (by omega)
 | succ m bk =>
  intro i0 l h DJ hn γ aa;unfold iA;split
  ·rename_i hc
   obtain ⟨P3,bl⟩:=hc;have g1:=Hs (key:=key) (n:=n) (l:=l) (i:=i0);have g2:=Q4 (key:=key) (l:=l) P3;have g3:=apE (key:=key) (n:=n) (l:=l) (i:=i0);have g4:=λ k av hn hp=>abb (key:=key) (n:=n) (l:=l) (i:=i0) (k:=k) av hn hp;generalize ay:ma key n l i0=j at *
   have aO:∀ k,(swp l i0 j).getD k default=if k=j then l.getD i0 default else if k=i0 then l.getD j default else l.getD k default:=λ k=>zM DJ (by omega)
   refine bk _ _ (by omega) (by rw [kF];omega) (by rw [kF];exact hn) (λ i iR cM dK=> ?_) (λ i iR cM hp vw=> ?_)
   ·rw [aO,aO];rw [if_neg dK];by_cases e:(i - 1) / 2=i0
    ·rw [if_pos e];by_cases bc:i=j
     ·rw [if_pos bc];omega
     ·rw [if_neg bc,if_neg (by omega)];exact g4 i iR cM e
    ·rw [if_neg e];by_cases bc:i=j
     ·omega
     ·rw [if_neg bc];by_cases cy:i=i0
      ·rw [if_pos cy];have:=aa j (by omega) g2 g3 (by omega);rw [cy];exact this
      ·rw [if_neg cy];exact γ i iR cM e
   ·rw [aO,aO,g3];rw [if_neg (by omega),if_pos rfl,if_neg (by omega),if_neg (by omega)];have:=γ i iR cM (by omega);rw [hp] at this;exact this
  ·rename_i hc
   intro i iR cM;by_cases e:(i - 1) / 2=i0
   ·have P3:2 * i0+1<n:=by omega
    have:¬ key (l.getD (ma key n l i0) default)<key (l.getD i0 default):=λ h=>hc ⟨P3,h⟩;have:=abb (key:=key) (n:=n) (l:=l) iR cM e;rw [e];omega
   ·exact γ i iR cM e
theorem Heap.min (h:Heap key n l):∀ i,i<n→key (l.getD 0 default)≤key (l.getD i default):=by
 intro i;induction i using Nat.strongRecOn with
 | ind i bk =>
  intro ao;by_cases aE:0<i
  ·exact Int.le_trans (bk ((i - 1) / 2) (by omega) (by omega)) (h i aE ao)
  ·have:i=0:=by omega
   subst this;exact Int.le_refl _
def push (key:α→Int) (l:List α) (x:α):List α:=n5 key (l++ [x]) l.length
theorem HL:(push key l x).length=l.length+1:=by unfold push;rw [auD,List.length_append];rfl
theorem ab2:(push key l x).Perm (x::l):=(auE _ _ (by rw [List.length_append];simp)).trans (List.perm_append_singleton x l)
theorem Vp (h:k<l.length):(l++ [x]).getD k default=l.getD k default:=by
 rw [List.getD_eq_getElem?_getD,List.getD_eq_getElem?_getD,List.getElem?_append_left h]
theorem arJ (h:Heap key l.length l):Heap key (push key l x).length (push key l x):=by
 rw [HL];refine auC _ _ _ (by omega) (by simp) (λ i iR cM dK=> ?_) (λ i iR cM hp aE=>by omega);rw [Vp (by omega),Vp (by omega)];exact h i iR (by omega)
def uA (key:α→Int) (l:List α):List α:=iA key (l.length - 1) (swp l 0 (l.length - 1)) 0
def mo (key:α→Int) (l:List α):List α:=(uA key l).take (l.length - 1)
theorem abW:(uA key l).length=l.length:=by unfold uA;rw [WX _ _ _ _ (Nat.le_refl _),kF]
theorem Ef:(mo key l).length=l.length - 1:=by unfold mo;rw [List.length_take,abW];omega
theorem abV (aE:0<l.length):(uA key l).getD (l.length - 1) default=l.getD 0 default:=by
 unfold uA;by_cases γ:l.length - 1=0
 ·unfold iA;rw [if_neg (by omega),zM aE (by omega),if_pos rfl]
 ·rw [aiA _ _ _ _ (Nat.le_refl _) (by rw [kF];omega) (by rw [kF];omega) _ (Nat.le_refl _) (by omega),zM aE (by omega),if_pos rfl]
theorem abY (aE:0<l.length):(l.getD 0 default::mo key l).Perm l:=by
 have γ:(uA key l).Perm l:=by
  unfold uA;exact (WY _ _ _ _ (Nat.le_refl _) (by rw [kF];omega) (by rw [kF];exact aE)).trans (zN aE (by omega))
 have aa:mo key l++ [l.getD 0 default]=uA key l:=by
  have e:=abV (key:=key) aE;have az:=abW (key:=key) (l:=l);unfold mo;rw [← e,List.getD_eq_getElem?_getD,List.getElem?_eq_getElem (by omega),Option.getD_some];rw [← List.take_succ_eq_append_getElem (by omega)];exact List.take_of_length_le (by omega)
 exact ((List.perm_append_singleton _ _).symm.trans (by rw [aa])).trans γ
theorem abX (h:Heap key l.length l) (aE:0<l.length):Heap key (mo key l).length (mo key l):=by
 rw [Ef];have hd:Heap key (l.length - 1) (uA key l):=by
  unfold uA;refine aiz _ _ _ _ (Nat.le_refl _) (by rw [kF];exact aE) (by rw [kF];omega) (λ i iR cM dK=> ?_) (λ i _ _ _ aE=>absurd aE (by omega));rw [zM aE (by omega),zM aE (by omega),if_neg (by omega),if_neg dK,if_neg (by omega),if_neg (by omega)];exact h i iR (by omega)
 intro i iR cM;have aA:∀ k,k<l.length - 1→(mo key l).getD k default=(uA key l).getD k default:=λ k av=>by
  unfold mo;rw [List.getD_eq_getElem?_getD,List.getD_eq_getElem?_getD,List.getElem?_take,if_pos av]
 rw [aA _ (by omega),aA _ cM];exact hd i iR cM
theorem Heap.least (h:Heap key l.length l):∀ y∈l,key (l.getD 0 default)≤key y:=by
 intro y aG;obtain ⟨i,ao,rfl⟩:=List.mem_iff_getElem.1 aG;have:=h.min i ao
 rwa [show l.getD i default=l[i] by rw [List.getD_eq_getElem?_getD,List.getElem?_eq_getElem ao];rfl] at this
end
end b8
end
section
open Go.RowKit
namespace oa
section
variable {α:Type} {cx:α→List α} {k h:α→Int} {src:α→Prop} {x y s b:α} {d o1 D:Int} {ax w6:α→Int} {Q od:List (α×Int)} {rest:List α} {e:α×Int}
inductive mG (cx:α→List α) (k:α→Int) (src:α→Prop):α→Int→Prop
 | start {s:α} (hs:src s):mG cx k src s 0
 | step {x y:α} {d:Int} (hx:mG cx k src x d) (aG:y∈cx x):mG cx k src y (d+k y)
def qN (cx:α→List α) (k:α→Int) (src:α→Prop) (x:α) (d:Int):Prop:=mG cx k src x d∧∀ o1,mG cx k src x o1→d≤o1
structure gY (cx:α→List α) (k h:α→Int):Prop where
 sk:∀ x,∀ y∈cx x,0<k y
 aE:∀ x,0≤h x
 av:∀ x,∀ y∈cx x,h x≤k y+h y
theorem mG.vK (o:gY cx k h) (r:mG cx k src x d):0≤d:=by
 induction r with
 | start _=>exact Int.le_refl 0
 | step _ aG bk=>have:=o.sk _ _ aG;omega
theorem qN.uniq (γ:qN cx k src x d) (aa:qN cx k src x o1):d=o1:=Int.le_antisymm (γ.2 _ aa.1) (aa.2 _ γ.1)
structure Inv (cx:α→List α) (k h:α→Int) (src:α→Prop) (ax:α→Int) (Q:List (α×Int)) (cK:α) (rest:List α):Prop where
 q:∀ e∈Q,(src e.1∧e.2=0)∨∃ p,0≤ax p∧e.1∈cx p∧e.2=ax p+k e.1
 neg:∀ x,ax x<0→ax x= -1
 mJ:∀ x,0≤ax x→qN cx k src x (ax x)
 pred:∀ x,0≤ax x→(src x∧ax x=0)∨∃ p,0≤ax p∧x∈cx p∧ax x=ax p+k x
 HH:∀ x,0≤ax x→∀ y∈cx x,0≤ax y∨(y,ax x+k y)∈Q∨(x=cK∧y∈rest)
 HU:∀ s,src s→0≤ax s∨(s,0)∈Q
 mono:∀ x,0≤ax x→∀ e∈Q,ax x+h x≤e.2+h e.1
 aef:rest≠ []→0≤ax cK∧(∀ y∈rest,y∈cx cK)∧∀ z,0≤ax z→ax z+h z≤ax cK+h cK
theorem Inv.acn (i:Inv cx k h src ax Q x rest) (he:e∈Q):mG cx k src e.1 e.2:=by
 rcases i.q e he with ⟨γ,aa⟩ | ⟨p,γ,aa,au⟩
 ·rw [aa];exact .start γ
 ·rw [au];exact .step (i.mJ p γ).1 aa
theorem Inv.front (o:gY cx k h) (i:Inv cx k h src ax Q s []) (r:mG cx k src x d):ax x<0→∃ e∈Q,e.2+h e.1≤d+h x:=by
 induction r with
 | start hs =>
  intro hx;rcases i.HU _ hs with γ | γ
  ·omega
  ·exact ⟨_,γ,Int.le_refl _⟩
 | @step x y d r aG bk =>
  intro aAS;by_cases hx:ax x<0
  ·obtain ⟨e,he,hle⟩:=bk hx;have:=o.av x y aG;exact ⟨e,he,by omega⟩
  ·rcases i.HH x (by omega) y aG with γ | γ | ⟨_,γ⟩
   ·omega
   ·have:=(i.mJ x (by omega)).2 d r;exact ⟨_,γ,by dsimp only;omega⟩
   ·simp at γ
theorem Inv.art (i:Inv cx k h src ax Q x []) (hp:Q.Perm (e::od)) (hd:0≤ax e.1):Inv cx k h src ax od x []:=by
 have hs:∀ z∈od,z∈Q:=λ z bw=>hp.symm.subset (List.mem_cons_of_mem _ bw);have I:∀ z∈Q,z=e∨z∈od:=λ z bw=>List.mem_cons.1 (hp.subset bw);refine ⟨λ z bw=>i.q z (hs z bw),i.neg,i.mJ,i.pred,λ a ha c hc=> ?_,λ s anN=> ?_,λ a ha z bw=>i.mono a ha z (hs z bw),λ hn=>absurd Z hn⟩
 ·rcases i.HH a ha c hc with γ | γ | γ
  ·exact .inl γ
  ·rcases I _ γ with aa | aa
   ·left;rw [← aa] at hd;exact hd
   ·exact .inr (.inl aa)
  ·exact .inr (.inr γ)
 ·rcases i.HU s anN with γ | γ
  ·exact .inl γ
  ·rcases I _ γ with aa | aa
   ·left;rw [← aa] at hd;exact hd
   ·exact .inr aa
theorem Inv.ars (o:gY cx k h) (i:Inv cx k h src ax Q s []) (hp:Q.Perm (e::od)) (hd:ax e.1<0) (Zf:∀ z∈Q,e.2+h e.1≤z.2+h z.1) (Gu:w6 e.1=e.2) (dK:∀ z,z≠e.1→w6 z=ax z):Inv cx k h src w6 od e.1 (cx e.1)∧0≤e.2:=by
 have hs:∀ z∈od,z∈Q:=λ z bw=>hp.symm.subset (List.mem_cons_of_mem _ bw);have I:∀ z∈Q,z=e∨z∈od:=λ z bw=>List.mem_cons.1 (hp.subset bw);have DF:e∈Q:=hp.symm.subset List.mem_cons_self;have Zw:=i.acn DF;have kW:=Zw.vK o;have kX:∀ z,0≤ax z→w6 z=ax z:=λ z bw=>dK z (λ aU=>by rw [aU] at bw;omega);have r9:qN cx k src e.1 e.2:=⟨Zw,λ o1 r=>by
  obtain ⟨z,bw,hle⟩:=i.front o r hd;have:=Zf z bw
  omega⟩
 have Y7:∀ a,0≤w6 a→w6 a+h a≤e.2+h e.1:=λ a ha=>by
  by_cases aU:a=e.1
  ·subst aU;omega
  ·rw [dK a aU] at ha ⊢;exact i.mono a ha e DF
 refine ⟨⟨λ z bw=> ?_,λ a ha=> ?_,λ a ha=> ?_,λ a ha=> ?_,λ a ha c hc=> ?_,λ a ha=> ?_,λ a ha z bw=> ?_,λ _=>⟨by omega,λ y aG=>aG,λ a ha=>by rw [Gu];exact Y7 a ha⟩⟩,kW⟩
 ·rcases i.q z (hs z bw) with γ | ⟨p,γ,aa,au⟩
  ·exact .inl γ
  ·exact .inr ⟨p,by rw [kX p γ];exact γ,aa,by rw [kX p γ];exact au⟩
 ·by_cases aU:a=e.1
  ·subst aU;omega
  ·rw [dK a aU] at ha ⊢;exact i.neg a ha
 ·by_cases aU:a=e.1
  ·rw [aU,Gu];exact r9
  ·rw [dK a aU] at ha ⊢;exact i.mJ a ha
 ·by_cases aU:a=e.1
  ·rw [aU,Gu];rcases i.q e DF with γ | ⟨p,γ,aa,au⟩
   ·exact .inl γ
   ·exact .inr ⟨p,by rw [kX p γ];exact γ,aa,by rw [kX p γ];exact au⟩
  ·rw [dK a aU] at ha ⊢;rcases i.pred a ha with γ | ⟨p,γ,aa,au⟩
   ·exact .inl γ
   ·exact .inr ⟨p,by rw [kX p γ];exact γ,aa,by rw [kX p γ];exact au⟩
 ·by_cases aU:a=e.1
  ·exact .inr (.inr ⟨aU,by rw [← aU];exact hc⟩)
  ·rw [dK a aU] at ha ⊢;rcases i.HH a ha c hc with γ | γ | ⟨_,γ⟩
   ·left;rw [kX c γ];exact γ
   ·rcases I _ γ with aa | aa
    ·left;have:c=e.1:=by rw [← aa]
     rw [this,Gu];exact kW
    ·exact .inr (.inl aa)
   ·simp at γ
 ·rcases i.HU a ha with γ | γ
  ·left;rw [kX a γ];exact γ
  ·rcases I _ γ with aa | aa
   ·left;have:a=e.1:=by rw [← aa]
    rw [this,Gu];exact kW
   ·exact .inr aa
 ·have:=Y7 a ha;have:=Zf z (hs z bw);omega
theorem Inv.push (o:gY cx k h) (i:Inv cx k h src ax Q x (y::rest)) (hp:od.Perm ((y,ax x+k y)::Q)):Inv cx k h src ax od x rest:=by
 have hs:∀ z∈Q,z∈od:=λ z bw=>hp.symm.subset (List.mem_cons_of_mem _ bw);have hn:(y,ax x+k y)∈od:=hp.symm.subset List.mem_cons_self;have I:∀ z∈od,z=(y,ax x+k y)∨z∈Q:=λ z bw=>List.mem_cons.1 (hp.subset bw);obtain ⟨eh,gT,iv⟩:=i.aef (by simp);have ZD:=gT y List.mem_cons_self;refine ⟨λ z bw=> ?_,i.neg,i.mJ,i.pred,λ a ha c hc=> ?_,λ a ha=>(i.HU a ha).imp id (hs _),λ a ha z bw=> ?_,λ _=>⟨eh,λ c hc=>gT c (List.mem_cons_of_mem _ hc),iv⟩⟩
 ·rcases I z bw with rfl | γ
  ·exact .inr ⟨x,eh,ZD,Z⟩
  ·exact i.q z γ
 ·rcases i.HH a ha c hc with γ | γ | ⟨γ,aa⟩
  ·exact .inl γ
  ·exact .inr (.inl (hs _ γ))
  ·rcases List.mem_cons.1 aa with au | au
   ·subst γ;subst au;exact .inr (.inl hn)
   ·exact .inr (.inr ⟨γ,au⟩)
 ·rcases I z bw with rfl | γ
  ·have:=iv a ha;have:=o.av x y ZD;dsimp only;omega
  ·exact i.mono a ha z γ
theorem Inv.skip (i:Inv cx k h src ax Q x (y::rest)) (aG:0≤ax y):Inv cx k h src ax Q x rest:=by
 obtain ⟨eh,gT,iv⟩:=i.aef (by simp);refine ⟨i.q,i.neg,i.mJ,i.pred,λ a ha c hc=> ?_,i.HU,i.mono,λ _=>⟨eh,λ c hc=>gT c (List.mem_cons_of_mem _ hc),iv⟩⟩;rcases i.HH a ha c hc with γ | γ | ⟨γ,aa⟩
 ·exact .inl γ
 ·exact .inr (.inl γ)
 ·rcases List.mem_cons.1 aa with au | au
  ·subst au;exact .inl aG
  ·exact .inr (.inr ⟨γ,au⟩)
theorem Inv.start (hn:∀ x,ax x= -1) (I:∀ e∈Q,src e.1∧e.2=0) (hs:∀ s,src s→(s,0)∈Q):Inv cx k h src ax Q x [] :=
 ⟨λ e he=> .inl (I e he),λ a _=>hn a,λ a ha=>by rw [hn a] at ha;omega,λ a ha=>by rw [hn a] at ha;omega,λ a ha=>by rw [hn a] at ha;omega,λ s γ=> .inr (hs s γ),λ a ha=>by rw [hn a] at ha;omega,λ γ=>absurd rfl γ⟩
theorem Inv.all (o:gY cx k h) (i:Inv cx k h src ax [] s []) (r:mG cx k src x d):0≤ax x:=by
 by_cases hx:ax x<0
 ·obtain ⟨e,he,_⟩:=i.front o r hx;simp at he
 ·omega
structure Spec (cx:α→List α) (k h:α→Int) (src:α→Prop) (b:α) (ax:α→Int):Prop where
 neg:∀ x,ax x<0→ax x= -1
 mJ:∀ x,0≤ax x→qN cx k src x (ax x)∧∀ D,qN cx k src b D→ax x+h x≤D
 known:∀ x d,qN cx k src x d→(∀ D,qN cx k src b D→d+h x≤D)→ax x=d
 pred:∀ x,0≤ax x→(src x∧ax x=0)∨∃ p,0≤ax p∧x∈cx p∧ax x=ax p+k x
theorem Spec.uniq (s1:Spec cx k h src b ax) (s2:Spec cx k h src b w6) (x:α):ax x=w6 x:=by
 by_cases γ:0≤ax x
 ·exact (s2.known x _ (s1.mJ x γ).1 (s1.mJ x γ).2).symm
 ·by_cases aa:0≤w6 x
  ·exact s1.known x _ (s2.mJ x aa).1 (s2.mJ x aa).2
  ·rw [s1.neg x (by omega),s2.neg x (by omega)]
theorem Inv.ends (o:gY cx k h) (i:Inv cx k h src ax Q s []) (Φ:h b=0) (hm:0≤ax b→∀ x,0≤ax x→ax x+h x≤ax b) (he:(0≤ax b∧∀ e∈Q,ax b<e.2+h e.1)∨Q= []):Spec cx k h src b ax:=by
 refine ⟨i.neg,λ x hx=>⟨i.mJ x hx,λ D r9=> ?_⟩,λ x d hd hle=> ?_,i.pred⟩
 ·by_cases γ:0≤ax b
  ·have:=hm γ x hx;rw [r9.uniq (i.mJ b γ)];exact this
  ·rcases he with he | he
   ·omega
   ·subst he;exact absurd (i.all o r9.1) γ
 ·by_cases γ:ax x<0
  ·obtain ⟨e,DF,av⟩:=i.front o hd.1 γ;rcases he with ⟨aa,au⟩ | aa
   ·have:=hle _ (i.mJ b aa);have:=au e DF;omega
   ·subst aa;simp at DF
  ·exact (i.mJ x (by omega)).uniq hd
theorem Spec.end_ (s:Spec cx k h src b ax) (Φ:h b=0) (hd:qN cx k src b D):ax b=D:=s.known b D hd λ awN γ=>by rw [Φ,hd.uniq γ];omega
theorem mG.ZK (o:gY cx k h) (r:mG cx k src x d):∃ d,qN cx k src x d:=by
 have:∀ n:Nat,∀ d,mG cx k src x d→d.toNat=n→∃ d,qN cx k src x d:=by
  intro n;induction n using Nat.strongRecOn with
  | ind n bk =>
   intro d r hn;by_cases hex:∃ o1,mG cx k src x o1∧o1<d
   ·obtain ⟨o1,r',bl⟩:=hex;have:=r'.vK o;exact bk o1.toNat (by omega) o1 r' Z
   ·exact ⟨d,r,λ o1 r'=>by
     by_cases bl:o1<d
     ·exact absurd ⟨o1,r',bl⟩ hex
     ·omega⟩
 exact this _ d r Z
end
end oa
end
end Go.Proofs.YtlikikpgmmkjbaaGreat
