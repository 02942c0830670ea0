import Derived.Test.YtlikikpgmmkjbaaGreatGol
set_option linter.unusedVariables false
set_option linter.unusedSimpArgs false
set_option maxRecDepth 100000
set_option maxHeartbeats 4000000
namespace Go.Proofs.YtlikikpgmmkjbaaGreat
section
open Go.RowKit
theorem fk1 {B:List Nat} {b n:Nat} (u:∀ q∈B,q<n) (h:n≤b):∀ q∈B,q∈ [b]→False:=fun q hq hb=>by have:=u q hq;have:=List.mem_singleton.1 hb;omega
theorem fk2 {B:List Nat} {b n:Nat} (u:∀ q∈B,n≤q) (h:b<n):∀ q∈B,q∈ [b]→False:=fun q hq hb=>by have:=u q hq;have:=List.mem_singleton.1 hb;omega
theorem nm1 {a b:Nat} (h:a≠b):a∉ [b]:=fun e=>h (List.mem_singleton.1 e)
section
variable {P:Program} {n:Nat} {ops:Array Oper} {Q:Exit→Act→World→Prop} {E:List (Nat×Value)} {w w' w0:World} {v:Value} {ty:TypeId} {pos:String} {af:Array Edge} {x:Operand} {rest:List Oper} {d i:Nat} {τ:List Nat} {kd:Nat→Nat}
theorem nK {y:Code} (h:W P n y Q E w):WL P n ops (Th P y Q) [] E w:=nl (nT h)
theorem sg {id:Nat} {l:List Oper} {y:Code} (h:WL P n l.toArray (Th P y Q) l E w):W P n (.seq (.region id l.toArray false) y) Q E w:=sq (rg h)
theorem sK {y:Code} (h:W P n y Q E w):W P n .skip (Th P y Q) E w:=sk (nT h)
theorem vL {op:Op} (hr:Runs P E ⟨some d,op,ty,pos,af,none⟩ w v w') (h:WL P n ops Q rest ((d,v)::E) w') (hd:Nat.blt d n=true:=by rfl):WL P n ops Q (⟨some d,op,ty,pos,af,none⟩::rest) E w:=vl hr hd h
theorem vm (hx:ev E x=some v) (h:WL P n ops Q rest ((d,v)::E) w) (hd:Nat.blt d n=true:=by rfl):WL P n ops Q (⟨some d, .move x,ty,pos,af,none⟩::rest) E w:=vl (mv hx) hd h
theorem va (hx:ev E x=some v) (h:WL P n ops Q rest ((d,v)::E) w) (hd:Nat.blt d n=true:=by rfl):WL P n ops Q (⟨some d, .assign x,ty,pos,af,none⟩::rest) E w:=vl (as_ hx) hd h
theorem fw1 {op:Op} (hi:ops[i]? =some ⟨some d,op,ty,pos,af,none⟩) (hr:∀ w,Runs P E ⟨some d,op,ty,pos,af,none⟩ w v w) (h:FL P n ops Q kd τ ((d,v)::E) w0) (hk:kd i=1:=by rfl) (hd:Nat.blt d n=true:=by rfl):FL P n ops Q kd (i::τ) E w0:=fw hi hk hr hd h
theorem fq1 {op:Op} (hi:ops[i]? =some ⟨some d,op,ty,pos,af,none⟩) (hr:∀ w,Ext w0 w→Runs P E ⟨some d,op,ty,pos,af,none⟩ w v w) (h:FL P n ops Q kd τ ((d,v)::E) w0) (hk:kd i=0:=by rfl) (hd:Nat.blt d n=true:=by rfl):FL P n ops Q kd (i::τ) E w0:=fq hi hk hr hd h
end
theorem sba:∀ {E' E:List (Nat×Value)},E'.map (fun p=>look E p.1)=E'.map (fun p=>some p.2)→Sub E' E
 | [],_,_=>Sub.nil
 | (k,v)::r,E,h=>have h':look E k::r.map (fun p=>look E p.1)=some v::r.map (fun p=>some p.2):=h
  Sub.cons (List.cons.inj h').1 (sba (List.cons.inj h').2)
theorem bS:(∀ (a b:Bool),((a || b)=true)↔(a=true∨b=true))∧(∀ (a b:Bool),((a || b)=false)↔(a=false∧b=false))∧(∀ (a b:Bool),((a && b)=true)↔(a=true∧b=true))∧(∀ (a b:Bool),((a && b)=false)↔(a=false∨b=false))∧(∀ (p:Prop) [Decidable p],(decide p=true)↔p)∧(∀ (p:Prop) [Decidable p],(decide p=false)↔¬ p)∧(∀ (α:Type) [BEq α] [LawfulBEq α] (a b:α),((a == b)=true)↔(a=b))∧(∀ (α:Type) [BEq α] [LawfulBEq α] (a b:α),((a != b)=true)↔(a≠b))∧(∀ (α:Type) [BEq α] [LawfulBEq α] (a b:α),((a == b)=false)↔(a≠b))∧(∀ (α:Type) [BEq α] [LawfulBEq α] (a b:α),((a != b)=false)↔(a=b))∧(∀ b:Bool,((!b)=true)↔(b=false))∧(∀ b:Bool,((!b)=false)↔(b=true))∧(∀ b:Bool,(¬ (b=true))↔(b=false))∧(∀ b:Bool,(¬ (b=false))↔(b=true))∧(∀ a b:Int,(¬ a<b)↔b≤a)∧(∀ a b:Int,(¬ a≤b)↔b<a)∧(∀ a b:Nat,(¬ a<b)↔b≤a)∧(∀ a b:Nat,(¬ a≤b)↔b<a)∧(∀ (α:Type) (a b:α),(a≠b)↔¬ (a=b))∧(∀ p:Prop,(¬ ¬ p)↔p):=
 ⟨fun a b=>by cases a<;>cases b<;>simp,fun a b=>by cases a<;>cases b<;>simp,fun a b=>by cases a<;>cases b<;>simp,fun a b=>by cases a<;>cases b<;>simp,fun p _=>by simp,fun p _=>by simp,fun α _ _ a b=>by simp,fun α _ _ a b=>by simp,fun α _ _ a b=>by simp,fun α _ _ a b=>by simp,fun b=>by simp,fun b=>by simp,fun b=>by simp,fun b=>by simp,fun _ _=>Int.not_lt,fun _ _=>Int.not_le,fun _ _=>Nat.not_lt,fun _ _=>Nat.not_le,fun _ _ _=>Iff.rfl,fun _=>Classical.not_not⟩
theorem zl (j:Nat) {n:Nat} (h:j<n):0<n:=Nat.zero_lt_of_lt h
theorem eT {a b c:World} (h:Ext a b) (k:Ext b c):Ext a c:=Ext.tr h k
theorem ge1 {b n:Nat} (h:n≤b):∀ q∈ [b],n≤q:=fun q hq=>by rw [List.mem_singleton.1 hq];exact h
theorem eF0:Fd Tryz.prog 49 0 0:=fun _ _ _=>by kernel_rfl
theorem eF1:Ag Tryz.prog 3 false:=fun _=>by kernel_rfl
theorem eF2:Fd Tryz.prog 49 1 1:=fun _ _ _=>by kernel_rfl
theorem eF3:Ag Tryz.prog 49 true:=fun _=>by kernel_rfl
theorem eF4:Sz Tryz.prog 49 2:=fun _=>by kernel_rfl
theorem eF5:Enters Tryz.prog 193 :=en Tryz.func193 (by kernel_rfl) (by kernel_rfl)
theorem eF6:Enters Tryz.prog 194 :=en Tryz.func194 (by kernel_rfl) (by kernel_rfl)
theorem eF7:Sz Tryz.prog 3 1:=fun _=>by kernel_rfl
theorem eF8:Sz Tryz.prog 313 4:=fun _=>by kernel_rfl
theorem eF9:Fd Tryz.prog 313 2 3:=fun _ _ _=>by kernel_rfl
theorem eF10:Ag Tryz.prog 313 true:=fun _=>by kernel_rfl
theorem eF11:Ag Tryz.prog 263 false:=fun _=>by kernel_rfl
theorem eF12:Enters Tryz.prog 265 :=en Tryz.func265 (by kernel_rfl) (by kernel_rfl)
theorem eF13:Enters Tryz.prog 266 :=en Tryz.func266 (by kernel_rfl) (by kernel_rfl)
theorem eF14:Sz Tryz.prog 263 1:=fun _=>by kernel_rfl
theorem eF15:Zv Tryz.prog 313 (.agg #[.int .i64 0, .int .i64 0, .int .i64 0, .int .i64 0]):=fun _=>by kernel_rfl
theorem eF16:Enters Tryz.prog 268 :=en Tryz.func268 (by kernel_rfl) (by kernel_rfl)
theorem eF17:Enters Tryz.prog 219 :=en Tryz.func219 (by kernel_rfl) (by kernel_rfl)
theorem eF18:Enters Tryz.prog 239 :=en Tryz.func239 (by kernel_rfl) (by kernel_rfl)
theorem eF19:Enters Tryz.prog 240 :=en Tryz.func240 (by kernel_rfl) (by kernel_rfl)
theorem eF20:Enters Tryz.prog 267 :=en Tryz.func267 (by kernel_rfl) (by kernel_rfl)
theorem eF21:Fd Tryz.prog 265 0 0:=fun _ _ _=>by kernel_rfl
theorem eF22:Fd Tryz.prog 24 0 0:=fun _ _ _=>by kernel_rfl
theorem eF23:Ag Tryz.prog 24 true:=fun _=>by kernel_rfl
theorem eF24:Sz Tryz.prog 24 3:=fun _=>by kernel_rfl
theorem eF25:Enters Tryz.prog 158 :=en Tryz.func158 (by kernel_rfl) (by kernel_rfl)
theorem eF26:Enters Tryz.prog 199 :=en Tryz.func199 (by kernel_rfl) (by kernel_rfl)
theorem eF27:Zv Tryz.prog 260 (.agg #[.int .i64 0, .int .i64 0, .int .i64 0, .int .i64 0, .int .i64 0, .int .i64 0, .int .i64 0, .int .i64 0]):=fun _=>by kernel_rfl
theorem eF28:Sz Tryz.prog 260 8:=fun _=>by kernel_rfl
theorem eF29:Ag Tryz.prog 260 true:=fun _=>by kernel_rfl
theorem eF30:Fd Tryz.prog 265 1 3:=fun _ _ _=>by kernel_rfl
theorem eF31:Enters Tryz.prog 161 :=en Tryz.func161 (by kernel_rfl) (by kernel_rfl)
theorem eF32:Fd Tryz.prog 265 3 6:=fun _ _ _=>by kernel_rfl
theorem eF33:Enters Tryz.prog 218 :=en Tryz.func218 (by kernel_rfl) (by kernel_rfl)
theorem eF34:Enters Tryz.prog 166 :=en Tryz.func166 (by kernel_rfl) (by kernel_rfl)
theorem eF35:Fd Tryz.prog 265 2 5:=fun _ _ _=>by kernel_rfl
theorem eF36:Ag Tryz.prog 22 false:=fun _=>by kernel_rfl
theorem eF37:Enters Tryz.prog 220 :=en Tryz.func220 (by kernel_rfl) (by kernel_rfl)
theorem eF38:Fd Tryz.prog 313 0 0:=fun _ _ _=>by kernel_rfl
theorem eF39:Fd Tryz.prog 313 1 2:=fun _ _ _=>by kernel_rfl
theorem eF40:Enters Tryz.prog 165 :=en Tryz.func165 (by kernel_rfl) (by kernel_rfl)
theorem eF41:Zv Tryz.prog 49 (.agg #[.int .i64 0, .int .i64 0]):=fun _=>by kernel_rfl
theorem eF42:Enters Tryz.prog 164 :=en Tryz.func164 (by kernel_rfl) (by kernel_rfl)
theorem eF43:Enters Tryz.prog 197 :=en Tryz.func197 (by kernel_rfl) (by kernel_rfl)
theorem eF44:Enters Tryz.prog 217 :=en Tryz.func217 (by kernel_rfl) (by kernel_rfl)
theorem eF45:Fd Tryz.prog 24 2 2:=fun _ _ _=>by kernel_rfl
theorem eF46:Enters Tryz.prog 196 :=en Tryz.func196 (by kernel_rfl) (by kernel_rfl)
theorem eF47:Enters Tryz.prog 198 :=en Tryz.func198 (by kernel_rfl) (by kernel_rfl)
theorem eF48:Enters Tryz.prog 163 :=en Tryz.func163 (by kernel_rfl) (by kernel_rfl)
theorem eF49:Enters Tryz.prog 167 :=en Tryz.func167 (by kernel_rfl) (by kernel_rfl)
theorem eF50:Enters Tryz.prog 216 :=en Tryz.func216 (by kernel_rfl) (by kernel_rfl)
theorem eF51:Enters Tryz.prog 195 :=en Tryz.func195 (by kernel_rfl) (by kernel_rfl)
theorem eF52:Fd Tryz.prog 66 2 2:=fun _ _ _=>by kernel_rfl
theorem eF53:Enters Tryz.prog 128 :=en Tryz.func128 (by kernel_rfl) (by kernel_rfl)
theorem eF54:Zv Tryz.prog 207 (.agg #[.int .i64 0, .int .i64 0, .int .i64 0, .int .i64 0]):=fun _=>by kernel_rfl
theorem eF55:Sz Tryz.prog 207 4:=fun _=>by kernel_rfl
theorem eF56:Fd Tryz.prog 66 3 3:=fun _ _ _=>by kernel_rfl
theorem eF57:Fd Tryz.prog 66 1 1:=fun _ _ _=>by kernel_rfl
theorem eF58:Fd Tryz.prog 207 1 1:=fun _ _ _=>by kernel_rfl
theorem eF59:Fd Tryz.prog 28 0 0:=fun _ _ _=>by kernel_rfl
theorem eF60:Enters Tryz.prog 162 :=en Tryz.func162 (by kernel_rfl) (by kernel_rfl)
theorem eF61:Ag Tryz.prog 28 true:=fun _=>by kernel_rfl
theorem eF62:Sz Tryz.prog 28 9:=fun _=>by kernel_rfl
theorem eF63:Enters Tryz.prog 56 :=en Tryz.func56 (by kernel_rfl) (by kernel_rfl)
theorem eF64:Fd Tryz.prog 28 4 6:=fun _ _ _=>by kernel_rfl
theorem eF65:Ag Tryz.prog 26 false:=fun _=>by kernel_rfl
theorem eF66:Sz Tryz.prog 66 7:=fun _=>by kernel_rfl
theorem eF67:Ag Tryz.prog 66 true:=fun _=>by kernel_rfl
theorem eF68:Zv Tryz.prog 66 (.agg #[.int .i64 0, .int .i64 0, .int .i64 0, .int .i64 0, .int .i64 0, .int .i64 0, .int .i64 0]):=fun _=>by kernel_rfl
theorem eF69:Fd Tryz.prog 66 0 0:=fun _ _ _=>by kernel_rfl
theorem eF70:Sz Tryz.prog 223 2:=fun _=>by kernel_rfl
theorem eF71:Ag Tryz.prog 223 true:=fun _=>by kernel_rfl
theorem eF72:Zv Tryz.prog 223 (.agg #[.int .i64 0, .int .i64 0]):=fun _=>by kernel_rfl
theorem eF73:Fd Tryz.prog 223 0 0:=fun _ _ _=>by kernel_rfl
theorem eF74:Zv Tryz.prog 3 (.int .i64 0):=fun _=>by kernel_rfl
theorem eF75:Fd Tryz.prog 223 1 1:=fun _ _ _=>by kernel_rfl
theorem eF76:Sz Tryz.prog 4 1:=fun _=>by kernel_rfl
theorem eF77:Ag Tryz.prog 4 false:=fun _=>by kernel_rfl
theorem eF78:Enters Tryz.prog 134 :=en Tryz.func134 (by kernel_rfl) (by kernel_rfl)
theorem eF79:Fd Tryz.prog 207 2 2:=fun _ _ _=>by kernel_rfl
theorem eF80:Zv Tryz.prog 28 (.agg #[.int .i64 0, .int .i64 0, .slice none 0 0, .slice none 0 0, .slice none 0 0, .slice none 0 0, .slice none 0 0, .int .i64 0, .int .i64 0]):=fun _=>by kernel_rfl
theorem eF81:Enters Tryz.prog 27 :=en Tryz.func27 (by kernel_rfl) (by kernel_rfl)
theorem eF82:Sz Tryz.prog 22 1:=fun _=>by kernel_rfl
theorem eF83:Fd Tryz.prog 28 1 3:=fun _ _ _=>by kernel_rfl
theorem eF84:Ag Tryz.prog 25 false:=fun _=>by kernel_rfl
theorem eF85:Fd Tryz.prog 28 2 4:=fun _ _ _=>by kernel_rfl
theorem eF86:Enters Tryz.prog 101 :=en Tryz.func101 (by kernel_rfl) (by kernel_rfl)
theorem eF87:Sz Tryz.prog 25 1:=fun _=>by kernel_rfl
theorem eF88:Fd Tryz.prog 28 3 5:=fun _ _ _=>by kernel_rfl
theorem eF89:Enters Tryz.prog 26 :=en Tryz.func26 (by kernel_rfl) (by kernel_rfl)
theorem eF90:Sz Tryz.prog 26 1:=fun _=>by kernel_rfl
theorem eF91:Enters Tryz.prog 95 :=en Tryz.func95 (by kernel_rfl) (by kernel_rfl)
theorem eF92:Enters Tryz.prog 96 :=en Tryz.func96 (by kernel_rfl) (by kernel_rfl)
theorem eF93:Fd Tryz.prog 66 4 5:=fun _ _ _=>by kernel_rfl
theorem eF94:Sz Tryz.prog 225 3:=fun _=>by kernel_rfl
theorem eF95:Ag Tryz.prog 225 true:=fun _=>by kernel_rfl
theorem eF96:Fd Tryz.prog 225 0 0:=fun _ _ _=>by kernel_rfl
theorem eF97:Ag Tryz.prog 227 false:=fun _=>by kernel_rfl
theorem eF98:Enters Tryz.prog 136 :=en Tryz.func136 (by kernel_rfl) (by kernel_rfl)
theorem eF99:Zv Tryz.prog 227 (.pointer none):=fun _=>by kernel_rfl
theorem eF100:Sz Tryz.prog 227 1:=fun _=>by kernel_rfl
theorem eF101:Enters Tryz.prog 135 :=en Tryz.func135 (by kernel_rfl) (by kernel_rfl)
theorem eF102:Fd Tryz.prog 225 1 1:=fun _ _ _=>by kernel_rfl
theorem eF103:Enters Tryz.prog 137 :=en Tryz.func137 (by kernel_rfl) (by kernel_rfl)
theorem eF104:Enters Tryz.prog 97 :=en Tryz.func97 (by kernel_rfl) (by kernel_rfl)
theorem eF105:Enters Tryz.prog 98 :=en Tryz.func98 (by kernel_rfl) (by kernel_rfl)
theorem eF106:Fd Tryz.prog 178 1 1:=fun _ _ _=>by kernel_rfl
theorem eF107:Enters Tryz.prog 168 :=en Tryz.func168 (by kernel_rfl) (by kernel_rfl)
theorem eF108:Enters Tryz.prog 169 :=en Tryz.func169 (by kernel_rfl) (by kernel_rfl)
theorem eF109:Fd Tryz.prog 66 5 6:=fun _ _ _=>by kernel_rfl
theorem eF110:Fd Tryz.prog 178 2 2:=fun _ _ _=>by kernel_rfl
theorem eF111:Fd Tryz.prog 176 0 0:=fun _ _ _=>by kernel_rfl
theorem eF112:Enters Tryz.prog 202 :=en Tryz.func202 (by kernel_rfl) (by kernel_rfl)
theorem eF113:Fd Tryz.prog 178 3 4:=fun _ _ _=>by kernel_rfl
theorem eF114:Fd Tryz.prog 207 3 3:=fun _ _ _=>by kernel_rfl
theorem eF115:Fd Tryz.prog 28 5 7:=fun _ _ _=>by kernel_rfl
theorem eF116:Enters Tryz.prog 170 :=en Tryz.func170 (by kernel_rfl) (by kernel_rfl)
theorem eF117:Fd Tryz.prog 207 0 0:=fun _ _ _=>by kernel_rfl
theorem eF118:Fd Tryz.prog 178 0 0:=fun _ _ _=>by kernel_rfl
theorem eF119:Ag Tryz.prog 178 true:=fun _=>by kernel_rfl
theorem eF120:Sz Tryz.prog 178 5:=fun _=>by kernel_rfl
theorem eF121:Enters Tryz.prog 138 :=en Tryz.func138 (by kernel_rfl) (by kernel_rfl)
theorem eF122:Enters Tryz.prog 139 :=en Tryz.func139 (by kernel_rfl) (by kernel_rfl)
theorem eF123:Enters Tryz.prog 140 :=en Tryz.func140 (by kernel_rfl) (by kernel_rfl)
theorem eF124:Enters Tryz.prog 99 :=en Tryz.func99 (by kernel_rfl) (by kernel_rfl)
theorem eF125:Zv Tryz.prog 176 (.agg #[.int .i64 0, .int .i64 0, .slice none 0 0, .slice none 0 0, .slice none 0 0, .slice none 0 0, .slice none 0 0, .int .i64 0, .int .i64 0]):=fun _=>by kernel_rfl
theorem eF126:Sz Tryz.prog 176 9:=fun _=>by kernel_rfl
theorem eF127:Zv Tryz.prog 178 (.agg #[.int .i64 0, .int .i64 0, .int .i64 0, .int .i64 0, .int .i64 0]):=fun _=>by kernel_rfl
theorem eF128:Enters Tryz.prog 100 :=en Tryz.func100 (by kernel_rfl) (by kernel_rfl)
theorem eF129:Fd Tryz.prog 24 1 1:=fun _ _ _=>by kernel_rfl
theorem eF130:Enters Tryz.prog 31 :=en Tryz.func31 (by kernel_rfl) (by kernel_rfl)
theorem eF131:Enters Tryz.prog 49 :=en Tryz.func49 (by kernel_rfl) (by kernel_rfl)
theorem eF132:Enters Tryz.prog 50 :=en Tryz.func50 (by kernel_rfl) (by kernel_rfl)
theorem eF133:Enters Tryz.prog 30 :=en Tryz.func30 (by kernel_rfl) (by kernel_rfl)
theorem eF134:Fd Tryz.prog 28 6 8:=fun _ _ _=>by kernel_rfl
theorem eF135:Zv Tryz.prog 51 (.agg #[.int .i64 0, .int .i64 0, .int .i64 0, .int .i64 0, .int .i64 0, .int .i64 0]):=fun _=>by kernel_rfl
theorem eF136:Fd Tryz.prog 51 1 1:=fun _ _ _=>by kernel_rfl
theorem eF137:Fd Tryz.prog 51 2 2:=fun _ _ _=>by kernel_rfl
theorem eF138:Fd Tryz.prog 51 3 3:=fun _ _ _=>by kernel_rfl
theorem eF139:Fd Tryz.prog 51 4 5:=fun _ _ _=>by kernel_rfl
theorem eF140:Ag Tryz.prog 51 true:=fun _=>by kernel_rfl
theorem eF141:Sz Tryz.prog 51 6:=fun _=>by kernel_rfl
theorem eF142:Fd Tryz.prog 51 0 0:=fun _ _ _=>by kernel_rfl
theorem eF143:Enters Tryz.prog 145 :=en Tryz.func145 (by kernel_rfl) (by kernel_rfl)
theorem eF144:Enters Tryz.prog 146 :=en Tryz.func146 (by kernel_rfl) (by kernel_rfl)
theorem eF145:Enters Tryz.prog 104 :=en Tryz.func104 (by kernel_rfl) (by kernel_rfl)
theorem eF146:Fd Tryz.prog 169 0 0:=fun _ _ _=>by kernel_rfl
theorem eF147:Ag Tryz.prog 123 false:=fun _=>by kernel_rfl
theorem eF148:Sz Tryz.prog 123 1:=fun _=>by kernel_rfl
theorem eF149:Fd Tryz.prog 169 1 1:=fun _ _ _=>by kernel_rfl
theorem eF150:Ag Tryz.prog 124 false:=fun _=>by kernel_rfl
theorem eF151:Sz Tryz.prog 124 1:=fun _=>by kernel_rfl
theorem eF152:Fd Tryz.prog 169 2 2:=fun _ _ _=>by kernel_rfl
theorem eF153:Ag Tryz.prog 125 false:=fun _=>by kernel_rfl
theorem eF154:Sz Tryz.prog 125 1:=fun _=>by kernel_rfl
theorem eF155:Enters Tryz.prog 87 :=en Tryz.func87 (by kernel_rfl) (by kernel_rfl)
theorem eF156:Zv Tryz.prog 169 (.agg #[.slice none 0 0, .slice none 0 0, .slice none 0 0]):=fun _=>by kernel_rfl
theorem eF157:Enters Tryz.prog 94 :=en Tryz.func94 (by kernel_rfl) (by kernel_rfl)
theorem eF158:Zv Tryz.prog 60 (.agg #[.slice none 0 0, .slice none 0 0, .slice none 0 0]):=fun _=>by kernel_rfl
theorem eF159:Enters Tryz.prog 60 :=en Tryz.func60 (by kernel_rfl) (by kernel_rfl)
theorem eF160:Sz Tryz.prog 60 3:=fun _=>by kernel_rfl
theorem eF161:Ag Tryz.prog 60 true:=fun _=>by kernel_rfl
theorem eF162:Enters Tryz.prog 61 :=en Tryz.func61 (by kernel_rfl) (by kernel_rfl)
theorem eF163:Fd Tryz.prog 60 0 0:=fun _ _ _=>by kernel_rfl
theorem eF164:Enters Tryz.prog 62 :=en Tryz.func62 (by kernel_rfl) (by kernel_rfl)
theorem eF165:Fd Tryz.prog 60 1 1:=fun _ _ _=>by kernel_rfl
theorem eF166:Enters Tryz.prog 63 :=en Tryz.func63 (by kernel_rfl) (by kernel_rfl)
theorem eF167:Fd Tryz.prog 60 2 2:=fun _ _ _=>by kernel_rfl
theorem eF168:Sz Tryz.prog 58 1:=fun _=>by kernel_rfl
theorem eF169:Enters Tryz.prog 92 :=en Tryz.func92 (by kernel_rfl) (by kernel_rfl)
theorem eF170:Enters Tryz.prog 83 :=en Tryz.func83 (by kernel_rfl) (by kernel_rfl)
theorem eF171:Enters Tryz.prog 57 :=en Tryz.func57 (by kernel_rfl) (by kernel_rfl)
theorem eF172:Enters Tryz.prog 58 :=en Tryz.func58 (by kernel_rfl) (by kernel_rfl)
theorem eF173:Enters Tryz.prog 20 :=en Tryz.func20 (by kernel_rfl) (by kernel_rfl)
theorem eF174:Sz Tryz.prog 44 1:=fun _=>by kernel_rfl
theorem eF175:Ag Tryz.prog 44 false:=fun _=>by kernel_rfl
theorem eF176:Enters Tryz.prog 25 :=en Tryz.func25 (by kernel_rfl) (by kernel_rfl)
theorem eF177:Fd Tryz.prog 31 0 0:=fun _ _ _=>by kernel_rfl
theorem eF178:Fd Tryz.prog 31 1 9:=fun _ _ _=>by kernel_rfl
theorem eF179:Ag Tryz.prog 29 false:=fun _=>by kernel_rfl
theorem eF180:Enters Tryz.prog 47 :=en Tryz.func47 (by kernel_rfl) (by kernel_rfl)
theorem eF181:Ag Tryz.prog 31 true:=fun _=>by kernel_rfl
theorem eF182:Sz Tryz.prog 31 10:=fun _=>by kernel_rfl
theorem eF183:Enters Tryz.prog 46 :=en Tryz.func46 (by kernel_rfl) (by kernel_rfl)
theorem eF184:Enters Tryz.prog 115 :=en Tryz.func115 (by kernel_rfl) (by kernel_rfl)
theorem eF185:Enters Tryz.prog 84 :=en Tryz.func84 (by kernel_rfl) (by kernel_rfl)
theorem eF186:Enters Tryz.prog 85 :=en Tryz.func85 (by kernel_rfl) (by kernel_rfl)
theorem eF187:Zv Tryz.prog 44 (.slice none 0 0):=fun _=>by kernel_rfl
theorem eF188:Enters Tryz.prog 86 :=en Tryz.func86 (by kernel_rfl) (by kernel_rfl)
theorem eF189:Enters Tryz.prog 121 :=en Tryz.func121 (by kernel_rfl) (by kernel_rfl)
theorem eF190:Enters Tryz.prog 79 :=en Tryz.func79 (by kernel_rfl) (by kernel_rfl)
theorem eF191:Enters Tryz.prog 51 :=en Tryz.func51 (by kernel_rfl) (by kernel_rfl)
theorem eF192:Enters Tryz.prog 53 :=en Tryz.func53 (by kernel_rfl) (by kernel_rfl)
theorem eF193:Enters Tryz.prog 52 :=en Tryz.func52 (by kernel_rfl) (by kernel_rfl)
theorem eF194:Sz Tryz.prog 9 1:=fun _=>by kernel_rfl
theorem eF195:Ag Tryz.prog 9 false:=fun _=>by kernel_rfl
theorem eF196:Enters Tryz.prog 54 :=en Tryz.func54 (by kernel_rfl) (by kernel_rfl)
theorem eF197:Enters Tryz.prog 55 :=en Tryz.func55 (by kernel_rfl) (by kernel_rfl)
theorem eF198:Enters Tryz.prog 48 :=en Tryz.func48 (by kernel_rfl) (by kernel_rfl)
theorem eF199:Zv Tryz.prog 31 (.agg #[.int .i64 0, .int .i64 0, .slice none 0 0, .slice none 0 0, .slice none 0 0, .slice none 0 0, .slice none 0 0, .int .i64 0, .int .i64 0, .slice none 0 0]):=fun _=>by kernel_rfl
theorem eF200:Enters Tryz.prog 13 :=en Tryz.func13 (by kernel_rfl) (by kernel_rfl)
theorem eF201:Enters Tryz.prog 16 :=en Tryz.func16 (by kernel_rfl) (by kernel_rfl)
theorem eF202:Enters Tryz.prog 17 :=en Tryz.func17 (by kernel_rfl) (by kernel_rfl)
theorem eF203:Enters Tryz.prog 18 :=en Tryz.func18 (by kernel_rfl) (by kernel_rfl)
theorem eF204:Enters Tryz.prog 19 :=en Tryz.func19 (by kernel_rfl) (by kernel_rfl)
theorem eF205:Enters Tryz.prog 14 :=en Tryz.func14 (by kernel_rfl) (by kernel_rfl)
theorem eF206:Enters Tryz.prog 15 :=en Tryz.func15 (by kernel_rfl) (by kernel_rfl)
end
section
open Go.RowKit
namespace Hp
section
variable {α:Type} [Inhabited α] {key:α→Int} {l:List α} {i j n k:Nat} {x:α}
def swp (l:List α) (i j:Nat):List α:=(l.set i (l.getD j default)).set j (l.getD i default)
theorem swp_len:(swp l i j).length=l.length:=by unfold swp;rw [List.length_set,List.length_set]
theorem getD_set {i k:Nat} (hi:i<l.length):(l.set i x).getD k default=if k=i then x else l.getD k default:=by
 rw [List.getD_eq_getElem?_getD,List.getD_eq_getElem?_getD,List.getElem?_set]
 by_cases e:i=k
 ·subst e;rw [if_pos rfl,if_pos rfl];simp [hi]
 ·rw [if_neg e,if_neg (λ h=>e h.symm)]
theorem swp_get (hi:i<l.length) (hj:j<l.length):(swp l i j).getD k default=if k=j then l.getD i default else if k=i then l.getD j default else l.getD k default:=by
 unfold swp
 rw [getD_set (by rw [List.length_set];exact hj),getD_set hi]
theorem swp_perm (hi:i<l.length) (hj:j<l.length):(swp l i j).Perm l:=by
 have h:=Array.swap_perm (xs:=l.toArray) (i:=i) (j:=j) (by simpa using hi) (by simpa using hj)
 have h:=h.toList
 have e:(l.toArray.swap i j (by simpa using hi) (by simpa using hj)).toList=swp l i j:=by
  unfold swp
  rw [List.getD_eq_getElem?_getD,List.getD_eq_getElem?_getD,List.getElem?_eq_getElem hi,List.getElem?_eq_getElem hj]
  simp [Array.swap]
 rw [e] at h
 simpa using h
def upF (key:α→Int) (l:List α) (j:Nat):List α :=
 if 0<j∧key (l.getD j default)<key (l.getD ((j - 1) / 2) default) then upF key (swp l ((j - 1) / 2) j) ((j - 1) / 2) else l
termination_by j
decreasing_by omega
def lowC (key:α→Int) (n:Nat) (l:List α) (i:Nat):Nat:=if 2 * i+2<n∧key (l.getD (2 * i+2) default)<key (l.getD (2 * i+1) default) then 2 * i+2 else 2 * i+1
theorem lowC_gt:i<lowC key n l i:=by unfold lowC;split<;>omega
theorem lowC_lt (h:2 * i+1<n):lowC key n l i<n:=by unfold lowC;split<;>omega
theorem lowC_par:(lowC key n l i - 1) / 2=i:=by unfold lowC;split<;>omega
theorem lowC_min (hk:0<k) (hn:k<n) (hp:(k - 1) / 2=i):key (l.getD (lowC key n l i) default)≤key (l.getD k default):=by
 have:k=2 * i+1∨k=2 * i+2:=by omega
 unfold lowC
 split
 ·rename_i h
  rcases this with rfl | rfl
  ·omega
  ·exact Int.le_refl _
 ·rename_i h
  rcases this with rfl | rfl
  ·exact Int.le_refl _
  ·have:¬ key (l.getD (2 * i+2) default)<key (l.getD (2 * i+1) default):=λ hh=>h ⟨hn,hh⟩
   omega
def downF (key:α→Int) (n:Nat) (l:List α) (i:Nat):List α :=
 if 2 * i+1<n∧key (l.getD (lowC key n l i) default)<key (l.getD i default) then downF key n (swp l i (lowC key n l i)) (lowC key n l i) else l
termination_by n - i
decreasing_by rename_i h;have:=lowC_gt (key:=key) (n:=n) (l:=l) (i:=i);omega
theorem upF_len:∀ (j:Nat) (l:List α),(upF key l j).length=l.length:=by
 intro j
 induction j using Nat.strongRecOn with
 | ind j ih =>
  intro l
  unfold upF
  split
  ·rw [ih _ (by omega),swp_len]
  ·rfl
theorem upF_perm:∀ (j:Nat) (l:List α),j<l.length→(upF key l j).Perm l:=by
 intro j
 induction j using Nat.strongRecOn with
 | ind j ih =>
  intro l hl
  unfold upF
  split
  ·exact (ih _ (by omega) _ (by rw [swp_len];omega)).trans (swp_perm (by omega) hl)
  ·exact List.Perm.refl _
theorem downF_len (n:Nat):∀ (m i:Nat) (l:List α),n - i≤m→(downF key n l i).length=l.length:=by
 intro m
 induction m with
 | zero=>intro i l h;unfold downF;rw [if_neg (by omega)]
 | succ m ih =>
  intro i l h
  unfold downF
  split
  ·have:=lowC_gt (key:=key) (n:=n) (l:=l) (i:=i)
   rw [ih _ _ (by omega),swp_len]
  ·rfl
theorem downF_perm (n:Nat):∀ (m i:Nat) (l:List α),n - i≤m→n≤l.length→i<l.length→(downF key n l i).Perm l:=by
 intro m
 induction m with
 | zero=>intro i l h _ _;unfold downF;rw [if_neg (by omega)]
 | succ m ih =>
  intro i l h hn hi
  unfold downF
  split
  ·rename_i hc
   have:=lowC_gt (key:=key) (n:=n) (l:=l) (i:=i)
   have:=lowC_lt (key:=key) (l:=l) hc.1
   exact (ih _ _ (by omega) (by rw [swp_len];exact hn) (by rw [swp_len];omega)).trans (swp_perm hi (by omega))
  ·exact List.Perm.refl _
theorem downF_out (n:Nat):∀ (m i:Nat) (l:List α),n - i≤m→n≤l.length→i<l.length→∀ k,n≤k→i<n→(downF key n l i).getD k default=l.getD k default:=by
 intro m
 induction m with
 | zero=>intro i l h _ _ k _ _;unfold downF;rw [if_neg (by omega)]
 | succ m ih =>
  intro i l h hn hi k hk hin
  unfold downF
  split
  ·rename_i hc
   have h1:=lowC_gt (key:=key) (n:=n) (l:=l) (i:=i)
   have h2:=lowC_lt (key:=key) (l:=l) hc.1
   rw [ih _ _ (by omega) (by rw [swp_len];exact hn) (by rw [swp_len];omega) k hk h2,swp_get hi (by omega),if_neg (by omega),if_neg (by omega)]
  ·rfl
def Heap (key:α→Int) (n:Nat) (l:List α):Prop:=∀ i,0<i→i<n→key (l.getD ((i - 1) / 2) default)≤key (l.getD i default)
theorem upF_heap (n:Nat):∀ (j:Nat) (l:List α),j<n→n≤l.length→(∀ i,0<i→i<n→i≠j→key (l.getD ((i - 1) / 2) default)≤key (l.getD i default))→
  (∀ i,0<i→i<n→(i - 1) / 2=j→0<j→key (l.getD ((j - 1) / 2) default)≤key (l.getD i default))→Heap key n (upF key l j):=by
 intro j
 induction j using Nat.strongRecOn with
 | ind j ih =>
  intro l hj hn h1 h2
  unfold upF
  split
  ·rename_i hc
   obtain ⟨h0,hlt⟩:=hc
   have hg:∀ k,(swp l ((j - 1) / 2) j).getD k default=if k=j then l.getD ((j - 1) / 2) default else if k=(j - 1) / 2 then l.getD j default else l.getD k default:=λ k=>swp_get (by omega) (by omega)
   refine ih _ (by omega) _ (by omega) (by rw [swp_len];exact hn) (λ i hi0 hin hne=> ?_) (λ i hi0 hin hp h0p=> ?_)
   ·rw [hg,hg]
    by_cases e:i=j
    ·subst e
     rw [if_pos rfl,if_neg (by omega),if_pos rfl];omega
    ·rw [if_neg e,if_neg hne]
     by_cases e2:(i - 1) / 2=j
     ·rw [if_pos e2];exact h2 i hi0 hin e2 h0
     ·rw [if_neg e2]
      by_cases e3:(i - 1) / 2=(j - 1) / 2
      ·rw [if_pos e3]
       have:=h1 i hi0 hin e
       rw [e3] at this;omega
      ·rw [if_neg e3];exact h1 i hi0 hin e
   ·rw [hg,hg]
    rw [if_neg (by omega),if_neg (by omega)]
    have hpp:=h1 ((j - 1) / 2) h0p (by omega) (by omega)
    by_cases e:i=j
    ·rw [if_pos e];exact hpp
    ·rw [if_neg e,if_neg (by omega)]
     have:=h1 i hi0 hin e
     rw [hp] at this;omega
  ·rename_i hc
   intro i hi0 hin
   by_cases e:i=j
   ·subst e
    have:¬ key (l.getD i default)<key (l.getD ((i - 1) / 2) default):=λ h=>hc ⟨hi0,h⟩
    omega
   ·exact h1 i hi0 hin e
theorem downF_heap (n:Nat):∀ (m i0:Nat) (l:List α),n - i0≤m→i0<l.length→n≤l.length→(∀ i,0<i→i<n→(i - 1) / 2≠i0→key (l.getD ((i - 1) / 2) default)≤key (l.getD i default))→
  (∀ i,0<i→i<n→(i - 1) / 2=i0→0<i0→key (l.getD ((i0 - 1) / 2) default)≤key (l.getD i default))→Heap key n (downF key n l i0):=by
 intro m
 induction m with
 | zero =>
  intro i0 l h _ _ h1 _
  unfold downF
  rw [if_neg (by omega)]
  intro i hi0 hin
  exact h1 i hi0 hin (by omega)
 | succ m ih =>
  intro i0 l h hil hn h1 h2
  unfold downF
  split
  ·rename_i hc
   obtain ⟨hcn,hlt⟩:=hc
   have g1:=lowC_gt (key:=key) (n:=n) (l:=l) (i:=i0)
   have g2:=lowC_lt (key:=key) (l:=l) hcn
   have g3:=lowC_par (key:=key) (n:=n) (l:=l) (i:=i0)
   have g4:=λ k hk hn hp=>lowC_min (key:=key) (n:=n) (l:=l) (i:=i0) (k:=k) hk hn hp
   generalize hj:lowC key n l i0=j at *
   have hg:∀ k,(swp l i0 j).getD k default=if k=j then l.getD i0 default else if k=i0 then l.getD j default else l.getD k default:=λ k=>swp_get hil (by omega)
   refine ih _ _ (by omega) (by rw [swp_len];omega) (by rw [swp_len];exact hn) (λ i hi0 hin hne=> ?_) (λ i hi0 hin hp h0p=> ?_)
   ·rw [hg,hg]
    rw [if_neg hne]
    by_cases e:(i - 1) / 2=i0
    ·rw [if_pos e]
     by_cases e2:i=j
     ·rw [if_pos e2];omega
     ·rw [if_neg e2,if_neg (by omega)];exact g4 i hi0 hin e
    ·rw [if_neg e]
     by_cases e2:i=j
     ·omega
     ·rw [if_neg e2]
      by_cases e3:i=i0
      ·rw [if_pos e3]
       have:=h2 j (by omega) g2 g3 (by omega)
       rw [e3];exact this
      ·rw [if_neg e3];exact h1 i hi0 hin e
   ·rw [hg,hg,g3]
    rw [if_neg (by omega),if_pos rfl,if_neg (by omega),if_neg (by omega)]
    have:=h1 i hi0 hin (by omega)
    rw [hp] at this;exact this
  ·rename_i hc
   intro i hi0 hin
   by_cases e:(i - 1) / 2=i0
   ·have hcn:2 * i0+1<n:=by omega
    have:¬ key (l.getD (lowC key n l i0) default)<key (l.getD i0 default):=λ h=>hc ⟨hcn,h⟩
    have:=lowC_min (key:=key) (n:=n) (l:=l) hi0 hin e
    rw [e];omega
   ·exact h1 i hi0 hin e
theorem Heap.min (h:Heap key n l):∀ i,i<n→key (l.getD 0 default)≤key (l.getD i default):=by
 intro i
 induction i using Nat.strongRecOn with
 | ind i ih =>
  intro hi
  by_cases h0:0<i
  ·exact Int.le_trans (ih ((i - 1) / 2) (by omega) (by omega)) (h i h0 hi)
  ·have:i=0:=by omega
   subst this;exact Int.le_refl _
def push (key:α→Int) (l:List α) (x:α):List α:=upF key (l++ [x]) l.length
theorem push_len:(push key l x).length=l.length+1:=by unfold push;rw [upF_len,List.length_append];rfl
theorem push_perm:(push key l x).Perm (x::l):=(upF_perm _ _ (by rw [List.length_append];simp)).trans (List.perm_append_singleton x l)
theorem app_get (h:k<l.length):(l++ [x]).getD k default=l.getD k default:=by
 rw [List.getD_eq_getElem?_getD,List.getD_eq_getElem?_getD,List.getElem?_append_left h]
theorem push_heap (h:Heap key l.length l):Heap key (push key l x).length (push key l x):=by
 rw [push_len]
 refine upF_heap _ _ _ (by omega) (by simp) (λ i hi0 hin hne=> ?_) (λ i hi0 hin hp h0=>by omega)
 rw [app_get (by omega),app_get (by omega)]
 exact h i hi0 (by omega)
def popD (key:α→Int) (l:List α):List α:=downF key (l.length - 1) (swp l 0 (l.length - 1)) 0
def popL (key:α→Int) (l:List α):List α:=(popD key l).take (l.length - 1)
theorem popD_len:(popD key l).length=l.length:=by unfold popD;rw [downF_len _ _ _ _ (Nat.le_refl _),swp_len]
theorem popL_len:(popL key l).length=l.length - 1:=by unfold popL;rw [List.length_take,popD_len];omega
theorem popD_last (h0:0<l.length):(popD key l).getD (l.length - 1) default=l.getD 0 default:=by
 unfold popD
 by_cases h1:l.length - 1=0
 ·unfold downF
  rw [if_neg (by omega),swp_get h0 (by omega),if_pos rfl]
 ·rw [downF_out _ _ _ _ (Nat.le_refl _) (by rw [swp_len];omega) (by rw [swp_len];omega) _ (Nat.le_refl _) (by omega),swp_get h0 (by omega),if_pos rfl]
theorem popL_perm (h0:0<l.length):(l.getD 0 default::popL key l).Perm l:=by
 have h1:(popD key l).Perm l:=by
  unfold popD
  exact (downF_perm _ _ _ _ (Nat.le_refl _) (by rw [swp_len];omega) (by rw [swp_len];exact h0)).trans (swp_perm h0 (by omega))
 have h2:popL key l++ [l.getD 0 default]=popD key l:=by
  have e:=popD_last (key:=key) h0
  have hl:=popD_len (key:=key) (l:=l)
  unfold popL
  rw [← e,List.getD_eq_getElem?_getD,List.getElem?_eq_getElem (by omega),Option.getD_some]
  rw [← List.take_succ_eq_append_getElem (by omega)]
  exact List.take_of_length_le (by omega)
 exact ((List.perm_append_singleton _ _).symm.trans (by rw [h2])).trans h1
theorem popL_heap (h:Heap key l.length l) (h0:0<l.length):Heap key (popL key l).length (popL key l):=by
 rw [popL_len]
 have hd:Heap key (l.length - 1) (popD key l):=by
  unfold popD
  refine downF_heap _ _ _ _ (Nat.le_refl _) (by rw [swp_len];exact h0) (by rw [swp_len];omega) (λ i hi0 hin hne=> ?_) (λ i _ _ _ h0=>absurd h0 (by omega))
  rw [swp_get h0 (by omega),swp_get h0 (by omega),if_neg (by omega),if_neg hne,if_neg (by omega),if_neg (by omega)]
  exact h i hi0 (by omega)
 intro i hi0 hin
 have ht:∀ k,k<l.length - 1→(popL key l).getD k default=(popD key l).getD k default:=λ k hk=>by
  unfold popL
  rw [List.getD_eq_getElem?_getD,List.getD_eq_getElem?_getD,List.getElem?_take,if_pos hk]
 rw [ht _ (by omega),ht _ hin]
 exact hd i hi0 hin
theorem Heap.least (h:Heap key l.length l):∀ y∈l,key (l.getD 0 default)≤key y:=by
 intro y hy
 obtain ⟨i,hi,rfl⟩:=List.mem_iff_getElem.1 hy
 have:=h.min i hi
 rwa [show l.getD i default=l[i] by rw [List.getD_eq_getElem?_getD,List.getElem?_eq_getElem hi];rfl] at this
end
end Hp
end
section
open Go.RowKit
namespace Gra
section
variable {α:Type} {adj:α→List α} {k h:α→Int} {src:α→Prop} {x y s b:α} {d d' D:Int} {fr fr':α→Int} {Q Q':List (α×Int)} {rest:List α} {e:α×Int}
inductive Rch (adj:α→List α) (k:α→Int) (src:α→Prop):α→Int→Prop
 | start {s:α} (hs:src s):Rch adj k src s 0
 | step {x y:α} {d:Int} (hx:Rch adj k src x d) (hy:y∈adj x):Rch adj k src y (d+k y)
def IsD (adj:α→List α) (k:α→Int) (src:α→Prop) (x:α) (d:Int):Prop:=Rch adj k src x d∧∀ d',Rch adj k src x d'→d≤d'
structure Ok (adj:α→List α) (k h:α→Int):Prop where
 k0:∀ x,∀ y∈adj x,0<k y
 h0:∀ x,0≤h x
 hk:∀ x,∀ y∈adj x,h x≤k y+h y
theorem Rch.nn (o:Ok adj k h) (r:Rch adj k src x d):0≤d:=by
 induction r with
 | start _=>exact Int.le_refl 0
 | step _ hy ih=>have:=o.k0 _ _ hy;omega
theorem IsD.uniq (h1:IsD adj k src x d) (h2:IsD adj k src x d'):d=d':=Int.le_antisymm (h1.2 _ h2.1) (h2.2 _ h1.1)
structure Inv (adj:α→List α) (k h:α→Int) (src:α→Prop) (fr:α→Int) (Q:List (α×Int)) (x0:α) (rest:List α):Prop where
 q:∀ e∈Q,(src e.1∧e.2=0)∨∃ p,0≤fr p∧e.1∈adj p∧e.2=fr p+k e.1
 neg:∀ x,fr x<0→fr x= -1
 dist:∀ x,0≤fr x→IsD adj k src x (fr x)
 pred:∀ x,0≤fr x→(src x∧fr x=0)∨∃ p,0≤fr p∧x∈adj p∧fr x=fr p+k x
 opn:∀ x,0≤fr x→∀ y∈adj x,0≤fr y∨(y,fr x+k y)∈Q∨(x=x0∧y∈rest)
 srcs:∀ s,src s→0≤fr s∨(s,0)∈Q
 mono:∀ x,0≤fr x→∀ e∈Q,fr x+h x≤e.2+h e.1
 x0d:rest≠ []→0≤fr x0∧(∀ y∈rest,y∈adj x0)∧∀ z,0≤fr z→fr z+h z≤fr x0+h x0
theorem Inv.rch (i:Inv adj k h src fr Q x rest) (he:e∈Q):Rch adj k src e.1 e.2:=by
 rcases i.q e he with ⟨h1,h2⟩ | ⟨p,h1,h2,h3⟩
 ·rw [h2];exact .start h1
 ·rw [h3];exact .step (i.dist p h1).1 h2
theorem Inv.front (o:Ok adj k h) (i:Inv adj k h src fr Q s []) (r:Rch adj k src x d):fr x<0→∃ e∈Q,e.2+h e.1≤d+h x:=by
 induction r with
 | start hs =>
  intro hx
  rcases i.srcs _ hs with h1 | h1
  ·omega
  ·exact ⟨_,h1,Int.le_refl _⟩
 | @step x y d r hy ih =>
  intro hyn
  by_cases hx:fr x<0
  ·obtain ⟨e,he,hle⟩:=ih hx
   have:=o.hk x y hy
   exact ⟨e,he,by omega⟩
  ·rcases i.opn x (by omega) y hy with h1 | h1 | ⟨_,h1⟩
   ·omega
   ·have:=(i.dist x (by omega)).2 d r
    exact ⟨_,h1,by dsimp only;omega⟩
   ·simp at h1
theorem Inv.popSkip (i:Inv adj k h src fr Q x []) (hp:Q.Perm (e::Q')) (hd:0≤fr e.1):Inv adj k h src fr Q' x []:=by
 have hs:∀ z∈Q',z∈Q:=λ z hz=>hp.symm.subset (List.mem_cons_of_mem _ hz)
 have hq:∀ z∈Q,z=e∨z∈Q':=λ z hz=>List.mem_cons.1 (hp.subset hz)
 refine ⟨λ z hz=>i.q z (hs z hz),i.neg,i.dist,i.pred,λ a ha c hc=> ?_,λ s hs'=> ?_,λ a ha z hz=>i.mono a ha z (hs z hz),λ hn=>absurd rfl hn⟩
 ·rcases i.opn a ha c hc with h1 | h1 | h1
  ·exact .inl h1
  ·rcases hq _ h1 with h2 | h2
   ·left;rw [← h2] at hd;exact hd
   ·exact .inr (.inl h2)
  ·exact .inr (.inr h1)
 ·rcases i.srcs s hs' with h1 | h1
  ·exact .inl h1
  ·rcases hq _ h1 with h2 | h2
   ·left;rw [← h2] at hd;exact hd
   ·exact .inr h2
theorem Inv.popNew (o:Ok adj k h) (i:Inv adj k h src fr Q s []) (hp:Q.Perm (e::Q')) (hd:fr e.1<0) (hmin:∀ z∈Q,e.2+h e.1≤z.2+h z.1) (he':fr' e.1=e.2) (hne:∀ z,z≠e.1→fr' z=fr z):Inv adj k h src fr' Q' e.1 (adj e.1)∧0≤e.2:=by
 have hs:∀ z∈Q',z∈Q:=λ z hz=>hp.symm.subset (List.mem_cons_of_mem _ hz)
 have hq:∀ z∈Q,z=e∨z∈Q':=λ z hz=>List.mem_cons.1 (hp.subset hz)
 have heQ:e∈Q:=hp.symm.subset List.mem_cons_self
 have hre:=i.rch heQ
 have hnn:=hre.nn o
 have hup:∀ z,0≤fr z→fr' z=fr z:=λ z hz=>hne z (λ e1=>by rw [e1] at hz;omega)
 have hD:IsD adj k src e.1 e.2:=⟨hre,λ d' r=>by
  obtain ⟨z,hz,hle⟩:=i.front o r hd
  have:=hmin z hz
  omega⟩
 have hkey:∀ a,0≤fr' a→fr' a+h a≤e.2+h e.1:=λ a ha=>by
  by_cases e1:a=e.1
  ·subst e1;omega
  ·rw [hne a e1] at ha ⊢;exact i.mono a ha e heQ
 refine ⟨⟨λ z hz=> ?_,λ a ha=> ?_,λ a ha=> ?_,λ a ha=> ?_,λ a ha c hc=> ?_,λ a ha=> ?_,λ a ha z hz=> ?_,λ _=>⟨by omega,λ y hy=>hy,λ a ha=>by rw [he'];exact hkey a ha⟩⟩,hnn⟩
 ·rcases i.q z (hs z hz) with h1 | ⟨p,h1,h2,h3⟩
  ·exact .inl h1
  ·exact .inr ⟨p,by rw [hup p h1];exact h1,h2,by rw [hup p h1];exact h3⟩
 ·by_cases e1:a=e.1
  ·subst e1;omega
  ·rw [hne a e1] at ha ⊢;exact i.neg a ha
 ·by_cases e1:a=e.1
  ·rw [e1,he'];exact hD
  ·rw [hne a e1] at ha ⊢;exact i.dist a ha
 ·by_cases e1:a=e.1
  ·rw [e1,he']
   rcases i.q e heQ with h1 | ⟨p,h1,h2,h3⟩
   ·exact .inl h1
   ·exact .inr ⟨p,by rw [hup p h1];exact h1,h2,by rw [hup p h1];exact h3⟩
  ·rw [hne a e1] at ha ⊢
   rcases i.pred a ha with h1 | ⟨p,h1,h2,h3⟩
   ·exact .inl h1
   ·exact .inr ⟨p,by rw [hup p h1];exact h1,h2,by rw [hup p h1];exact h3⟩
 ·by_cases e1:a=e.1
  ·exact .inr (.inr ⟨e1,by rw [← e1];exact hc⟩)
  ·rw [hne a e1] at ha ⊢
   rcases i.opn a ha c hc with h1 | h1 | ⟨_,h1⟩
   ·left;rw [hup c h1];exact h1
   ·rcases hq _ h1 with h2 | h2
    ·left;have:c=e.1:=by rw [← h2]
     rw [this,he'];exact hnn
    ·exact .inr (.inl h2)
   ·simp at h1
 ·rcases i.srcs a ha with h1 | h1
  ·left;rw [hup a h1];exact h1
  ·rcases hq _ h1 with h2 | h2
   ·left;have:a=e.1:=by rw [← h2]
    rw [this,he'];exact hnn
   ·exact .inr h2
 ·have:=hkey a ha
  have:=hmin z (hs z hz)
  omega
theorem Inv.push (o:Ok adj k h) (i:Inv adj k h src fr Q x (y::rest)) (hp:Q'.Perm ((y,fr x+k y)::Q)):Inv adj k h src fr Q' x rest:=by
 have hs:∀ z∈Q,z∈Q':=λ z hz=>hp.symm.subset (List.mem_cons_of_mem _ hz)
 have hn:(y,fr x+k y)∈Q':=hp.symm.subset List.mem_cons_self
 have hq:∀ z∈Q',z=(y,fr x+k y)∨z∈Q:=λ z hz=>List.mem_cons.1 (hp.subset hz)
 obtain ⟨x1,x2,x3⟩:=i.x0d (by simp)
 have hya:=x2 y List.mem_cons_self
 refine ⟨λ z hz=> ?_,i.neg,i.dist,i.pred,λ a ha c hc=> ?_,λ a ha=>(i.srcs a ha).imp id (hs _),λ a ha z hz=> ?_,λ _=>⟨x1,λ c hc=>x2 c (List.mem_cons_of_mem _ hc),x3⟩⟩
 ·rcases hq z hz with rfl | h1
  ·exact .inr ⟨x,x1,hya,rfl⟩
  ·exact i.q z h1
 ·rcases i.opn a ha c hc with h1 | h1 | ⟨h1,h2⟩
  ·exact .inl h1
  ·exact .inr (.inl (hs _ h1))
  ·rcases List.mem_cons.1 h2 with h3 | h3
   ·subst h1;subst h3;exact .inr (.inl hn)
   ·exact .inr (.inr ⟨h1,h3⟩)
 ·rcases hq z hz with rfl | h1
  ·have:=x3 a ha
   have:=o.hk x y hya
   dsimp only;omega
  ·exact i.mono a ha z h1
theorem Inv.skip (i:Inv adj k h src fr Q x (y::rest)) (hy:0≤fr y):Inv adj k h src fr Q x rest:=by
 obtain ⟨x1,x2,x3⟩:=i.x0d (by simp)
 refine ⟨i.q,i.neg,i.dist,i.pred,λ a ha c hc=> ?_,i.srcs,i.mono,λ _=>⟨x1,λ c hc=>x2 c (List.mem_cons_of_mem _ hc),x3⟩⟩
 rcases i.opn a ha c hc with h1 | h1 | ⟨h1,h2⟩
 ·exact .inl h1
 ·exact .inr (.inl h1)
 ·rcases List.mem_cons.1 h2 with h3 | h3
  ·subst h3;exact .inl hy
  ·exact .inr (.inr ⟨h1,h3⟩)
theorem Inv.start (hn:∀ x,fr x= -1) (hq:∀ e∈Q,src e.1∧e.2=0) (hs:∀ s,src s→(s,0)∈Q):Inv adj k h src fr Q x [] :=
 ⟨λ e he=> .inl (hq e he),λ a _=>hn a,λ a ha=>by rw [hn a] at ha;omega,λ a ha=>by rw [hn a] at ha;omega,λ a ha=>by rw [hn a] at ha;omega,λ s h1=> .inr (hs s h1),λ a ha=>by rw [hn a] at ha;omega,λ h1=>absurd rfl h1⟩
theorem Inv.all (o:Ok adj k h) (i:Inv adj k h src fr [] s []) (r:Rch adj k src x d):0≤fr x:=by
 by_cases hx:fr x<0
 ·obtain ⟨e,he,_⟩:=i.front o r hx
  simp at he
 ·omega
structure Spec (adj:α→List α) (k h:α→Int) (src:α→Prop) (b:α) (fr:α→Int):Prop where
 neg:∀ x,fr x<0→fr x= -1
 dist:∀ x,0≤fr x→IsD adj k src x (fr x)∧∀ D,IsD adj k src b D→fr x+h x≤D
 known:∀ x d,IsD adj k src x d→(∀ D,IsD adj k src b D→d+h x≤D)→fr x=d
 pred:∀ x,0≤fr x→(src x∧fr x=0)∨∃ p,0≤fr p∧x∈adj p∧fr x=fr p+k x
theorem Spec.uniq (s1:Spec adj k h src b fr) (s2:Spec adj k h src b fr') (x:α):fr x=fr' x:=by
 by_cases h1:0≤fr x
 ·exact (s2.known x _ (s1.dist x h1).1 (s1.dist x h1).2).symm
 ·by_cases h2:0≤fr' x
  ·exact s1.known x _ (s2.dist x h2).1 (s2.dist x h2).2
  ·rw [s1.neg x (by omega),s2.neg x (by omega)]
theorem Inv.ends (o:Ok adj k h) (i:Inv adj k h src fr Q s []) (hb:h b=0) (hm:0≤fr b→∀ x,0≤fr x→fr x+h x≤fr b) (he:(0≤fr b∧∀ e∈Q,fr b<e.2+h e.1)∨Q= []):Spec adj k h src b fr:=by
 refine ⟨i.neg,λ x hx=>⟨i.dist x hx,λ D hD=> ?_⟩,λ x d hd hle=> ?_,i.pred⟩
 ·by_cases h1:0≤fr b
  ·have:=hm h1 x hx
   rw [hD.uniq (i.dist b h1)];exact this
  ·rcases he with he | he
   ·omega
   ·subst he;exact absurd (i.all o hD.1) h1
 ·by_cases h1:fr x<0
  ·obtain ⟨e,heQ,hk⟩:=i.front o hd.1 h1
   rcases he with ⟨h2,h3⟩ | h2
   ·have:=hle _ (i.dist b h2)
    have:=h3 e heQ
    omega
   ·subst h2;simp at heQ
  ·exact (i.dist x (by omega)).uniq hd
theorem Spec.end_ (s:Spec adj k h src b fr) (hb:h b=0) (hd:IsD adj k src b D):fr b=D:=s.known b D hd λ D' h1=>by rw [hb,hd.uniq h1];omega
theorem Rch.isD (o:Ok adj k h) (r:Rch adj k src x d):∃ d,IsD adj k src x d:=by
 have:∀ n:Nat,∀ d,Rch adj k src x d→d.toNat=n→∃ d,IsD adj k src x d:=by
  intro n
  induction n using Nat.strongRecOn with
  | ind n ih =>
   intro d r hn
   by_cases hex:∃ d',Rch adj k src x d'∧d'<d
   ·obtain ⟨d',r',hlt⟩:=hex
    have:=r'.nn o
    exact ih d'.toNat (by omega) d' r' rfl
   ·exact ⟨d,r,λ d' r'=>by
     by_cases hlt:d'<d
     ·exact absurd ⟨d',r',hlt⟩ hex
     ·omega⟩
 exact this _ d r rfl
end
end Gra
end
end Go.Proofs.YtlikikpgmmkjbaaGreat
