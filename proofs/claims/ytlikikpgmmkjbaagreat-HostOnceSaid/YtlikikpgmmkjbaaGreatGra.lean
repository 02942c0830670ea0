import Derived.Test.YtlikikpgmmkjbaaGreatGol
set_option linter.unusedVariables false
set_option linter.unusedSimpArgs false
set_option maxRecDepth 100000
set_option maxHeartbeats 4000000
open Go.RowKit
namespace Go.Proofs.YtlikikpgmmkjbaaGreat
open Tryz
abbrev aRz:=@List.mem_singleton
abbrev aR2:=@List.take_succ_eq_append_getElem
abbrev aTb:=@Int.le_refl
abbrev aVK:=@List.perm_append_singleton
abbrev aVM:=@List.Perm.refl
abbrev aVY:=@List.cons.inj
abbrev aWy:=@Int.not_le
abbrev aWI:=@List.getElem?_set
section
theorem bL {B:List Nat} {b n:Nat} (u:∀ q∈B,q<n) (h:n≤b:=by omega):∀ q∈B,q∈ [b]→False:=fun q I Φ=>by have:=u q I;have:=aRz.1 Φ;omega
theorem bA {B:List Nat} {b n:Nat} (u:∀ q∈B,n≤q) (h:b<n:=by omega):∀ q∈B,q∈ [b]→False:=fun q I Φ=>by have:=u q I;have:=aRz.1 Φ;omega
theorem aO {a b:Nat} (h:a≠b:=by omega):a∉ [b]:=fun e=>h (aRz.1 e)
section
variable {P:Program} {n:Nat} {ops:Array Oper} {Q:Exit→Act→World→Prop} {E:List (Nat×Value)} {w w' w0:World} {v:Value} {ty:TypeId} {pos:String} {af:Array Edge} {x:Operand} {rest:List Oper} {d i:Nat} {bO:List Nat} {aS:Nat→Nat}
theorem ai {y:Code} (h:W P n y Q E w):cE P n ops (rF P y Q) [] E w:=nl (aV h)
theorem aj {id:Nat} {l:List Oper} {y:Code} (h:cE P n l.toArray (rF P y Q) l E w):W P n (.seq (.region id l.toArray false) y) Q E w:=aA (rg h)
theorem bt {y:Code} (h:W P n y Q E w):W P n .skip (rF P y Q) E w:=e9 (aV h)
theorem J {op:Op} (hr:cS P E ⟨some d,op,ty,pos,af,none⟩ w v w') (h:cE P n ops Q rest ((d,v)::E) w') (hd:Nat.blt d n=true:=by rfl):cE P n ops Q (⟨some d,op,ty,pos,af,none⟩::rest) E w:=iA hr hd h
theorem vm (hx:ev E x=some v) (h:cE P n ops Q rest ((d,v)::E) w) (hd:Nat.blt d n=true:=by rfl):cE P n ops Q (⟨some d, .move x,ty,pos,af,none⟩::rest) E w:=iA (aM hx) hd h
theorem va (hx:ev E x=some v) (h:cE P n ops Q rest ((d,v)::E) w) (hd:Nat.blt d n=true:=by rfl):cE P n ops Q (⟨some d, .assign x,ty,pos,af,none⟩::rest) E w:=iA (fg hx) hd h
theorem au {op:Op} (aq:ops[i]? =some ⟨some d,op,ty,pos,af,none⟩) (hr:∀ w,cS P E ⟨some d,op,ty,pos,af,none⟩ w v w) (h:j1 P n ops Q aS bO ((d,v)::E) w0) (ar:aS i=1:=by rfl) (hd:Nat.blt d n=true:=by rfl):j1 P n ops Q aS (i::bO) E w0:=rS aq ar hr hd h
theorem bH {op:Op} (aq:ops[i]? =some ⟨some d,op,ty,pos,af,none⟩) (hr:∀ w,Ext w0 w→cS P E ⟨some d,op,ty,pos,af,none⟩ w v w) (h:j1 P n ops Q aS bO ((d,v)::E) w0) (ar:aS i=0:=by rfl) (hd:Nat.blt d n=true:=by rfl):j1 P n ops Q aS (i::bO) E w0:=aeS aq ar hr hd h
end
theorem wI:∀ {cP E:List (Nat×Value)},cP.map (fun p=>look E p.1)=cP.map (fun p=>some p.2)→Sub cP E
 | [],_,_=>Sub.nil
 | (k,v)::r,E,h=>have cI:look E k::r.map (fun p=>look E p.1)=some v::r.map (fun p=>some p.2):=h
  Sub.cons (aVY cI).1 (wI (aVY cI).2)
theorem cC:(∀ (a b:Bool),((a || b)=true)↔(a=true∨b=true))∧(∀ (a b:Bool),((a || b)=false)↔(a=false∧b=false))∧(∀ (a b:Bool),((a && b)=true)↔(a=true∧b=true))∧(∀ (a b:Bool),((a && b)=false)↔(a=false∨b=false))∧(∀ (p:Prop) [Decidable p],(decide p=true)↔p)∧(∀ (p:Prop) [Decidable p],(decide p=false)↔¬ p)∧(∀ (α:Type) [BEq α] [LawfulBEq α] (a b:α),((a == b)=true)↔(a=b))∧(∀ (α:Type) [BEq α] [LawfulBEq α] (a b:α),((a != b)=true)↔(a≠b))∧(∀ (α:Type) [BEq α] [LawfulBEq α] (a b:α),((a == b)=false)↔(a≠b))∧(∀ (α:Type) [BEq α] [LawfulBEq α] (a b:α),((a != b)=false)↔(a=b))∧(∀ b:Bool,((!b)=true)↔(b=false))∧(∀ b:Bool,((!b)=false)↔(b=true))∧(∀ b:Bool,(¬ (b=true))↔(b=false))∧(∀ b:Bool,(¬ (b=false))↔(b=true))∧(∀ a b:Int,(¬ a<b)↔b≤a)∧(∀ a b:Int,(¬ a≤b)↔b<a)∧(∀ a b:Nat,(¬ a<b)↔b≤a)∧(∀ a b:Nat,(¬ a≤b)↔b<a)∧(∀ (α:Type) (a b:α),(a≠b)↔¬ (a=b))∧(∀ p:Prop,(¬ ¬ p)↔p):=
 ⟨fun a b=>by cases a<;>cases b<;>simp,fun a b=>by cases a<;>cases b<;>simp,fun a b=>by cases a<;>cases b<;>simp,fun a b=>by cases a<;>cases b<;>simp,fun p _=>by simp,fun p _=>by simp,fun α _ _ a b=>by simp,fun α _ _ a b=>by simp,fun α _ _ a b=>by simp,fun α _ _ a b=>by simp,fun b=>by simp,fun b=>by simp,fun b=>by simp,fun b=>by simp,fun _ _=>Int.not_lt,fun _ _=>aWy,fun _ _=>Nat.not_lt,fun _ _=>Nat.not_le,fun _ _ _=>Iff.rfl,fun _=>Classical.not_not⟩
theorem ba (j:Nat) {n:Nat} (h:j<n:=by omega):0<n:=Nat.zero_lt_of_lt h
theorem γ {a b c:World} (h:Ext a b) (k:Ext b c):Ext a c:=Ext.tH h k
theorem bu {b n:Nat} (h:n≤b:=by omega):∀ q∈ [b],n≤q:=fun q I=>by rw [aRz.1 I];exact h
theorem iL:Fd prog 49 0 0:=fun _ _ _=>by kernel_rfl
theorem bc:eG prog 3 false:=fun _=>by kernel_rfl
theorem iM:Fd prog 49 1 1:=fun _ _ _=>by kernel_rfl
theorem cj:eG prog 49 true:=fun _=>by kernel_rfl
theorem bU:eN prog 49 2:=fun _=>by kernel_rfl
theorem PL:Enters prog 193 :=b7 func193
theorem PN:Enters prog 194 :=b7 func194
theorem dK:eN prog 3 1:=fun _=>by kernel_rfl
theorem oS:eN prog 313 4:=fun _=>by kernel_rfl
theorem PQ:Fd prog 313 2 3:=fun _ _ _=>by kernel_rfl
theorem Px:eG prog 313 true:=fun _=>by kernel_rfl
theorem pO:eG prog 263 false:=fun _=>by kernel_rfl
theorem PB:Enters prog 265 :=b7 func265
theorem PC:Enters prog 266 :=b7 func266
theorem ad2:eN prog 263 1:=fun _=>by kernel_rfl
theorem ad5:mi prog 313 (.agg #[.int .i64 0, .int .i64 0, .int .i64 0, .int .i64 0]):=fun _=>by kernel_rfl
theorem asu:Enters prog 268 :=b7 func268
theorem KC:Enters prog 219 :=b7 func219
theorem asC:Enters prog 239 :=b7 func239
theorem asJ:Enters prog 240 :=b7 func240
theorem asQ:Enters prog 267 :=b7 func267
theorem aec:Fd prog 265 0 0:=fun _ _ _=>by kernel_rfl
theorem U5:Fd prog 24 0 0:=fun _ _ _=>by kernel_rfl
theorem lS:eG prog 24 true:=fun _=>by kernel_rfl
theorem lT:eN prog 24 3:=fun _=>by kernel_rfl
theorem rP:Enters prog 158 :=b7 func158
theorem atg:Enters prog 199 :=b7 func199
theorem ath:mi prog 260 (.agg #[.int .i64 0, .int .i64 0, .int .i64 0, .int .i64 0, .int .i64 0, .int .i64 0, .int .i64 0, .int .i64 0]):=fun _=>by kernel_rfl
theorem aep:eN prog 260 8:=fun _=>by kernel_rfl
theorem ati:eG prog 260 true:=fun _=>by kernel_rfl
theorem aeq:Fd prog 265 1 3:=fun _ _ _=>by kernel_rfl
theorem aer:Enters prog 161 :=b7 func161
theorem EJ:Fd prog 265 3 6:=fun _ _ _=>by kernel_rfl
theorem atj:Enters prog 218 :=b7 func218
theorem mL:Enters prog 166 :=b7 func166
theorem oR:Fd prog 265 2 5:=fun _ _ _=>by kernel_rfl
theorem gL:eG prog 22 false:=fun _=>by kernel_rfl
theorem atk:Enters prog 220 :=b7 func220
theorem U7:Fd prog 313 0 0:=fun _ _ _=>by kernel_rfl
theorem aes:Fd prog 313 1 2:=fun _ _ _=>by kernel_rfl
theorem aet:Enters prog 165 :=b7 func165
theorem xv:mi prog 49 (.agg #[.int .i64 0, .int .i64 0]):=fun _=>by kernel_rfl
theorem U8:Enters prog 164 :=b7 func164
theorem U9:Enters prog 197 :=b7 func197
theorem atl:Enters prog 217 :=b7 func217
theorem AR:Fd prog 24 2 2:=fun _ _ _=>by kernel_rfl
theorem aeu:Enters prog 196 :=b7 func196
theorem aev:Enters prog 198 :=b7 func198
theorem aew:Enters prog 163 :=b7 func163
theorem atm:Enters prog 167 :=b7 func167
theorem atn:Enters prog 216 :=b7 func216
theorem aex:Enters prog 195 :=b7 func195
theorem PM:Fd prog 66 2 2:=fun _ _ _=>by kernel_rfl
theorem U_:Enters prog 128 :=b7 func128
theorem U':mi prog 207 (.agg #[.int .i64 0, .int .i64 0, .int .i64 0, .int .i64 0]):=fun _=>by kernel_rfl
theorem Va:eN prog 207 4:=fun _=>by kernel_rfl
theorem uG:Fd prog 66 3 3:=fun _ _ _=>by kernel_rfl
theorem EK:Fd prog 66 1 1:=fun _ _ _=>by kernel_rfl
theorem ato:Fd prog 207 1 1:=fun _ _ _=>by kernel_rfl
theorem s4:Fd prog 28 0 0:=fun _ _ _=>by kernel_rfl
theorem atp:Enters prog 162 :=b7 func162
theorem du:eG prog 28 true:=fun _=>by kernel_rfl
theorem cf:eN prog 28 9:=fun _=>by kernel_rfl
theorem Hm:Enters prog 56 :=b7 func56
theorem kI:Fd prog 28 4 6:=fun _ _ _=>by kernel_rfl
theorem mM:eG prog 26 false:=fun _=>by kernel_rfl
theorem lU:eN prog 66 7:=fun _=>by kernel_rfl
theorem CN:eG prog 66 true:=fun _=>by kernel_rfl
theorem KG:mi prog 66 (.agg #[.int .i64 0, .int .i64 0, .int .i64 0, .int .i64 0, .int .i64 0, .int .i64 0, .int .i64 0]):=fun _=>by kernel_rfl
theorem Hn:Fd prog 66 0 0:=fun _ _ _=>by kernel_rfl
theorem Vb:eN prog 223 2:=fun _=>by kernel_rfl
theorem atq:eG prog 223 true:=fun _=>by kernel_rfl
theorem atr:mi prog 223 (.agg #[.int .i64 0, .int .i64 0]):=fun _=>by kernel_rfl
theorem ats:Fd prog 223 0 0:=fun _ _ _=>by kernel_rfl
theorem PO:mi prog 3 (.int .i64 0):=fun _=>by kernel_rfl
theorem att:Fd prog 223 1 1:=fun _ _ _=>by kernel_rfl
theorem Vc:eN prog 4 1:=fun _=>by kernel_rfl
theorem EL:eG prog 4 false:=fun _=>by kernel_rfl
theorem atu:Enters prog 134 :=b7 func134
theorem atv:Fd prog 207 2 2:=fun _ _ _=>by kernel_rfl
theorem pQ:mi prog 28 (.agg #[.int .i64 0, .int .i64 0, .slice none 0 0, .slice none 0 0, .slice none 0 0, .slice none 0 0, .slice none 0 0, .int .i64 0, .int .i64 0]):=fun _=>by kernel_rfl
theorem AS:Enters prog 27 :=b7 func27
theorem xw:eN prog 22 1:=fun _=>by kernel_rfl
theorem uH:Fd prog 28 1 3:=fun _ _ _=>by kernel_rfl
theorem zd:eG prog 25 false:=fun _=>by kernel_rfl
theorem xx:Fd prog 28 2 4:=fun _ _ _=>by kernel_rfl
theorem Vd:Enters prog 101 :=b7 func101
theorem Ve:eN prog 25 1:=fun _=>by kernel_rfl
theorem CO:Fd prog 28 3 5:=fun _ _ _=>by kernel_rfl
theorem Vf:Enters prog 26 :=b7 func26
theorem KH:eN prog 26 1:=fun _=>by kernel_rfl
theorem atw:Enters prog 95 :=b7 func95
theorem atx:Enters prog 96 :=b7 func96
theorem PR:Fd prog 66 4 5:=fun _ _ _=>by kernel_rfl
theorem Vg:eN prog 225 3:=fun _=>by kernel_rfl
theorem aty:eG prog 225 true:=fun _=>by kernel_rfl
theorem atz:Fd prog 225 0 0:=fun _ _ _=>by kernel_rfl
theorem Ho:eG prog 227 false:=fun _=>by kernel_rfl
theorem atA:Enters prog 136 :=b7 func136
theorem atB:mi prog 227 (.pointer none):=fun _=>by kernel_rfl
theorem ar4:eN prog 227 1:=fun _=>by kernel_rfl
theorem ar5:Enters prog 135 :=b7 func135
theorem ar6:Fd prog 225 1 1:=fun _ _ _=>by kernel_rfl
theorem ar7:Enters prog 137 :=b7 func137
theorem ar8:Enters prog 97 :=b7 func97
theorem ar9:Enters prog 98 :=b7 func98
theorem y_:Fd prog 178 1 1:=fun _ _ _=>by kernel_rfl
theorem Py:Enters prog 168 :=b7 func168
theorem Pz:Enters prog 169 :=b7 func169
theorem AN:Fd prog 66 5 6:=fun _ _ _=>by kernel_rfl
theorem PA:Fd prog 178 2 2:=fun _ _ _=>by kernel_rfl
theorem nv:Fd prog 176 0 0:=fun _ _ _=>by kernel_rfl
theorem asa:Enters prog 202 :=b7 func202
theorem ad0:Fd prog 178 3 4:=fun _ _ _=>by kernel_rfl
theorem ad1:Fd prog 207 3 3:=fun _ _ _=>by kernel_rfl
theorem Ky:Fd prog 28 5 7:=fun _ _ _=>by kernel_rfl
theorem asb:Enters prog 170 :=b7 func170
theorem asc:Fd prog 207 0 0:=fun _ _ _=>by kernel_rfl
theorem ase:Fd prog 178 0 0:=fun _ _ _=>by kernel_rfl
theorem Kz:eG prog 178 true:=fun _=>by kernel_rfl
theorem EH:eN prog 178 5:=fun _=>by kernel_rfl
theorem asf:Enters prog 138 :=b7 func138
theorem asg:Enters prog 139 :=b7 func139
theorem ash:Enters prog 140 :=b7 func140
theorem asi:Enters prog 99 :=b7 func99
theorem asj:mi prog 176 (.agg #[.int .i64 0, .int .i64 0, .slice none 0 0, .slice none 0 0, .slice none 0 0, .slice none 0 0, .slice none 0 0, .int .i64 0, .int .i64 0]):=fun _=>by kernel_rfl
theorem asl:eN prog 176 9:=fun _=>by kernel_rfl
theorem asm:mi prog 178 (.agg #[.int .i64 0, .int .i64 0, .int .i64 0, .int .i64 0, .int .i64 0]):=fun _=>by kernel_rfl
theorem asn:Enters prog 100 :=b7 func100
theorem KA:mi prog 51 (.agg #[.int .i64 0, .int .i64 0, .int .i64 0, .int .i64 0, .int .i64 0, .int .i64 0]):=fun _=>by kernel_rfl
theorem pP:Fd prog 51 1 1:=fun _ _ _=>by kernel_rfl
theorem CH:Fd prog 51 2 2:=fun _ _ _=>by kernel_rfl
theorem CI:Fd prog 51 3 3:=fun _ _ _=>by kernel_rfl
theorem CJ:Fd prog 51 4 5:=fun _ _ _=>by kernel_rfl
theorem hN:eG prog 51 true:=fun _=>by kernel_rfl
theorem dN:eN prog 51 6:=fun _=>by kernel_rfl
theorem s3:Fd prog 51 0 0:=fun _ _ _=>by kernel_rfl
theorem Hh:Enters prog 145 :=b7 func145
theorem aso:Enters prog 146 :=b7 func146
theorem US:Enters prog 104 :=b7 func104
theorem UT:Fd prog 169 0 0:=fun _ _ _=>by kernel_rfl
theorem ad3:eG prog 123 false:=fun _=>by kernel_rfl
theorem asp:eN prog 123 1:=fun _=>by kernel_rfl
theorem UU:Fd prog 169 1 1:=fun _ _ _=>by kernel_rfl
theorem ad4:eG prog 124 false:=fun _=>by kernel_rfl
theorem asq:eN prog 124 1:=fun _=>by kernel_rfl
theorem EI:Fd prog 169 2 2:=fun _ _ _=>by kernel_rfl
theorem PD:eG prog 125 false:=fun _=>by kernel_rfl
theorem UW:eN prog 125 1:=fun _=>by kernel_rfl
theorem UX:Enters prog 87 :=b7 func87
theorem asr:mi prog 169 (.agg #[.slice none 0 0, .slice none 0 0, .slice none 0 0]):=fun _=>by kernel_rfl
theorem ad6:Enters prog 94 :=b7 func94
theorem Hi:mi prog 60 (.agg #[.slice none 0 0, .slice none 0 0, .slice none 0 0]):=fun _=>by kernel_rfl
theorem UY:Enters prog 60 :=b7 func60
theorem AO:eN prog 60 3:=fun _=>by kernel_rfl
theorem PE:eG prog 60 true:=fun _=>by kernel_rfl
theorem KB:Fd prog 28 6 8:=fun _ _ _=>by kernel_rfl
theorem ad7:Enters prog 61 :=b7 func61
theorem ass:Fd prog 60 0 0:=fun _ _ _=>by kernel_rfl
theorem ast:Enters prog 62 :=b7 func62
theorem asv:Fd prog 60 1 1:=fun _ _ _=>by kernel_rfl
theorem asw:Enters prog 63 :=b7 func63
theorem asx:Fd prog 60 2 2:=fun _ _ _=>by kernel_rfl
theorem asy:eN prog 58 1:=fun _=>by kernel_rfl
theorem ad8:Enters prog 92 :=b7 func92
theorem asz:Enters prog 83 :=b7 func83
theorem asA:Fd prog 24 1 1:=fun _ _ _=>by kernel_rfl
theorem PF:Enters prog 57 :=b7 func57
theorem asB:Enters prog 58 :=b7 func58
theorem ad9:Enters prog 20 :=b7 func20
theorem AP:eN prog 44 1:=fun _=>by kernel_rfl
theorem n9:eG prog 44 false:=fun _=>by kernel_rfl
theorem UZ:Enters prog 25 :=b7 func25
theorem KD:Fd prog 31 0 0:=fun _ _ _=>by kernel_rfl
theorem uF:Fd prog 31 1 9:=fun _ _ _=>by kernel_rfl
theorem za:eG prog 29 false:=fun _=>by kernel_rfl
theorem KE:Enters prog 47 :=b7 func47
theorem aea:Enters prog 114 :=b7 func114
theorem jL:eN prog 90 3:=fun _=>by kernel_rfl
theorem AQ:eG prog 90 true:=fun _=>by kernel_rfl
theorem asD:Enters prog 171 :=b7 func171
theorem Hj:Fd prog 90 1 1:=fun _ _ _=>by kernel_rfl
theorem Hk:Fd prog 90 2 2:=fun _ _ _=>by kernel_rfl
theorem qL:Fd prog 90 0 0:=fun _ _ _=>by kernel_rfl
theorem asE:Enters prog 173 :=b7 func173
theorem asF:Enters prog 172 :=b7 func172
theorem asG:Enters prog 142 :=b7 func142
theorem asH:Enters prog 141 :=b7 func141
theorem KF:mi prog 90 (.agg #[.slice none 0 0, .int .i64 0, .bool false]):=fun _=>by kernel_rfl
theorem asI:Enters prog 143 :=b7 func143
theorem asK:Enters prog 115 :=b7 func115
theorem asL:Enters prog 84 :=b7 func84
theorem asM:Enters prog 85 :=b7 func85
theorem asN:mi prog 44 (.slice none 0 0):=fun _=>by kernel_rfl
theorem asO:Enters prog 86 :=b7 func86
theorem asP:Enters prog 121 :=b7 func121
theorem U0:mi prog 31 (.agg #[.int .i64 0, .int .i64 0, .slice none 0 0, .slice none 0 0, .slice none 0 0, .slice none 0 0, .slice none 0 0, .int .i64 0, .int .i64 0, .slice none 0 0]):=fun _=>by kernel_rfl
theorem rN:eN prog 31 10:=fun _=>by kernel_rfl
theorem CK:eG prog 31 true:=fun _=>by kernel_rfl
theorem Hl:Enters prog 28 :=b7 func28
theorem U1:eN prog 29 1:=fun _=>by kernel_rfl
theorem PG:Enters prog 102 :=b7 func102
theorem U2:Enters prog 105 :=b7 func105
theorem vT:eN prog 73 1:=fun _=>by kernel_rfl
theorem qM:eG prog 73 false:=fun _=>by kernel_rfl
theorem aeb:Enters prog 174 :=b7 func174
theorem vU:Fd prog 83 0 0:=fun _ _ _=>by kernel_rfl
theorem vV:Fd prog 83 1 1:=fun _ _ _=>by kernel_rfl
theorem zb:eG prog 81 false:=fun _=>by kernel_rfl
theorem asR:Enters prog 176 :=b7 func176
theorem asS:Enters prog 175 :=b7 func175
theorem oQ:eG prog 83 true:=fun _=>by kernel_rfl
theorem kk:eN prog 83 2:=fun _=>by kernel_rfl
theorem U3:Enters prog 144 :=b7 func144
theorem PH:mi prog 83 (.agg #[.int .u32 0, .slice none 0 0]):=fun _=>by kernel_rfl
theorem aed:Enters prog 103 :=b7 func103
theorem U4:Enters prog 147 :=b7 func147
theorem aee:Enters prog 36 :=b7 func36
theorem aef:eN prog 81 1:=fun _=>by kernel_rfl
theorem asT:Enters prog 148 :=b7 func148
theorem CL:mi prog 85 (.agg #[.int .i64 0, .int .i64 0, .slice none 0 0, .slice none 0 0, .slice none 0 0, .slice none 0 0, .slice none 0 0, .int .i64 0, .int .i64 0, .slice none 0 0, .slice none 0 0, .int .u32 0, .slice none 0 0, .int .i64 0]):=fun _=>by kernel_rfl
theorem zc:Fd prog 85 0 0:=fun _ _ _=>by kernel_rfl
theorem rO:Fd prog 85 1 10:=fun _ _ _=>by kernel_rfl
theorem xu:eG prog 80 false:=fun _=>by kernel_rfl
theorem PI:eN prog 80 1:=fun _=>by kernel_rfl
theorem CM:Fd prog 85 2 11:=fun _ _ _=>by kernel_rfl
theorem h_:eG prog 85 true:=fun _=>by kernel_rfl
theorem eb:eN prog 85 14:=fun _=>by kernel_rfl
theorem asU:Enters prog 46 :=b7 func46
theorem aeg:Fd prog 85 3 13:=fun _ _ _=>by kernel_rfl
theorem aeh:Enters prog 69 :=b7 func69
theorem asV:Enters prog 106 :=b7 func106
theorem asW:Enters prog 23 :=b7 func23
theorem asX:Enters prog 79 :=b7 func79
theorem asY:Enters prog 107 :=b7 func107
theorem asZ:Enters prog 108 :=b7 func108
theorem as0:Enters prog 64 :=b7 func64
theorem as1:Enters prog 65 :=b7 func65
theorem PJ:Fd prog 87 0 0:=fun _ _ _=>by kernel_rfl
theorem aei:Fd prog 87 1 1:=fun _ _ _=>by kernel_rfl
theorem as2:Enters prog 66 :=b7 func66
theorem as3:Enters prog 67 :=b7 func67
theorem as4:Fd prog 87 2 7:=fun _ _ _=>by kernel_rfl
theorem as5:Fd prog 87 3 8:=fun _ _ _=>by kernel_rfl
theorem as6:Enters prog 68 :=b7 func68
theorem as7:Enters prog 70 :=b7 func70
theorem as8:eN prog 9 1:=fun _=>by kernel_rfl
theorem as9:eG prog 9 false:=fun _=>by kernel_rfl
theorem ata:Enters prog 55 :=b7 func55
theorem aej:Enters prog 48 :=b7 func48
theorem aek:Enters prog 40 :=b7 func40
theorem U6:Enters prog 39 :=b7 func39
theorem atb:Enters prog 33 :=b7 func33
theorem PK:eN prog 87 9:=fun _=>by kernel_rfl
theorem ael:eG prog 87 true:=fun _=>by kernel_rfl
theorem atc:mi prog 87 (.agg #[.int .i64 0, .int .i64 0, .int .i64 0, .int .i64 0, .int .i64 0, .int .i64 0, .int .i64 0, .int .i64 0, .int .i64 0]):=fun _=>by kernel_rfl
theorem atd:Enters prog 78 :=b7 func78
theorem ate:Enters prog 77 :=b7 func77
theorem aem:Enters prog 34 :=b7 func34
theorem atf:Enters prog 41 :=b7 func41
theorem aen:Enters prog 45 :=b7 func45
theorem aeo:Enters prog 19 :=b7 func19
end
section
namespace cr
section
variable {α:Type} [Inhabited α] {key:α→Int} {l:List α} {i j n k:Nat} {x:α}
def swp (l:List α) (i j:Nat):List α:=(l.set i (l.getD j default)).set j (l.getD i default)
theorem mv:(swp l i j).length=l.length:=by unfold swp;rw [aRK,aRK]
theorem ae6 {i k:Nat} (aq:i<l.length):(l.set i x).getD k default=if k=i then x else l.getD k default:=by
 rw [aRB,aRB,aWI];by_cases e:i=k
 ·subst e;rw [aRP rfl,aRP rfl];simp [aq]
 ·rw [aRL e,aRL (λ h=>e h.symm)]
theorem Ds (aq:i<l.length) (ay:j<l.length):(swp l i j).getD k default=if k=j then l.getD i default else if k=i then l.getD j default else l.getD k default:=by
 unfold swp;rw [ae6 (by rw [aRK];exact ay),ae6 aq]
theorem Dt (aq:i<l.length) (ay:j<l.length):(swp l i j).Perm l:=by
 have h:=Array.swap_perm (xs:=l.toArray) (i:=i) (j:=j) (by simpa using aq) (by simpa using ay);have h:=h.toList;have e:(l.toArray.swap i j (by simpa using aq) (by simpa using ay)).toList=swp l i j:=by
  unfold swp;rw [aRB,aRB,aRD aq,aRD ay];simp [Array.swap]
 rw [e] at h;simpa using h
def qj (key:α→Int) (l:List α) (j:Nat):List α :=
 if 0<j∧key (l.getD j default)<key (l.getD ((j - 1) / 2) default) then qj key (swp l ((j - 1) / 2) j) ((j - 1) / 2) else l
termination_by j
decreasing_by omega
def od (key:α→Int) (n:Nat) (l:List α) (i:Nat):Nat:=if 2 * i+2<n∧key (l.getD (2 * i+2) default)<key (l.getD (2 * i+1) default) then 2 * i+2 else 2 * i+1
theorem Mu:i<od key n l i:=by unfold od;split<;>omega
theorem X3 (h:2 * i+1<n):od key n l i<n:=by unfold od;split<;>omega
theorem azs:(od key n l i - 1) / 2=i:=by unfold od;split<;>omega
theorem ai4 (ar:0<k) (hn:k<n) (hp:(k - 1) / 2=i):key (l.getD (od key n l i) default)≤key (l.getD k default):=by
 have:k=2 * i+1∨k=2 * i+2:=by omega
 unfold od;split
 ·rename_i h
  rcases this with rfl | rfl
  ·omega
  ·exact aTb _
 ·rename_i h
  rcases this with rfl | rfl
  ·exact aTb _
  ·have:¬ key (l.getD (2 * i+2) default)<key (l.getD (2 * i+1) default):=λ fC=>h ⟨hn,fC⟩;omega
def j5 (key:α→Int) (n:Nat) (l:List α) (i:Nat):List α :=
 if 2 * i+1<n∧key (l.getD (od key n l i) default)<key (l.getD i default) then j5 key n (swp l i (od key n l i)) (od key n l i) else l
termination_by n - i
decreasing_by rename_i h;have:=Mu (key:=key) (n:=n) (l:=l) (i:=i);omega
theorem aEg:∀ (j:Nat) (l:List α),(qj key l j).length=l.length:=by
 intro j;induction j using Nat.strongRecOn with
 | ind j bD =>
  intro l;unfold qj;split
  ·rw [bD _ (by omega),mv]
  ·rfl
theorem aEh:∀ (j:Nat) (l:List α),j<l.length→(qj key l j).Perm l:=by
 intro j;induction j using Nat.strongRecOn with
 | ind j bD =>
  intro l az;unfold qj;split
  ·exact (bD _ (by omega) _ (by rw [mv];omega)).trans (Dt (by omega) az)
  ·exact aVM _
theorem adQ (n:Nat):∀ (m i:Nat) (l:List α),n - i≤m→(j5 key n l i).length=l.length:=by
 intro m;induction m with
 | zero=>intro i l h;unfold j5;rw [aRL (by omega)]
 | succ m bD =>
  intro i l h;unfold j5;split
  ·have:=Mu (key:=key) (n:=n) (l:=l) (i:=i);rw [bD _ _ (by omega),mv]
  ·rfl
theorem adR (n:Nat):∀ (m i:Nat) (l:List α),n - i≤m→n≤l.length→i<l.length→(j5 key n l i).Perm l:=by
 intro m;induction m with
 | zero=>intro i l h _ _;unfold j5;rw [aRL (by omega)]
 | succ m bD =>
  intro i l h hn aq;unfold j5;split
  ·rename_i hc
   have:=Mu (key:=key) (n:=n) (l:=l) (i:=i);have:=X3 (key:=key) (l:=l) hc.1;exact (bD _ _ (by omega) (by rw [mv];exact hn) (by rw [mv];omega)).trans (Dt aq (by omega))
  ·exact aVM _
theorem arK (n:Nat):∀ (m i:Nat) (l:List α),n - i≤m→n≤l.length→i<l.length→∀ k,n≤k→i<n→(j5 key n l i).getD k default=l.getD k default:=by
 intro m;induction m with
 | zero=>intro i l h _ _ k _ _;unfold j5;rw [aRL (by omega)]
 | succ m bD =>
  intro i l h hn aq k ar dp;unfold j5;split
  ·rename_i hc
   have τ:=Mu (key:=key) (n:=n) (l:=l) (i:=i);have aa:=X3 (key:=key) (l:=l) hc.1;rw [bD _ _ (by omega) (by rw [mv];exact hn) (by rw [mv];omega) k ar aa,Ds aq (by omega),aRL (by omega),aRL (by omega)]
  ·rfl
def Heap (key:α→Int) (n:Nat) (l:List α):Prop:=∀ i,0<i→i<n→key (l.getD ((i - 1) / 2) default)≤key (l.getD i default)
theorem aEf (n:Nat):∀ (j:Nat) (l:List α),j<n→n≤l.length→(∀ i,0<i→i<n→i≠j→key (l.getD ((i - 1) / 2) default)≤key (l.getD i default))→
  (∀ i,0<i→i<n→(i - 1) / 2=j→0<j→key (l.getD ((j - 1) / 2) default)≤key (l.getD i default))→Heap key n (qj key l j):=by
 intro j;induction j using Nat.strongRecOn with
 | ind j bD =>
  intro l ay hn τ aa;unfold qj;split
  ·rename_i hc
   obtain ⟨aH,bw⟩:=hc;have aK:∀ k,(swp l ((j - 1) / 2) j).getD k default=if k=j then l.getD ((j - 1) / 2) default else if k=(j - 1) / 2 then l.getD j default else l.getD k default:=λ k=>Ds (by omega) (by omega)
   refine bD _ (by omega) _ (by omega) (by rw [mv];exact hn) (λ i km dp fh=> ?_) (λ i km dp hp zg=> ?_)
   ·rw [aK,aK];by_cases e:i=j
    ·subst e;rw [aRP rfl,aRL (by omega),aRP rfl];omega
    ·rw [aRL e,aRL fh];by_cases bj:(i - 1) / 2=j
     ·rw [aRP bj];exact aa i km dp bj aH
     ·rw [aRL bj];by_cases cV:(i - 1) / 2=(j - 1) / 2
      ·rw [aRP cV];have:=τ i km dp e;rw [cV] at this;omega
      ·rw [aRL cV];exact τ i km dp e
   ·rw [aK,aK];rw [aRL (by omega),aRL (by omega)];have QN:=τ ((j - 1) / 2) zg (by omega) (by omega);by_cases e:i=j
    ·rw [aRP e];exact QN
    ·rw [aRL e,aRL (by omega)];have:=τ i km dp e;rw [hp] at this;omega
  ·rename_i hc
   intro i km dp;by_cases e:i=j
   ·subst e;have:¬ key (l.getD i default)<key (l.getD ((i - 1) / 2) default):=λ h=>hc ⟨km,h⟩;omega
   ·exact τ i km dp e
theorem arJ (n:Nat):∀ (m i0:Nat) (l:List α),n - i0≤m→i0<l.length→n≤l.length→(∀ i,0<i→i<n→(i - 1) / 2≠i0→key (l.getD ((i - 1) / 2) default)≤key (l.getD i default))→
  (∀ i,0<i→i<n→(i - 1) / 2=i0→0<i0→key (l.getD ((i0 - 1) / 2) default)≤key (l.getD i default))→Heap key n (j5 key n l i0):=by
 intro m;induction m with
 | zero =>
  intro i0 l h _ _ τ _;unfold j5;rw [aRL (by omega)];intro i km dp;exact τ i km dp (by omega)
 | succ m bD =>
  intro i0 l h HW hn τ aa;unfold j5;split
  ·rename_i hc
   obtain ⟨Wy,bw⟩:=hc;have g1:=Mu (key:=key) (n:=n) (l:=l) (i:=i0);have g2:=X3 (key:=key) (l:=l) Wy;have g3:=azs (key:=key) (n:=n) (l:=l) (i:=i0);have g4:=λ k ar hn hp=>ai4 (key:=key) (n:=n) (l:=l) (i:=i0) (k:=k) ar hn hp;generalize ay:od key n l i0=j at *
   have aK:∀ k,(swp l i0 j).getD k default=if k=j then l.getD i0 default else if k=i0 then l.getD j default else l.getD k default:=λ k=>Ds HW (by omega)
   refine bD _ _ (by omega) (by rw [mv];omega) (by rw [mv];exact hn) (λ i km dp fh=> ?_) (λ i km dp hp zg=> ?_)
   ·rw [aK,aK];rw [aRL fh];by_cases e:(i - 1) / 2=i0
    ·rw [aRP e];by_cases bj:i=j
     ·rw [aRP bj];omega
     ·rw [aRL bj,aRL (by omega)];exact g4 i km dp e
    ·rw [aRL e];by_cases bj:i=j
     ·omega
     ·rw [aRL bj];by_cases cV:i=i0
      ·rw [aRP cV];have:=aa j (by omega) g2 g3 (by omega);rw [cV];exact this
      ·rw [aRL cV];exact τ i km dp e
   ·rw [aK,aK,g3];rw [aRL (by omega),aRP rfl,aRL (by omega),aRL (by omega)];have:=τ i km dp (by omega);rw [hp] at this;exact this
  ·rename_i hc
   intro i km dp;by_cases e:(i - 1) / 2=i0
   ·have Wy:2 * i0+1<n:=by omega
    have:¬ key (l.getD (od key n l i0) default)<key (l.getD i0 default):=λ h=>hc ⟨Wy,h⟩;have:=ai4 (key:=key) (n:=n) (l:=l) km dp e;rw [e];omega
   ·exact τ i km dp e
theorem Heap.min (h:Heap key n l):∀ i,i<n→key (l.getD 0 default)≤key (l.getD i default):=by
 intro i;induction i using Nat.strongRecOn with
 | ind i bD =>
  intro aq;by_cases aH:0<i
  ·exact Int.le_trans (bD ((i - 1) / 2) (by omega) (by omega)) (h i aH aq)
  ·have:i=0:=by omega
   subst this;exact aTb _
def push (key:α→Int) (l:List α) (x:α):List α:=qj key (l++ [x]) l.length
theorem MN:(push key l x).length=l.length+1:=by unfold push;rw [aEg,aRH];rfl
theorem aj7:(push key l x).Perm (x::l):=(aEh _ _ (by rw [aRH];simp)).trans (aVK x l)
theorem ab8 (h:k<l.length):(l++ [x]).getD k default=l.getD k default:=by
 rw [aRB,aRB,aRX h]
theorem aBG (h:Heap key l.length l):Heap key (push key l x).length (push key l x):=by
 rw [MN];refine aEf _ _ _ (by omega) (by simp) (λ i km dp fh=> ?_) (λ i km dp hp aH=>by omega);rw [ab8 (by omega),ab8 (by omega)];exact h i km (by omega)
def x_ (key:α→Int) (l:List α):List α:=j5 key (l.length - 1) (swp l 0 (l.length - 1)) 0
def oo (key:α→Int) (l:List α):List α:=(x_ key l).take (l.length - 1)
theorem aj0:(x_ key l).length=l.length:=by unfold x_;rw [adQ _ _ _ _ (aRN _),mv]
theorem IF:(oo key l).length=l.length - 1:=by unfold oo;rw [aRE,aj0];omega
theorem ajZ (aH:0<l.length):(x_ key l).getD (l.length - 1) default=l.getD 0 default:=by
 unfold x_;by_cases τ:l.length - 1=0
 ·unfold j5;rw [aRL (by omega),Ds aH (by omega),aRP rfl]
 ·rw [arK _ _ _ _ (aRN _) (by rw [mv];omega) (by rw [mv];omega) _ (aRN _) (by omega),Ds aH (by omega),aRP rfl]
theorem aj2 (aH:0<l.length):(l.getD 0 default::oo key l).Perm l:=by
 have τ:(x_ key l).Perm l:=by
  unfold x_;exact (adR _ _ _ _ (aRN _) (by rw [mv];omega) (by rw [mv];exact aH)).trans (Dt aH (by omega))
 have aa:oo key l++ [l.getD 0 default]=x_ key l:=by
  have e:=ajZ (key:=key) aH;have az:=aj0 (key:=key) (l:=l);unfold oo;rw [← e,aRB,aRD (by omega),aSK];rw [← aR2 (by omega)];exact aR1 (by omega)
 exact ((aVK _ _).symm.trans (by rw [aa])).trans τ
theorem aj1 (h:Heap key l.length l) (aH:0<l.length):Heap key (oo key l).length (oo key l):=by
 rw [IF];have hd:Heap key (l.length - 1) (x_ key l):=by
  unfold x_;refine arJ _ _ _ _ (aRN _) (by rw [mv];exact aH) (by rw [mv];omega) (λ i km dp fh=> ?_) (λ i _ _ _ aH=>absurd aH (by omega));rw [Ds aH (by omega),Ds aH (by omega),aRL (by omega),aRL fh,aRL (by omega),aRL (by omega)];exact h i km (by omega)
 intro i km dp;have aG:∀ k,k<l.length - 1→(oo key l).getD k default=(x_ key l).getD k default:=λ k ar=>by
  unfold oo;rw [aRB,aRB,aSl,aRP ar]
 rw [aG _ (by omega),aG _ dp];exact hd i km dp
theorem Heap.least (h:Heap key l.length l):∀ y∈l,key (l.getD 0 default)≤key y:=by
 intro y aL;obtain ⟨i,aq,rfl⟩:=aSw.1 aL;have:=h.min i aq
 rwa [show l.getD i default=l[i] by rw [aRB,aRD aq];rfl] at this
end
end cr
end
section
namespace qC
section
variable {α:Type} {cU:α→List α} {k h:α→Int} {src:α→Prop} {x y s b:α} {d rK D:Int} {aB AV:α→Int} {Q qF:List (α×Int)} {rest:List α} {e:α×Int}
inductive oK (cU:α→List α) (k:α→Int) (src:α→Prop):α→Int→Prop
 | start {s:α} (hs:src s):oK cU k src s 0
 | step {x y:α} {d:Int} (hx:oK cU k src x d) (aL:y∈cU x):oK cU k src y (d+k y)
def uh (cU:α→List α) (k:α→Int) (src:α→Prop) (x:α) (d:Int):Prop:=oK cU k src x d∧∀ rK,oK cU k src x rK→d≤rK
structure i_ (cU:α→List α) (k h:α→Int):Prop where
 sf:∀ x,∀ y∈cU x,0<k y
 aH:∀ x,0≤h x
 ar:∀ x,∀ y∈cU x,h x≤k y+h y
theorem oK.q6 (o:i_ cU k h) (r:oK cU k src x d):0≤d:=by
 induction r with
 | start _=>exact aTb 0
 | step _ aL bD=>have:=o.sf _ _ aL;omega
theorem uh.uniq (τ:uh cU k src x d) (aa:uh cU k src x rK):d=rK:=Int.le_antisymm (τ.2 _ aa.1) (aa.2 _ τ.1)
structure Inv (cU:α→List α) (k h:α→Int) (src:α→Prop) (aB:α→Int) (Q:List (α×Int)) (c_:α) (rest:List α):Prop where
 q:∀ e∈Q,(src e.1∧e.2=0)∨∃ p,0≤aB p∧e.1∈cU p∧e.2=aB p+k e.1
 neg:∀ x,aB x<0→aB x= -1
 oP:∀ x,0≤aB x→uh cU k src x (aB x)
 pred:∀ x,0≤aB x→(src x∧aB x=0)∨∃ p,0≤aB p∧x∈cU p∧aB x=aB p+k x
 ML:∀ x,0≤aB x→∀ y∈cU x,0≤aB y∨(y,aB x+k y)∈Q∨(x=c_∧y∈rest)
 M6:∀ s,src s→0≤aB s∨(s,0)∈Q
 mono:∀ x,0≤aB x→∀ e∈Q,aB x+h x≤e.2+h e.1
 amu:rest≠ []→0≤aB c_∧(∀ y∈rest,y∈cU c_)∧∀ z,0≤aB z→aB z+h z≤aB c_+h c_
theorem Inv.akp (i:Inv cU k h src aB Q x rest) (he:e∈Q):oK cU k src e.1 e.2:=by
 rcases i.q e he with ⟨τ,aa⟩ | ⟨p,τ,aa,aw⟩
 ·rw [aa];exact .start τ
 ·rw [aw];exact .step (i.oP p τ).1 aa
theorem Inv.front (o:i_ cU k h) (i:Inv cU k h src aB Q s []) (r:oK cU k src x d):aB x<0→∃ e∈Q,e.2+h e.1≤d+h x:=by
 induction r with
 | start hs =>
  intro hx;rcases i.M6 _ hs with τ | τ
  ·omega
  ·exact ⟨_,τ,aTb _⟩
 | @step x y d r aL bD =>
  intro aLi;by_cases hx:aB x<0
  ·obtain ⟨e,he,hle⟩:=bD hx;have:=o.ar x y aL;exact ⟨e,he,by omega⟩
  ·rcases i.ML x (by omega) y aL with τ | τ | ⟨_,τ⟩
   ·omega
   ·have:=(i.oP x (by omega)).2 d r;exact ⟨_,τ,by dsimp only;omega⟩
   ·simp at τ
theorem Inv.aBq (i:Inv cU k h src aB Q x []) (hp:Q.Perm (e::qF)) (hd:0≤aB e.1):Inv cU k h src aB qF x []:=by
 have hs:∀ z∈qF,z∈Q:=λ z bs=>hp.symm.subset (aRQ _ bs);have I:∀ z∈Q,z=e∨z∈qF:=λ z bs=>aRW.1 (hp.subset bs);refine ⟨λ z bs=>i.q z (hs z bs),i.neg,i.oP,i.pred,λ a ha c hc=> ?_,λ s axu=> ?_,λ a ha z bs=>i.mono a ha z (hs z bs),λ hn=>absurd Z hn⟩
 ·rcases i.ML a ha c hc with τ | τ | τ
  ·exact .inl τ
  ·rcases I _ τ with aa | aa
   ·left;rw [← aa] at hd;exact hd
   ·exact .inr (.inl aa)
  ·exact .inr (.inr τ)
 ·rcases i.M6 s axu with τ | τ
  ·exact .inl τ
  ·rcases I _ τ with aa | aa
   ·left;rw [← aa] at hd;exact hd
   ·exact .inr aa
theorem Inv.aBp (o:i_ cU k h) (i:Inv cU k h src aB Q s []) (hp:Q.Perm (e::qF)) (hd:aB e.1<0) (agv:∀ z∈Q,e.2+h e.1≤z.2+h z.1) (Lk:AV e.1=e.2) (fh:∀ z,z≠e.1→AV z=aB z):Inv cU k h src AV qF e.1 (cU e.1)∧0≤e.2:=by
 have hs:∀ z∈qF,z∈Q:=λ z bs=>hp.symm.subset (aRQ _ bs);have I:∀ z∈Q,z=e∨z∈qF:=λ z bs=>aRW.1 (hp.subset bs);have HR:e∈Q:=hp.symm.subset aRZ;have ag1:=i.akp HR;have lA:=ag1.q6 o;have mQ:∀ z,0≤aB z→AV z=aB z:=λ z bs=>fh z (λ a_=>by rw [a_] at bs;omega);have vZ:uh cU k src e.1 e.2:=⟨ag1,λ rK r=>by
  obtain ⟨z,bs,hle⟩:=i.front o r hd;have:=agv z bs
  omega⟩
 have agi:∀ a,0≤AV a→AV a+h a≤e.2+h e.1:=λ a ha=>by
  by_cases a_:a=e.1
  ·subst a_;omega
  ·rw [fh a a_] at ha ⊢;exact i.mono a ha e HR
 refine ⟨⟨λ z bs=> ?_,λ a ha=> ?_,λ a ha=> ?_,λ a ha=> ?_,λ a ha c hc=> ?_,λ a ha=> ?_,λ a ha z bs=> ?_,λ _=>⟨by omega,λ y aL=>aL,λ a ha=>by rw [Lk];exact agi a ha⟩⟩,lA⟩
 ·rcases i.q z (hs z bs) with τ | ⟨p,τ,aa,aw⟩
  ·exact .inl τ
  ·exact .inr ⟨p,by rw [mQ p τ];exact τ,aa,by rw [mQ p τ];exact aw⟩
 ·by_cases a_:a=e.1
  ·subst a_;omega
  ·rw [fh a a_] at ha ⊢;exact i.neg a ha
 ·by_cases a_:a=e.1
  ·rw [a_,Lk];exact vZ
  ·rw [fh a a_] at ha ⊢;exact i.oP a ha
 ·by_cases a_:a=e.1
  ·rw [a_,Lk];rcases i.q e HR with τ | ⟨p,τ,aa,aw⟩
   ·exact .inl τ
   ·exact .inr ⟨p,by rw [mQ p τ];exact τ,aa,by rw [mQ p τ];exact aw⟩
  ·rw [fh a a_] at ha ⊢;rcases i.pred a ha with τ | ⟨p,τ,aa,aw⟩
   ·exact .inl τ
   ·exact .inr ⟨p,by rw [mQ p τ];exact τ,aa,by rw [mQ p τ];exact aw⟩
 ·by_cases a_:a=e.1
  ·exact .inr (.inr ⟨a_,by rw [← a_];exact hc⟩)
  ·rw [fh a a_] at ha ⊢;rcases i.ML a ha c hc with τ | τ | ⟨_,τ⟩
   ·left;rw [mQ c τ];exact τ
   ·rcases I _ τ with aa | aa
    ·left;have:c=e.1:=by rw [← aa]
     rw [this,Lk];exact lA
    ·exact .inr (.inl aa)
   ·simp at τ
 ·rcases i.M6 a ha with τ | τ
  ·left;rw [mQ a τ];exact τ
  ·rcases I _ τ with aa | aa
   ·left;have:a=e.1:=by rw [← aa]
    rw [this,Lk];exact lA
   ·exact .inr aa
 ·have:=agi a ha;have:=agv z (hs z bs);omega
theorem Inv.push (o:i_ cU k h) (i:Inv cU k h src aB Q x (y::rest)) (hp:qF.Perm ((y,aB x+k y)::Q)):Inv cU k h src aB qF x rest:=by
 have hs:∀ z∈Q,z∈qF:=λ z bs=>hp.symm.subset (aRQ _ bs);have hn:(y,aB x+k y)∈qF:=hp.symm.subset aRZ;have I:∀ z∈qF,z=(y,aB x+k y)∨z∈Q:=λ z bs=>aRW.1 (hp.subset bs);obtain ⟨fw,fa,iR⟩:=i.amu (by simp);have ag9:=fa y aRZ;refine ⟨λ z bs=> ?_,i.neg,i.oP,i.pred,λ a ha c hc=> ?_,λ a ha=>(i.M6 a ha).imp id (hs _),λ a ha z bs=> ?_,λ _=>⟨fw,λ c hc=>fa c (aRQ _ hc),iR⟩⟩
 ·rcases I z bs with rfl | τ
  ·exact .inr ⟨x,fw,ag9,Z⟩
  ·exact i.q z τ
 ·rcases i.ML a ha c hc with τ | τ | ⟨τ,aa⟩
  ·exact .inl τ
  ·exact .inr (.inl (hs _ τ))
  ·rcases aRW.1 aa with aw | aw
   ·subst τ;subst aw;exact .inr (.inl hn)
   ·exact .inr (.inr ⟨τ,aw⟩)
 ·rcases I z bs with rfl | τ
  ·have:=iR a ha;have:=o.ar x y ag9;dsimp only;omega
  ·exact i.mono a ha z τ
theorem Inv.skip (i:Inv cU k h src aB Q x (y::rest)) (aL:0≤aB y):Inv cU k h src aB Q x rest:=by
 obtain ⟨fw,fa,iR⟩:=i.amu (by simp);refine ⟨i.q,i.neg,i.oP,i.pred,λ a ha c hc=> ?_,i.M6,i.mono,λ _=>⟨fw,λ c hc=>fa c (aRQ _ hc),iR⟩⟩;rcases i.ML a ha c hc with τ | τ | ⟨τ,aa⟩
 ·exact .inl τ
 ·exact .inr (.inl τ)
 ·rcases aRW.1 aa with aw | aw
  ·subst aw;exact .inl aL
  ·exact .inr (.inr ⟨τ,aw⟩)
theorem Inv.start (hn:∀ x,aB x= -1) (I:∀ e∈Q,src e.1∧e.2=0) (hs:∀ s,src s→(s,0)∈Q):Inv cU k h src aB Q x [] :=
 ⟨λ e he=> .inl (I e he),λ a _=>hn a,λ a ha=>by rw [hn a] at ha;omega,λ a ha=>by rw [hn a] at ha;omega,λ a ha=>by rw [hn a] at ha;omega,λ s τ=> .inr (hs s τ),λ a ha=>by rw [hn a] at ha;omega,λ τ=>absurd rfl τ⟩
theorem Inv.all (o:i_ cU k h) (i:Inv cU k h src aB [] s []) (r:oK cU k src x d):0≤aB x:=by
 by_cases hx:aB x<0
 ·obtain ⟨e,he,_⟩:=i.front o r hx;simp at he
 ·omega
structure Spec (cU:α→List α) (k h:α→Int) (src:α→Prop) (b:α) (aB:α→Int):Prop where
 neg:∀ x,aB x<0→aB x= -1
 oP:∀ x,0≤aB x→uh cU k src x (aB x)∧∀ D,uh cU k src b D→aB x+h x≤D
 known:∀ x d,uh cU k src x d→(∀ D,uh cU k src b D→d+h x≤D)→aB x=d
 pred:∀ x,0≤aB x→(src x∧aB x=0)∨∃ p,0≤aB p∧x∈cU p∧aB x=aB p+k x
theorem Spec.uniq (s1:Spec cU k h src b aB) (s2:Spec cU k h src b AV) (x:α):aB x=AV x:=by
 by_cases τ:0≤aB x
 ·exact (s2.known x _ (s1.oP x τ).1 (s1.oP x τ).2).symm
 ·by_cases aa:0≤AV x
  ·exact s1.known x _ (s2.oP x aa).1 (s2.oP x aa).2
  ·rw [s1.neg x (by omega),s2.neg x (by omega)]
theorem Inv.ends (o:i_ cU k h) (i:Inv cU k h src aB Q s []) (Φ:h b=0) (hm:0≤aB b→∀ x,0≤aB x→aB x+h x≤aB b) (he:(0≤aB b∧∀ e∈Q,aB b<e.2+h e.1)∨Q= []):Spec cU k h src b aB:=by
 refine ⟨i.neg,λ x hx=>⟨i.oP x hx,λ D vZ=> ?_⟩,λ x d hd hle=> ?_,i.pred⟩
 ·by_cases τ:0≤aB b
  ·have:=hm τ x hx;rw [vZ.uniq (i.oP b τ)];exact this
  ·rcases he with he | he
   ·omega
   ·subst he;exact absurd (i.all o vZ.1) τ
 ·by_cases τ:aB x<0
  ·obtain ⟨e,HR,ar⟩:=i.front o hd.1 τ;rcases he with ⟨aa,aw⟩ | aa
   ·have:=hle _ (i.oP b aa);have:=aw e HR;omega
   ·subst aa;simp at HR
  ·exact (i.oP x (by omega)).uniq hd
theorem Spec.end_ (s:Spec cU k h src b aB) (Φ:h b=0) (hd:uh cU k src b D):aB b=D:=s.known b D hd λ aGL τ=>by rw [Φ,hd.uniq τ];omega
theorem oK.ahg (o:i_ cU k h) (r:oK cU k src x d):∃ d,uh cU k src x d:=by
 have:∀ n:Nat,∀ d,oK cU k src x d→d.toNat=n→∃ d,uh cU k src x d:=by
  intro n;induction n using Nat.strongRecOn with
  | ind n bD =>
   intro d r hn;by_cases hex:∃ rK,oK cU k src x rK∧rK<d
   ·obtain ⟨rK,r',bw⟩:=hex;have:=r'.q6 o;exact bD rK.toNat (by omega) rK r' Z
   ·exact ⟨d,r,λ rK r'=>by
     by_cases bw:rK<d
     ·exact absurd ⟨rK,r',bw⟩ hex
     ·omega⟩
 exact this _ d r Z
end
end qC
end
end Go.Proofs.YtlikikpgmmkjbaaGreat
